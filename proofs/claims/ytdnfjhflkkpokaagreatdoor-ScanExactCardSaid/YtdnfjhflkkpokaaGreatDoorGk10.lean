/- Joined texts of the walk, made small by a program. -/
import Derived.Test.YtdnfjhflkkpokaaGreatDoorGk8
import Derived.Test.YtdnfjhflkkpokaaGreatDoorGk7
import Derived.Test.YtdnfjhflkkpokaaGreatDoorGk5
import Derived.Lib.ValidLaws
import Derived.Sort.Walk0
import Derived.Test.YtdnfjhflkkpokaaGreatDoorGk9
import Derived.Test.YtdnfjhflkkpokaaGreatDoorGk1
import Derived.Sort.Statements
import Derived.Test.YtdnfjhflkkpokaaGreatDoorGk4
import Derived.Test.YtdnfjhflkkpokaaGreatDoorRows
import Derived.KernelRfl
set_option linter.unusedSimpArgs false
set_option linter.unusedVariables false
namespace Go.Proofs.YtdnfjhflkkpokaaGreatDoor.Av
open Go
variable {s v t b a:List UInt8}{c:UInt8}{i:Nat}{d suf dn tn:List Rdn}{id:Int}
variable {L:List Blk}{K:aoY}
set_option maxHeartbeats 8000000
set_option maxRecDepth 100000
def pw(b:Nat):Nat×Nat:=if 240<=b then(4,b-240)else if 224<=b then(3,b-224)else if 192<=b then(2,b-192)else(1,b)
def SU(n c:Nat):Bool:=decide (¬(n=2/\c<128\/n=3/\c<2048\/n=4/\c<65536\/1114111<c\/55296<=c/\c<57344))
def RY:Nat->List UInt8->Nat->Option Nat
 |0,_,c=>some c
 |_+1,[],_=>none
 |k+1,x::t,c=>if 128<=x.toNat/\x.toNat<192 then RY k t (c*64+x.toNat-128)else none
def XN:Nat->List UInt8->Bool
 |_,[]=>true
 |0,_::_=>true
 | f+1,b::t=>if 128<=b.toNat/\b.toNat<192 then false else if t.length+1<(pw b.toNat).1 then false else
   match RY ((pw b.toNat).1-1) t (pw b.toNat).2 with
   |none=>false
   |some c=>SU (pw b.toNat).1 c&&XN f (t.drop ((pw b.toNat).1-1))
theorem afN(hs:s.length<=1100000)(h:K (.bool (XN s.length s)) L):aoX 138 [.str s] L K:=by
 obtain⟨R,Y⟩:=aoT (XN s.length s);rw[Y]at h;replace h:=hid h;refine aoW ZZ ?_;refine ak (λn T' L'=>∃(f:Nat) (u:List UInt8),f=n/\u.length<=1100000/\Hid (u.length<=f/\XN f u=R)/\T'=[(0,.str u)]/\L=L') (CutS (b:=ao0 _)) ⟨s.length,s,rfl,hs,hid ⟨ao0 _,Y⟩,rfl,rfl⟩ ?_;clear Y hs;rintro _ _ _ ⟨f,u,rfl,hu,P,rfl,rfl⟩;rcases u with _|⟨b,t⟩;have H:=h.o;rw[<- P.o.2,show XN f []=true by cases f<;>rfl]at H;replace H:=hid H;have e0:([]:List UInt8).length=0:=rfl;refine wk ?_;exact aa H.o;obtain⟨u,w⟩:=aoT (b::t);obtain⟨f,rfl⟩:∃g,f=g+1:=⟨f-1,by have:=P.o.1;simp at this;omega⟩;have a1:u.getD 0 0=b:=by rw[<- w];rfl
 have B:u.length=t.length+1:=by rw[<- w];rfl
 have j:=P.o.2;have an:=P.o.1;rw[XN]at j;rw[w]at hu an⊢;obtain⟨x,Q⟩:=aoT (b.toNat);have X:x<256:=by rw[<- Q];exact b.toNat_lt
 rw[Q]at j;have ap:(0:Int)<(u.length:Int):=aso;have w0:IntKind.i64.wrap (x:Int)=(x:Int):=ae aso aso;have V:(b.toNat:Int)=(x:Int):=aso;have r:R=false->Fin L (.bool false) L K:=λe=>aa (by have H:=h.o;rwa[e]at H)
 replace r:=hid r;have N:∀i,u.drop (i+1)=t.drop i:=λi=>by rw[<- w];rfl
 replace w:=hid w;replace B:=hid B;clear Q P;by_cases k:128<=x/\x<192;rw[if_pos k]at j;have c1:¬(240:Int)<=(x:Int):=aso;have c2:¬(224:Int)<=(x:Int):=aso;have c3:¬(192:Int)<=(x:Int):=aso;have c4:(128:Int)<=(x:Int):=aso;have e:=hid j.symm;clear k j;refine wk ?_;exact r.o e.o;rw[if_neg k]at j;obtain⟨⟨n,c0⟩,v⟩:∃p,pw x=p:=⟨_,rfl⟩;rw[v]at j;simp only at j;have M:1<=n/\n<=4/\c0<256:=by
  unfold pw at v
  repeat' split at v
  all_goals (cases v;omega)
 obtain⟨Z,a3,al⟩:=M;replace j:=hid j
 iterate 13 first
  |refine bH ?_
  | (first|refine bv asq ?_|refine aP asq ?_|refine aS ?_|refine cT ?_|refine bJ (fun _=>?_)|refine aH ?_|refine bz ?_)
    simp(config:={maxSteps:=2000000}) only[Kon,push_cast,reduceIte,Nat.reduceEqDiff,Nat.reduceAdd,Nat.reduceMul,Nat.reduceSub,Nat.reduceLT,Nat.reduceLeDiff,Int.reduceLT,Int.reduceLE,Int.reduceAdd,Int.reduceSub,Int.reduceNeg,Int.reduceToNat,Int.reduceEq,reduceCtorEq, *]
  | (first|refine bp asq ?_|refine bm ?_|refine aR ?_|refine bw ?_|refine bP (aG ?_))
    simp only[push_cast,reduceIte,Nat.reduceEqDiff,Nat.reduceAdd,Nat.reduceMul,Nat.reduceSub,Nat.reduceLT,Nat.reduceLeDiff,Int.reduceLT,Int.reduceLE,Int.reduceAdd,Int.reduceSub,Int.reduceNeg,Int.reduceToNat,Int.reduceEq,reduceCtorEq, *]
  |exact bL
  |first|apply bM|apply bq|apply bN|apply br|apply bO|apply bu
  |refine aV ?_
  |refine aQ ?_
  |first|refine aT rfl ?_|refine aU rfl ?_|refine aB rfl ?_ ?_|refine aX rfl (λ_=>?_) (λ_=>?_)|refine aW rfl (λ_=>?_) (λ_=>?_)
  |((first|refine aA (λ_=>?_) (λ_=>?_)|refine aE (λ_=>?_) (λ_=>?_))<;>try simp(config:={maxSteps:=2000000}) only[Kon,push_cast,reduceIte,Nat.reduceEqDiff,Nat.reduceAdd,Nat.reduceMul,Nat.reduceSub,Nat.reduceLT,Nat.reduceLeDiff,Int.reduceLT,Int.reduceLE,Int.reduceAdd,Int.reduceSub,Int.reduceNeg,Int.reduceToNat,Int.reduceEq,reduceCtorEq, *])
  |refine And.intro trivial ?_
  |refine And.intro aso ?_
  |refine be rfl (λ_=>?_) (λ_=>?_)
  |refine And.intro ?_ ?_
 refine Oo (λT2 L2=>T2=[(4,.int .i64 (n:Int)),(3,.int .i64 (c0:Int)),(0,.str u)]/\L=L2) ?_ ?_;unfold pw at v;by_cases G:240<=x;rw[if_pos G]at v;cases v;have c1:(240:Int)<=(x:Int):=aso;have I:IntKind.i64.wrap ((x:Int)-240)=((x-240:Nat):Int):=by rw[ae aso aso];omega
 obtain⟨d,C⟩:=aoT (x-240);rw[C]at I⊢;clear G C k;refine wk ?_;exact jO _ _ asr ⟨rfl,rfl⟩;rw[if_neg G]at v;have c1:¬(240:Int)<=(x:Int):=aso;by_cases O:224<=x;rw[if_pos O]at v;cases v;have c2:(224:Int)<=(x:Int):=aso;have I:IntKind.i64.wrap ((x:Int)-224)=((x-224:Nat):Int):=by rw[ae aso aso];omega
 obtain⟨d,C⟩:=aoT (x-224);rw[C]at I⊢;clear G O C k;refine wk ?_;exact jO _ _ asr ⟨rfl,rfl⟩;rw[if_neg O]at v;have c2:¬(224:Int)<=(x:Int):=aso;by_cases T:192<=x;rw[if_pos T]at v;cases v;have c3:(192:Int)<=(x:Int):=aso;have I:IntKind.i64.wrap ((x:Int)-192)=((x-192:Nat):Int):=by rw[ae aso aso];omega
 obtain⟨d,C⟩:=aoT (x-192);rw[C]at I⊢;clear G O T C k;refine wk ?_;exact jO _ _ asr ⟨rfl,rfl⟩;rw[if_neg T]at v;cases v;have c3:¬(192:Int)<=(x:Int):=aso;have c4:¬(128:Int)<=(x:Int):=aso;clear G O T k;refine wk ?_;exact jO _ _ asr ⟨rfl,rfl⟩;rintro _ _ ⟨rfl,rfl⟩ -;clear v k V w0;by_cases E:t.length+1<n;have q:=j.o;rw[if_pos E]at q;have k1:(u.length:Int)<(n:Int):=by have:=B.o;omega
 have e:=hid q.symm;clear E q;refine wk ?_;exact r.o e.o;have q:=j.o;rw[if_neg E]at q;have k1:¬(u.length:Int)<(n:Int):=by have:=B.o;omega
 have a0:n<=u.length:=by have:=B.o;omega
 obtain⟨o,ho⟩:=aoT (RY (n-1) t c0);rw[ho]at q;replace q:=hid q;clear j;refine wk ?_;refine ak (λm T' L'=>∃(i c:Nat),m=n-i/\1<=i/\i<=n/\c<256*64^(i-1)/\Hid (RY (n-i) (u.drop i) c=o)/\T'=[(5,.int .i64 (i:Int)),(4,.int .i64 (n:Int)),(3,.int .i64 (c:Int)),(0,.str u)]/\L=L') (CutS (b:=ao0 _)) ⟨1,c0,rfl,ao0 _,Z,by simpa using al,hid (by rw[N 0];exact ho),rfl,rfl⟩ ?_;clear ho;rintro _ _ _ ⟨i,c,rfl,av,a2,hc,hO,rfl,rfl⟩;have a4:c<67108864:=by refine aqc hc ?_;have:i=1\/i=2\/i=3\/i=4:=aso;rcases this with rfl|rfl|rfl|rfl<;>decide
 by_cases ai:i<n;have g1:(i:Int)<(n:Int):=aso;have g2:(i:Int)<(u.length:Int):=aso;have g3:=aoV i aso;obtain⟨y,hy⟩:=aoT (u.getD i 0);obtain⟨z,W⟩:=aoT (y.toNat);have ad:z<256:=by rw[<- W];exact y.toNat_lt
 have ar:(y.toNat:Int)=(z:Int):=aso;have a:=hO.o;rw[mQ (show i<u.length by omega),hy,show n-i=(n-(i+1))+1 by omega,RY,W]at a;have I:IntKind.i64.wrap (z:Int)=(z:Int):=ae aso aso;clear W;by_cases A:128<=z/\z<192;rw[if_pos A]at a;have k2:¬(z:Int)<128:=aso;have k3:¬(192:Int)<=(z:Int):=aso;have w2:IntKind.i64.wrap ((c:Int)*64)=(c:Int)*64:=ae aso aso;have w3:IntKind.i64.wrap ((c:Int)*64+(z:Int))=(c:Int)*64+(z:Int):=ae aso aso;have w4:IntKind.i64.wrap ((c:Int)*64+(z:Int)-128)=((c*64+z-128:Nat):Int):=by rw[ae aso aso];omega
 have J:c*64+z-128<256*64^(i+1-1):=by have:i=1\/i=2\/i=3:=aso;rcases this with rfl|rfl|rfl<;>simp at hc⊢<;>omega
 obtain⟨c',S⟩:=aoT (c*64+z-128);rw[S]at w4 a J;replace a:=hid a;clear A S;refine wk ?_;exact ast aso asr ⟨i+1,c',rfl,aso,ai,J,a,rfl,rfl⟩;rw[if_neg A]at a;have l:=q.o;rw[<- a]at l;have e:=hid l.symm;by_cases k2:(z:Int)<128;clear A a l;refine wk ?_;exact r.o e.o;have k3:(192:Int)<=(z:Int):=aso;clear A a l;refine wk ?_;exact r.o e.o
 .have hke:i=n:=aso;subst hke;have g1:¬(i:Int)<(i:Int):=aso;have a:=hO.o;rw[aqq,RY]at a;have l:=q.o;rw[<- a]at l;simp only[SU]at l;have e1:((i:Int)).toNat=i:=aso;have g2:(i:Int)<=(u.length:Int):=aso;have e2:(u.drop i).take (u.length-i)=u.drop i:=apA asp;have U:u.drop i=t.drop (i-1):=(by rw[<- N (i-1),show i-1+1=i by omega]);have D:(i=2/\c<128\/i=3/\c<2048\/i=4/\c<65536\/1114111<c\/55296<=c/\c<57344)->R=false:=λe=>by rw[decide_eq_false (λv=>v e),apO]at l;exact l.symm
  have F:¬(i=2/\c<128\/i=3/\c<2048\/i=4/\c<65536\/1114111<c\/55296<=c/\c<57344)->XN f (u.drop i)=R:=λe=>by rw[decide_eq_true e,apy]at l;rw[U];exact l
  replace D:=hid D;replace F:=hid F;replace U:=hid U;clear l a q
  repeat' first
   |refine bH ?_
   | (first|refine bv asq ?_|refine aP asq ?_|refine aS ?_|refine cT ?_|refine bJ (fun _=>?_)|refine aH ?_|refine bz ?_)
     simp(config:={maxSteps:=2000000}) only[Kon,push_cast,reduceIte,Nat.reduceEqDiff,Nat.reduceAdd,Nat.reduceMul,Nat.reduceSub,Nat.reduceLT,Nat.reduceLeDiff,Int.reduceLT,Int.reduceLE,Int.reduceAdd,Int.reduceSub,Int.reduceNeg,Int.reduceToNat,Int.reduceEq,reduceCtorEq, *]
   | (first|refine bp asq ?_|refine bm ?_|refine aR ?_|refine bw ?_|refine bP (aG ?_))
     simp only[push_cast,reduceIte,Nat.reduceEqDiff,Nat.reduceAdd,Nat.reduceMul,Nat.reduceSub,Nat.reduceLT,Nat.reduceLeDiff,Int.reduceLT,Int.reduceLE,Int.reduceAdd,Int.reduceSub,Int.reduceNeg,Int.reduceToNat,Int.reduceEq,reduceCtorEq, *]
   |exact bL
   |first|apply bM|apply bq|apply bN|apply br|apply bO|apply bu
   |refine aV ?_
   |refine aQ ?_
   |first|refine aT rfl ?_|refine aU rfl ?_|refine aB rfl ?_ ?_|refine aX rfl (λ_=>?_) (λ_=>?_)|refine aW rfl (λ_=>?_) (λ_=>?_)
   |((first|refine aA (λ_=>?_) (λ_=>?_)|refine aE (λ_=>?_) (λ_=>?_))<;>try simp(config:={maxSteps:=2000000}) only[Kon,push_cast,reduceIte,Nat.reduceEqDiff,Nat.reduceAdd,Nat.reduceMul,Nat.reduceSub,Nat.reduceLT,Nat.reduceLeDiff,Int.reduceLT,Int.reduceLE,Int.reduceAdd,Int.reduceSub,Int.reduceNeg,Int.reduceToNat,Int.reduceEq,reduceCtorEq, *])
   |refine And.intro trivial ?_
   |refine And.intro aso ?_
   |refine be rfl (λ_=>?_) (λ_=>?_)
   |refine And.intro ?_ ?_
  rename_i Q;exact r.o (D.o aso);rename_i Q;refine ast aso (CutL (b:=ao0 _)) ⟨f,u.drop i,rfl,?_,hid ⟨?_,F.o aso⟩,rfl,rfl⟩;simp;omega;simp;omega
def Cn(x:Nat):Prop:=128<=x/\x<192
instance (x:Nat):Decidable (Cn x):=by unfold Cn;infer_instance
def WL(n b0 b1:Nat):Prop:=n<2\/¬Cn b1\/(b0-192)*64+b1-128<128
def aad(n b0 b1 b2:Nat):Prop:=n<3\/¬Cn b1\/¬Cn b2\/((b0-224)*64+b1-128)*64+b2-128<2048\/55296<=((b0-224)*64+b1-128)*64+b2-128/\((b0-224)*64+b1-128)*64+b2-128<57344
def Yk(n b0 b1 b2 b3:Nat):Prop:=n<4\/¬Cn b1\/¬Cn b2\/¬Cn b3\/(((b0-240)*64+b1-128)*64+b2-128)*64+b3-128<65536\/1114111<(((b0-240)*64+b1-128)*64+b2-128)*64+b3-128
instance (n b0 b1:Nat):Decidable (WL n b0 b1):=by unfold WL;infer_instance
instance (n b0 b1 b2:Nat):Decidable (aad n b0 b1 b2):=by unfold aad;infer_instance
instance (n b0 b1 b2 b3:Nat):Decidable (Yk n b0 b1 b2 b3):=by unfold Yk;infer_instance
def aey(n b0 b1 b2 b3:Nat):Nat :=
 if b0<128 then 1 else if b0<192 then 0
 else if b0<224 then(if WL n b0 b1 then 0 else 2)
 else if b0<240 then(if aad n b0 b1 b2 then 0 else 3)
 else(if Yk n b0 b1 b2 b3 then 0 else 4)
set_option maxRecDepth 100000 in
set_option maxHeartbeats 4000000 in
theorem acO(n a c d e:Nat)(i:a<256)(j:c<256)(h:d<256)(g:e<256):
  (aey n a c d e=0/\Lib.decodeN n a c d e=(65533,1))\/(1<=aey n a c d e/\(Lib.decodeN n a c d e).2=aey n a c d e/\¬((Lib.decodeN n a c d e).1=65533/\(Lib.decodeN n a c d e).2=1)):=by
 unfold aey Lib.decodeN;by_cases f:a<128
 grind
 by_cases c2:a<192
 grind
 by_cases c3:a<224;by_cases b:WL n a c;rw[if_pos b];unfold WL Cn at b
 grind
 rw[if_neg b];unfold WL Cn at b
 grind
 by_cases c4:a<240;by_cases b:aad n a c d;rw[if_pos b];unfold aad Cn at b
 grind
 rw[if_neg b];unfold aad Cn at b
 grind
 by_cases b:Yk n a c d e;rw[if_pos b];unfold Yk Cn at b
 grind
 rw[if_neg b];unfold Yk Cn at b
 grind
theorem aie(b:UInt8)(t:List UInt8)(f:Nat):XN (f+1) (b::t)=if aey (t.length+1) b.toNat (t.getD 0 0).toNat (t.getD 1 0).toNat (t.getD 2 0).toNat=0 then false else XN f ((b::t).drop (aey (t.length+1) b.toNat (t.getD 0 0).toNat (t.getD 1 0).toNat (t.getD 2 0).toNat)):=by
 have j:=b.toNat_lt;rw[XN];obtain⟨x,k⟩:=aoT (b.toNat);rw[k]at j⊢;unfold aey;by_cases i:x<128;have g:¬(128<=x/\x<192):=aso;have d:pw x=(1,x):=by unfold pw;rw[if_neg aso,if_neg aso,if_neg aso]
 rw[d,if_neg g,if_pos i];simp only[RY,aqq,aq4];rw[if_neg aso,if_neg aso,show SU 1 x=true from decide_eq_true aso];rfl;by_cases c2:x<192;simp[*];have g:¬(128<=x/\x<192):=aso;rw[if_neg g,if_neg i,if_neg c2];by_cases c3:x<224;have d:pw x=(2,x-192):=by unfold pw;rw[if_neg aso,if_neg aso,if_pos aso]
 rw[if_pos c3,d];simp only[show 2-1=1 from rfl];rcases t with _|⟨y,t⟩;rfl;simp only[apb,aqR,RY];rw[if_neg aso];by_cases a:WL (t.length+1+1) x y.toNat;simp only[if_pos a,if_true];by_cases c:128<=y.toNat/\y.toNat<192;simp only[if_pos c];unfold WL Cn at a;rw[show SU 2 ((x-192)*64+y.toNat-128)=false from decide_eq_false aso];rfl;simp[*];simp only[if_neg a];unfold WL Cn at a;simp only[if_pos (show 128<=y.toNat/\y.toNat<192 by omega),Nat.reduceEqDiff,if_false];rw[show SU 2 ((x-192)*64+y.toNat-128)=true from decide_eq_true aso];rfl;rw[if_neg c3];by_cases c4:x<240;have d:pw x=(3,x-224):=by unfold pw;rw[if_neg aso,if_pos aso]
 rw[if_pos c4,d];simp only[show 3-1=2 from rfl];rcases t with _|⟨y,_|⟨z,t⟩⟩;simp[aad];simp[aad];simp only[apb,aqR,ark,RY];rw[if_neg aso];by_cases a:aad (t.length+1+1+1) x y.toNat z.toNat;simp only[if_pos a,if_true];by_cases c:128<=y.toNat/\y.toNat<192;by_cases e:128<=z.toNat/\z.toNat<192;simp only[if_pos c,if_pos e];unfold aad Cn at a;rw[show SU 3 (((x-224)*64+y.toNat-128)*64+z.toNat-128)=false from decide_eq_false aso];rfl;simp only[if_pos c,if_neg e];simp only[if_neg c];simp only[if_neg a];unfold aad Cn at a;simp only[if_pos (show 128<=y.toNat/\y.toNat<192 by omega),if_pos (show 128<=z.toNat/\z.toNat<192 by omega),Nat.reduceEqDiff,if_false];rw[show SU 3 (((x-224)*64+y.toNat-128)*64+z.toNat-128)=true from decide_eq_true aso];rfl;have d:pw x=(4,x-240):=by unfold pw;rw[if_pos aso]
 rw[if_neg c4,d];simp only[show 4-1=3 from rfl];rcases t with _|⟨y,_|⟨z,_|⟨w,t⟩⟩⟩;simp[Yk];simp[Yk];simp[Yk];simp only[apb,aqR,ark,RY];rw[if_neg aso];by_cases a:Yk (t.length+1+1+1+1) x y.toNat z.toNat w.toNat;simp only[if_pos a,if_true];by_cases c:128<=y.toNat/\y.toNat<192;by_cases e:128<=z.toNat/\z.toNat<192;by_cases h:128<=w.toNat/\w.toNat<192;simp only[if_pos c,if_pos e,if_pos h];unfold Yk Cn at a;rw[show SU 4 ((((x-240)*64+y.toNat-128)*64+z.toNat-128)*64+w.toNat-128)=false from decide_eq_false aso];rfl;simp only[if_pos c,if_pos e,if_neg h];simp only[if_pos c,if_neg e];simp only[if_neg c];simp only[if_neg a];unfold Yk Cn at a;simp only[if_pos (show 128<=y.toNat/\y.toNat<192 by omega),if_pos (show 128<=z.toNat/\z.toNat<192 by omega),if_pos (show 128<=w.toNat/\w.toNat<192 by omega),Nat.reduceEqDiff,if_false];rw[show SU 4 ((((x-240)*64+y.toNat-128)*64+z.toNat-128)*64+w.toNat-128)=true from decide_eq_true aso];rfl
theorem aaS:∀(f:Nat) (l:List UInt8),l.length<=f->XN f l=Lib.validD l
 |_,[],_=>by simp[XN,Lib.validD_nil]
 |0,_::_,h=>by simp at h
 | f+1,b::t,h=>by
   rw[aie,Lib.validD_step _ asp,Lib.decodeL_N];simp only[apb,aqR,ark];rcases acO (t.length+1) b.toNat (t.getD 0 0).toNat (t.getD 1 0).toNat (t.getD 2 0).toNat b.toNat_lt (t.getD 0 0).toNat_lt (t.getD 1 0).toNat_lt (t.getD 2 0).toNat_lt with⟨c,a⟩|⟨c,a,d⟩
   .simp_all
   .rw[if_neg aso,if_neg d,a];refine aaS f _ ?_
    grind
def Oz(s:List UInt8):Bool:=s.all ic&&decide (0<s.length)
theorem fS{s:List UInt8}(u:s.length<=1100000){L:List Blk}{K:aoY}(h:K (.bool (Oz s)) L):aoX 189 [.str s] L K:=by
 have no:s.all ic=false->K (.bool false) L:=λe=>by have g:=h;rwa[Oz,e,apO]at g
 replace no:=hid no;replace h:=hid h;refine aoW VT ?_;refine ak (λn T' L'=>∃i:Nat,n=s.length-i/\i<=s.length/\Hid ((s.take i).all ic=true)/\T'=[(3,.int .i64 (i:Int)),(0,.str s)]/\L=L') (CutS (b:=ao0 _)) ⟨0,rfl,ao2 _,hid rfl,rfl,rfl⟩ ?_;rintro _ _ _ ⟨i,rfl,t,a,rfl,rfl⟩;by_cases d:i<s.length
 .have g1:(i:Int)<(s.length:Int):=aso;have v:=aoV i aso;obtain⟨c,q⟩:=aoT (s.getD i 0);have p:c∈s:=(by rw[<- q];simp[d]);have j:s.take (i+1)=s.take i++[c]:=(by rw[aph d,<- q];simp[d]);have m:=hid λ(e:ic c=false)=>no.o (List.all_eq_false.2 ⟨c,p,by rw[e];simp⟩)
  have k:=hid λ(e:ic c=true)=>show(s.take (i+1)).all ic=true by rw[j,arW,a.o];simp[e]
  clear p j
  repeat' first
   |refine bH ?_
   | (first|refine bv asq ?_|refine aP asq ?_|refine aS ?_|refine cT ?_|refine bJ (fun _=>?_)|refine aH ?_|refine bz ?_)
     refine sm ?_
   | (first|refine bp asq ?_|refine bm ?_|refine aR ?_|refine bw ?_|refine bP (aG ?_))
     refine sl ?_
   |exact bL
   |first|apply bM|apply bq|apply bN|apply br|apply bO|apply bu
   |refine aV ?_
   |refine aQ ?_
   |first|refine aT rfl ?_|refine aU rfl ?_|refine aB rfl ?_ ?_|refine aX rfl (λ_=>?_) (λ_=>?_)|refine aW rfl (λ_=>?_) (λ_=>?_)
   |((first|refine aA (λ_=>?_) (λ_=>?_)|refine aE (λ_=>?_) (λ_=>?_))<;>try refine sm ?_)
   |refine And.intro trivial ?_
   |refine And.intro aso ?_
   |refine be rfl (λ_=>?_) (λ_=>?_)
   |refine And.intro ?_ ?_
  rename_i r;refine aa (m.o ?_);simp only[ic,arA,decide_eq_false_iff_not];omega;rename_i r;refine ast aso (CutL (b:=ao0 _)) ⟨i+1,rfl,aso,hid (k.o ?_),rfl,rfl⟩;simp only[ic,ao3,decide_eq_true_eq];omega
 have l:i=s.length:=aso;subst l;have g1:¬(s.length:Int)<(s.length:Int):=aso;have f:=a.o;rw[apg]at f;have g:=h.o;rw[Oz,f,apy,show decide (0<s.length)=decide ((0:Int)<(s.length:Int))by simp]at g;replace g:=hid g;clear f;refine wk ?_;exact aa g.o
def abX(s:List UInt8):Nat:=s.foldl (λn c=>10*n+(c.toNat-48)) 0
theorem aml(C:s.length<=4)(j:∀c∈s,ic c=true)(h:K (.int .i64 (abX s:Nat)) L):aoX 190 [.str s] L K:=by
 replace h:=hid h;replace j:=hid j;refine aoW Z0 ?_;refine ak (λm T' L'=>∃(i n:Nat),m=s.length-i/\i<=s.length/\n<10^i/\Hid (n=abX (s.take i))/\T'=[(4,.int .i64 (i:Int)),(3,.int .i64 (n:Int)),(0,.str s)]/\L=L') (CutS (b:=ao0 _)) ⟨0,0,rfl,ao2 _,by decide,hid rfl,rfl,rfl⟩ ?_;rintro _ _ _ ⟨i,n,rfl,B,t,l,rfl,rfl⟩;by_cases a:i<s.length;have g1:(i:Int)<(s.length:Int):=aso;have F:=aoV i aso;obtain⟨c,r⟩:=aoT (s.getD i 0);have q:=j.o c (by rw[<- r];simp[a]);simp only[ic,ao3,decide_eq_true_eq]at q;have f:s.take (i+1)=s.take i++[c]:=by rw[aph a,<- r];simp[a]
 obtain⟨x,w⟩:∃x:Nat,c.toNat=48+x:=⟨c.toNat-48,aso⟩;have y:x<=9:=aso;have v:(c.toNat:Int)=48+(x:Int):=aso;have u:n<1000:=by refine aqc t ?_;have:i=0\/i=1\/i=2\/i=3:=aso;rcases this with rfl|rfl|rfl|rfl<;>decide
 have d:abX (s.take (i+1))=10*n+x:=by rw[f,abX,arn,<- abX,<- l.o];simp only[ap0,ars];omega
 have A:IntKind.u8.wrap (48+(x:Int)-48)=(x:Int):=by rw[dw aso aso];omega
 have E:IntKind.i64.wrap (x:Int)=(x:Int):=ae aso aso;have D:IntKind.i64.wrap (10*(n:Int))=10*(n:Int):=ae aso aso;have z:IntKind.i64.wrap (10*(n:Int)+(x:Int))=10*(n:Int)+(x:Int):=ae aso aso;have p:10*n+x<10^(i+1):=by rw[Nat.pow_succ];omega
 replace d:=hid d;clear q f w;refine wk ?_;exact ast aso (CutL (b:=ao0 _)) ⟨i+1,10*n+x,rfl,aso,p,hid d.o.symm,rfl,rfl⟩;have k:i=s.length:=aso;subst k;have g1:¬(s.length:Int)<(s.length:Int):=aso;have e:=l.o;rw[apg]at e;have g:=h.o;rw[<- e]at g;replace g:=hid g;clear e l;refine wk ?_;exact aa g.o
abbrev ajf:List UInt8:=[57,50,50,51,51,55,50,48,51,54,56,53,52,55,55,53,56,48,55]
abbrev ajg:List UInt8:=[57,50,50,51,51,55,50,48,51,54,56,53,52,55,55,53,56,48,56]
def adl(w most:List UInt8):Bool:=Oz w && !decide (w.getD 0 0=48)&&(decide (w.length<19) ||decide (w.length=19)&&(Op.bytesLess w most ||decide (w=most)))
def ai5(v:List UInt8):Bool:=if v=[48]then true else match v with
 |[]=>false
 |c::t=>if c=45 then adl t ajg else adl (c::t) ajf
theorem XC{w a:List UInt8}(b:w.length<=1100000):adl w a=(if Oz w=true then(!decide (w.getD 0 0=48)&&(decide (w.length<19) ||decide (w.length=19)&&(Op.bytesLess w a ||decide (w=a))))else false):=by unfold adl;cases Oz w<;>rfl
theorem aa0(k:v.length<=1100000)(h:K (.bool (ai5 v)) L):aoX 139 [.str v] L K:=by
 unfold ai5 at h;refine ab VQ (by simp[tI]) ?_;simp only[tI,ag];by_cases j:v=[48];rw[if_pos j]at h;replace h:=hid h;refine wk ?_;exact aa h.o;rw[if_neg j]at h;have r:∀w:List UInt8,Oz w=true->(0:Int)<(w.length:Int):=λw e=>by simp only[Oz,ao3,decide_eq_true_eq]at e;omega
 rcases v with _|⟨c,t⟩;simp only at h;replace h:=hid h;have s:Oz []=false:=rfl;have u:([]:List UInt8).length=0:=rfl;have kk1:=@asv _ _ _ _ (fS k);refine wk ?_;exact aa h.o;simp only at h;have l:(c::t).length=t.length+1:=rfl;have g:(c::t).getD 0 0=c:=rfl;have i:(c::t).drop 1=t:=rfl;simp only[apb]at k;have a:t.length<=1100000:=aso;have m:t.take (((t.length:Int)+1).toNat-1)=t:=by rw[show((t.length:Int)+1).toNat-1=t.length by omega,apg]
 have n:(0:Int)<(t.length:Int)+1:=aso;by_cases d:c=45
 .rw[if_pos d,XC a]at h;subst d;have q:((45:UInt8).toNat:Int)=45:=rfl;cases hd:Oz t with
  | false =>
    rw[hd,if_neg asp]at h;replace h:=hid h;have kk1:=@asv _ _ _ _ (fS a);refine wk ?_;exact aa h.o
  | true =>
    rw[hd,if_pos rfl]at h;obtain⟨x,p⟩:=aoT (t.getD 0 0);rw[p,show decide (x=48)=decide ((x.toNat:Int)=48)by rw[decide_eq_decide];exact(bQ x 48).symm,show decide (t.length<19)=decide ((t.length:Int)<19)by simp;omega,show decide (t.length=19)=decide ((t.length:Int)=19)by rw[decide_eq_decide];omega]at h;replace h:=hid h;have g1:=r t hd
    repeat' first
     |refine bH ?_
     | (first|refine bv asq ?_|refine aP asq ?_|refine aS ?_|refine cT ?_|refine bJ (fun _=>?_)|refine aH ?_|refine bz ?_|refine fS a ?_|refine bg (fS a ⟨rfl,rfl⟩) (fS a ⟨rfl,rfl⟩) ?_|refine aM (fS a ⟨rfl,rfl⟩) ?_)
       refine sm ?_
     | (first|refine bp asq ?_|refine bm ?_|refine aR ?_|refine bw ?_|refine bP (aG ?_))
       refine sl ?_
     |exact bL
     |first|apply bM|apply bq|apply bN|apply br|apply bO|apply bu
     |refine aV ?_
     |refine aQ ?_
     |first|refine aT rfl ?_|refine aU rfl ?_|refine aB rfl ?_ ?_|refine aX rfl (λ_=>?_) (λ_=>?_)|refine aW rfl (λ_=>?_) (λ_=>?_)
     |((first|refine aA (λ_=>?_) (λ_=>?_)|refine aE (λ_=>?_) (λ_=>?_))<;>try refine sm ?_)
     |refine And.intro trivial ?_
     |refine And.intro aso ?_
     |refine be rfl (λ_=>?_) (λ_=>?_)
     |refine And.intro ?_ ?_
    exact aa h.o
 .rw[if_neg d,XC (by simp;omega)]at h;have q:¬(c.toNat:Int)=45:=λe=>d ((bQ c 45).1 e)
  obtain⟨v,f⟩:=aoT (c::t);rw[f]at h l g j⊢;have b:v.length<=1100000:=aso;have y:(0:Int)<(v.length:Int):=aso;replace f:=hid f;clear i l m n;cases hd:Oz v with
  | false =>
    rw[hd,if_neg asp]at h;replace h:=hid h;have kk1:=@asv _ _ _ _ (fS b);refine wk ?_;exact aa h.o
  | true =>
    rw[hd,if_pos rfl]at h;rw[g,show decide (c=48)=decide ((c.toNat:Int)=48)by rw[decide_eq_decide];exact(bQ c 48).symm,show decide (v.length<19)=decide ((v.length:Int)<19)by simp;omega,show decide (v.length=19)=decide ((v.length:Int)=19)by rw[decide_eq_decide];omega]at h;replace h:=hid h
    repeat' first
     |refine bH ?_
     | (first|refine bv asq ?_|refine aP asq ?_|refine aS ?_|refine cT ?_|refine bJ (fun _=>?_)|refine aH ?_|refine bz ?_|refine fS b ?_|refine bg (fS b ⟨rfl,rfl⟩) (fS b ⟨rfl,rfl⟩) ?_|refine aM (fS b ⟨rfl,rfl⟩) ?_)
       refine sm ?_
     | (first|refine bp asq ?_|refine bm ?_|refine aR ?_|refine bw ?_|refine bP (aG ?_))
       refine sl ?_
     |exact bL
     |first|apply bM|apply bq|apply bN|apply br|apply bO|apply bu
     |refine aV ?_
     |refine aQ ?_
     |first|refine aT rfl ?_|refine aU rfl ?_|refine aB rfl ?_ ?_|refine aX rfl (λ_=>?_) (λ_=>?_)|refine aW rfl (λ_=>?_) (λ_=>?_)
     |((first|refine aA (λ_=>?_) (λ_=>?_)|refine aE (λ_=>?_) (λ_=>?_))<;>try refine sm ?_)
     |refine And.intro trivial ?_
     |refine And.intro aso ?_
     |refine be rfl (λ_=>?_) (λ_=>?_)
     |refine And.intro ?_ ?_
    exact aa h.o
def eZ(n:Nat)(s:List UInt8):Nat:=s.foldl (λn c=>10*n+(c.toNat-48)) n
theorem Yy(h:ic c=true):∃d,d<=9/\c.toNat=48+d:=by simp only[ic,ao3,decide_eq_true_eq]at h;exact⟨c.toNat-48,aso,aso⟩
theorem Ed:∀(s:List UInt8) (n:Nat),eZ n s=n*10^s.length+eZ 0 s
 |[],n=>by simp[eZ]
 | c::s,n=>by
   have a:=Ed s (10*n+(c.toNat-48));have b:=Ed s (10*0+(c.toNat-48));simp only[eZ,ap0]at a b⊢
   grind
theorem Nq:∀(s:List UInt8),(∀c∈s,ic c=true)->eZ 0 s<10^s.length
 |[],_=>by simp[eZ]
 | c::s,h=>by
   have b:=Nq s λd a=>h d (aqu _ a)
   obtain⟨d,a,f⟩:=Yy (h c asp);have e:=Ed s (10*0+(c.toNat-48));simp only[eZ,ap0]at e b⊢;rw[e,apb,Nat.pow_succ,f];have:(10*0+(48+d-48))*10^s.length<=9*10^s.length:=ap6 _ aso;omega
theorem aa8:∀(a b:List UInt8),(∀c∈a,ic c=true)->(∀c∈b,ic c=true)->a.length=b.length->(a<b↔eZ 0 a<eZ 0 b)
 |[],[],_,_,_=>by simp[eZ]
 |[],_::_,_,_,h=>by simp at h
 |_::_,[],_,_,h=>by simp at h
 | x::a,y::b,ha,hb,hl=>by
   simp only[apb,Nat.add_right_cancel_iff]at hl;have g:=λc i=>ha c (aqu _ i)
   have f:=λc i=>hb c (aqu _ i)
   have o:=aa8 a b g f hl;have r:=Nq a g;have v:=Nq b f;obtain⟨d,s,j⟩:=Yy (ha x asp);obtain⟨e,u,k⟩:=Yy (hb y asp);have n:eZ 0 (x::a)=d*10^a.length+eZ 0 a:=by have:=Ed a (10*0+(x.toNat-48));rw[j,show 10*0+(48+d-48)=d by omega]at this;rw[<- this];simp only[eZ,ap0,j];congr 1;omega
   have l:eZ 0 (y::b)=e*10^b.length+eZ 0 b:=by have:=Ed b (10*0+(y.toNat-48));rw[k,show 10*0+(48+e-48)=e by omega]at this;rw[<- this];simp only[eZ,ap0,k];congr 1;omega
   rw[n,l,List.cons_lt_cons_iff,o,hl];have q:x<y↔d<e:=by show x.toNat<y.toNat↔_;omega
   have m:x=y↔d=e:=(by rw[<- aqS];omega);obtain⟨p,t⟩:=aoT (10^b.length);rcases arj d e with h|h|h
   .have:(d+1)*p<=e*p:=ap6 _ h
    grind
   .simp[*]
   .have:(e+1)*p<=d*p:=ap6 _ h
    grind
theorem alN:∀u:Nat,eZ 0 (Lib.decDigits u)=u/\(∀c∈Lib.decDigits u,ic c=true)/\u<10^(Lib.decDigits u).length/\(1<=u->10^((Lib.decDigits u).length-1)<=u):=by
 intro u;induction u using Nat.strongRecOn with
 | _ u ih =>
   by_cases a:u<10
   .have b:(UInt8.ofNat (48+u)).toNat=48+u:=u8n aso;rw[Lib.decDigits,dif_pos a];refine⟨?_,?_,?_,?_⟩
    .simp only[eZ,ap0,ars,b];omega
    .intro c hc;rw[apr.1 hc];simp only[ic,b,ao3,decide_eq_true_eq];omega
    .simpa using a
    .intro h;simpa using h
   .obtain⟨i1,i2,i3,i4⟩:=ih (u/10) aso;have b:(UInt8.ofNat (48+u%10)).toNat=48+u%10:=u8n aso;rw[Lib.decDigits,dif_neg a];refine⟨?_,?_,?_,?_⟩
    .unfold eZ at i1⊢;rw[arn,i1];simp only[ap0,ars,b];omega
    .intro c hc;rcases ao5.1 hc with h|h
     .exact i2 c h
     .rw[apr.1 h];simp only[ic,b,ao3,decide_eq_true_eq];omega
    .rw[apd,asc,Nat.pow_succ];omega
    .intro _;have:=i4 aso;rw[apd,asc,Nat.add_sub_cancel];obtain⟨c,r,e,_⟩:=Ep (u/10);have f:1<=(Lib.decDigits (u/10)).length:=(by rw[e];simp);obtain⟨k,d⟩:∃k,(Lib.decDigits (u/10)).length=k+1:=⟨(Lib.decDigits (u/10)).length-1,aso⟩;rw[d]at this⊢;rw[Nat.add_sub_cancel]at this;rw[Nat.pow_succ];omega
theorem anf:∀(n:Nat) (w:List UInt8),w.length=n->(∀c∈w,ic c=true)->w≠[]->w.getD 0 0≠48->1<=eZ 0 w/\Lib.decDigits (eZ 0 w)=w:=by
 intro n;induction n with
 |zero=>intro w h _ a;exact absurd (apK.1 h) a
 | succ n ih =>
   intro w h j a f;obtain⟨t,c,rfl⟩:∃t c,w=t++[c]:=⟨w.dropLast,w.getLast a,(List.dropLast_concat_getLast a).symm⟩;obtain⟨d,l,b⟩:=Yy (j c asp);have g:UInt8.ofNat (48+d)=c:=(by rw[<- b];simp);have i:eZ 0 (t++[c])=10*eZ 0 t+d:=by simp only[eZ,arn,ap0,ars,b];omega
   rcases t with _|⟨x,t⟩
   .have:d≠0:=λe=>f (by simp only[apx,aqR];exact aqS.1 (by rw[b,e];rfl))
    have k:eZ 0 ([]:List UInt8)=0:=rfl;rw[i,k];refine⟨aso,?_⟩;rw[Lib.decDigits,dif_pos aso,show 48+(10*0+d)=48+d by omega,g];rfl
   .obtain⟨j1,j2⟩:=ih (x::t) (by simpa using h) (λc b=>j c (aqh _ b)) asp (by simpa using f);rw[i];refine⟨aso,?_⟩;rw[Lib.decDigits,dif_neg aso,show(10*eZ 0 (x::t)+d)/10=eZ 0 (x::t)by omega,show(10*eZ 0 (x::t)+d)%10=d by omega,j2,g]
theorem adk{w a:List UInt8}{M:Nat}(t:eZ 0 a=M)(f:a.length=19)(b:∀c∈a,ic c=true)(D:10^18<=M):adl w a=true↔∃u,1<=u/\u<=M/\w=Lib.decDigits u:=by
 have k:M<10^19:=by rw[<- t,<- f];exact Nq a b
 have n:∀w:List UInt8,(∀c∈w,ic c=true)->w.length=19->((Op.bytesLess w a ||decide (w=a))=true↔eZ 0 w<=M):=λw q x=>by
  rw[bytesLess_eq];have j:=aa8 a w b q (by rw[x,f])
  grind
 unfold adl Oz;simp only[ao3,apN,apL,decide_eq_false_iff_not,decide_eq_true_eq,apa];constructor;rintro⟨⟨⟨l,d⟩,i⟩,g⟩;obtain⟨o,j⟩:=anf _ w rfl l (by rintro rfl;simp at d) i;refine⟨eZ 0 w,o,?_,j.symm⟩;rcases g with v|⟨y,p⟩;have:=Nq w l;have C:10^w.length<=10^18:=Nat.pow_le_pow_right (by decide) aso;omega;simp_all;rintro⟨u,o,j,rfl⟩;obtain⟨E,s,B,F⟩:=alN u;obtain⟨c,r,e,z,c2,c3⟩:=Ep u;have m:(Lib.decDigits u).length<=19:=by rcases apt 19 (Lib.decDigits u).length with h|h;have A:10^19<=10^((Lib.decDigits u).length-1):=Nat.pow_le_pow_right (by decide) aso;omega;omega
 refine⟨⟨⟨s,by rw[e];simp⟩,?_⟩,?_⟩;intro h;simp_all
 grind
theorem aeP(w:List UInt8):adl w ajf=true↔∃u,1<=u/\u<=9223372036854775807/\w=Lib.decDigits u:=adk (by decide) (by decide) (by decide) (by decide)
theorem aeQ(w:List UInt8):adl w ajg=true↔∃u,1<=u/\u<=9223372036854775808/\w=Lib.decDigits u:=adk (by decide) (by decide) (by decide) (by decide)
theorem ai4(v:List UInt8):ai5 v=true↔∃m,I64 m/\Lib.itoa m=v:=by
 unfold ai5;by_cases d:v=[48];rw[if_pos d];refine⟨λ_=>⟨0,by unfold I64;omega,?_⟩,λ_=>rfl⟩;rw[d,Lib.itoa,if_neg (by decide),Lib.decDigits,dif_pos (by decide)];rfl;rw[if_neg d];have k:Lib.itoa 0=[48]:=by rw[Lib.itoa,if_neg (by decide),Lib.decDigits,dif_pos (by decide)];rfl
 rcases v with _|⟨c,t⟩;simp only[apj,false_iff];rintro⟨m,_,e⟩;obtain⟨c,r,l,_⟩:=ahh m;simp_all;simp only;by_cases b:c=45;rw[if_pos b,aeQ];subst b;constructor;rintro⟨u,j,h,rfl⟩;refine⟨-(u:Int),by unfold I64;omega,?_⟩;rw[Lib.itoa,if_pos aso,show(-(u:Int)).natAbs=u by omega];rintro⟨m,f,e⟩;unfold I64 at f;by_cases a:m<0;rw[Lib.itoa,if_pos a]at e
 grind
 rw[Lib.itoa,if_neg a]at e;obtain⟨c,r,l,n,c2,_⟩:=Ep m.toNat;simp_all;rw[if_neg b,aeP];constructor;rintro⟨u,j,h,e⟩;refine⟨(u:Int),by unfold I64;omega,?_⟩;rw[e,Lib.itoa,if_neg aso];congr 1;rintro⟨m,f,e⟩;unfold I64 at f;by_cases a:m<0;rw[Lib.itoa,if_pos a]at e;simp_all;have i:m≠0:=λg=>d (by rw[<- e,g,k])
 rw[Lib.itoa,if_neg a]at e
 grind
theorem ag8(v:List UInt8):tz v=true↔∃m,I64 m/\Lib.itoa m=v:=by constructor;intro h;unfold tz at h;split at h;rename_i n b;exact⟨n,XB b,by simpa using h⟩;cases h;rintro⟨m,a,rfl⟩;exact(ai3 a).1
theorem amT(v:List UInt8):ai5 v=tz v:=by exact arq.2 ((ai4 v).trans (ag8 v).symm)
theorem aoL(h:i+2<=v.length):abX ((v.drop i).take 2)=two v i:=by
 have e:(v.drop i).take 2=[v.getD i 0,v.getD (i+1) 0]:=by rw[mQ (show i<v.length by omega),mQ (show i+1<v.length by omega)];rfl
 rw[e];simp only[abX,two,dig,ap0,ars];omega
theorem aoK(h:4<=v.length):abX (v.take 4)=two v 0*100+two v 2:=by
 have e:v.take 4=[v.getD 0 0,v.getD 1 0,v.getD 2 0,v.getD 3 0]:=by have:=mQ (show 0<v.length by omega);rw[aq4]at this;rw[this,mQ (show 0+1<v.length by omega),mQ (show 0+1+1<v.length by omega),mQ (show 0+1+1+1<v.length by omega)];rfl
 rw[e];simp only[abX,two,dig,ap0,ars,ap9,Nat.reduceAdd];omega
theorem aa1(hv:v.length<=1100000)(h:K (.bool (Nt v)) L):aoX 141 [.str v] L K:=by
 have no:Nt v=false->K (.bool false) L:=λe=>by rw[<- e];exact h
 replace no:=hid no;replace h:=hid h;refine ab VS (by simp[tJ]) ?_;simp only[tJ,ag];by_cases l:v.length=15;rotate_left;have f1:¬(v.length:Int)=15:=aso;have C:=hid (no.o (by simp[Nt,l]));clear l;refine wk ?_;exact aa C.o;have f1:(v.length:Int)=15:=aso;obtain⟨w,G⟩:=aoT (v.take 14);have u:w.length=14:=by rw[<- G];simp[l]
 have t:w.length<=1100000:=aso;cases hda:w.all ic with
 | false =>
   have C:=hid (no.o (by simp[Nt,G,hda]));have P:Oz w=false:=(by simp[Oz,hda]);clear u l;have kk1:=@asv _ _ _ _ (fS t);refine wk ?_;exact aa C.o
 |true =>
 have P:Oz w=true:=by simp[Oz,hda,u]
 obtain⟨z,V⟩:=aoT (v.getD 14 0);by_cases m:z=90;rotate_left;have f2:¬(z.toNat:Int)=90:=λe=>m ((bQ z 90).1 e)
 have C:=hid (no.o (by simp[Nt,<- V]at m⊢;simp[m]));clear m u l;have kk1:=@asv _ _ _ _ (fS t);refine wk ?_;exact aa C.o;have f2:(z.toNat:Int)=90:=by rw[m];rfl
 have b:∀i,i<14->ic (v.getD i 0)=true:=λi W=>by refine apa.1 hda _ ?_;rw[<- G];have:v.getD i 0=(v.take 14)[i]'(by simp;omega):=(by simp[show i<v.length by omega]);rw[this];exact apZ _
 have r:∀(i n:Nat),i+n<=14->∀c∈(v.drop i).take n,ic c=true:=λi n ai c hc=>by obtain⟨j,hj,rfl⟩:=apV.1 hc;simp only[aqk,aqt]at hj;rw[arF,ar0];have:=b (i+j) aso;rwa[show v.getD (i+j) 0=v[i+j]by simp[show i+j<v.length by omega]]at this
 have s:Nt v=adX v:=by simp only[Nt,l,V,m,G,hda];simp
 have B:∀i:Nat,i+2<=14->∀(K:AV->List Blk->Prop),K (.int .i64 (two v i:Nat)) L->aoX 190 [.str ((v.drop i).take 2)] L K:=λi W K h =>
  aml (by simp;omega) (r i 2 W) (by rw[aoL aso];exact h)
 have c4:∀(K:AV->List Blk->Prop),K (.int .i64 ((two v 0*100+two v 2:Nat):Int)) L->aoX 190 [.str (v.take 4)] L K:=λK h =>
  aml (by simp;omega) (by have:=r 0 4 aso;rwa[aq4]at this) (by rw[aoK aso];exact h)
 have b0:=kz (b 0 aso) (b 1 aso);have b2:=kz (b 2 aso) (b 3 aso);have b4:=kz (b 4 aso) (b 5 aso);have b6:=kz (b 6 aso) (b 7 aso);have b8:=kz (b 8 aso) (b 9 aso);have N:=kz (b 10 aso) (b 11 aso);have Q:=kz (b 12 aso) (b 13 aso);have kk1:=@hid _ (λ{K:aoY}=>c4 K);have kk3:=@hid _ (λ{K:aoY}=>B 4 aso K);have kk4:=@hid _ (λ{K:aoY}=>B 6 aso K);have kk5:=@hid _ (λ{K:aoY}=>B 8 aso K);have kk6:=@hid _ (λ{K:aoY}=>B 10 aso K);have kk7:=@hid _ (λ{K:aoY}=>B 12 aso K);have kk2:=@hid _ (λ{K:aoY}=>@fS w t L K);have a:=h.o;rw[s]at a;unfold adX at a;obtain⟨Y,X⟩:=aoT (two v 0*100+two v 2);obtain⟨M,hM⟩:=aoT (two v 4);obtain⟨D,hD⟩:=aoT (two v 6);obtain⟨H,T⟩:=aoT (two v 8);obtain⟨I,Z⟩:=aoT (two v 10);obtain⟨S,hS⟩:=aoT (two v 12);have ad:Y<=9999:=aso;rw[X]at a kk1;rw[hM]at b4 a kk3;rw[hD]at b6 a kk4;rw[T]at b8 a kk5;rw[Z]at N a kk6;rw[hS]at Q a kk7;clear X hM hD T Z hS B c4 s b hda l u hv m no h r b0 b2;have g:¬((1<=M/\M<=12)/\1<=D/\H<=23/\I<=59/\S<=59)->K (.bool false) L:=λe=>by rw[decide_eq_false e]at a;simpa using a
 replace g:=hid g;replace a:=hid a;by_cases m1:(M:Int)<1;refine wk ?_;exact aa (g.o aso);by_cases m2:(12:Int)<(M:Int);refine wk ?_;exact aa (g.o aso);by_cases m3:(D:Int)<1;refine wk ?_;exact aa (g.o aso);by_cases m4:(23:Int)<(H:Int);refine wk ?_;exact aa (g.o aso);by_cases m5:(59:Int)<(I:Int);refine wk ?_;exact aa (g.o aso);by_cases m6:(59:Int)<(S:Int);refine wk ?_;exact aa (g.o aso);have f:=a.o;rw[show decide ((1<=M/\M<=12)/\1<=D/\H<=23/\I<=59/\S<=59)=true by simp;omega,apy]at f;unfold aba ajl at f;obtain⟨r4,E⟩:=aoT (Y%4);obtain⟨A,p⟩:=aoT (Y%100);obtain⟨y,q⟩:=aoT (Y%400);rw[E,p,q]at f;have t4:Int.tmod (Y:Int) 4=(r4:Int):=by rw[aq6 aso];omega
 have R:Int.tmod (Y:Int) 100=(A:Int):=by rw[aq6 aso];omega
 have U:Int.tmod (Y:Int) 400=(y:Int):=by rw[aq6 aso];omega
 replace f:=hid f;clear E p q;have k:∀d:Nat,(if M=2/\(decide (r4=0) && !decide (A=0) ||decide (y=0))=true then acq M+1 else acq M)=d->K (.bool (decide ((D:Int)<=(d:Int)))) L:=λd e=>by have:=f.o;rw[e]at this;rwa[show decide (D<=d)=decide ((D:Int)<=(d:Int))by simp only[decide_eq_decide];omega]at this
 replace k:=hid k;by_cases q2:(M:Int)=2
 .have e2:M=2:=aso;subst e2
  repeat' first
   |refine bH ?_
   | (first|refine bv asq ?_|refine aP asq ?_|refine aS ?_|refine cT ?_|refine bJ (fun _=>?_)|refine aH ?_|refine bz ?_|refine kk1.o ?_|refine kk2.o ?_|refine kk3.o ?_|refine kk4.o ?_|refine kk5.o ?_|refine kk6.o ?_|refine kk7.o ?_|refine bg (kk1.o ⟨rfl,rfl⟩) (kk1.o ⟨rfl,rfl⟩) ?_|refine bg (kk2.o ⟨rfl,rfl⟩) (kk2.o ⟨rfl,rfl⟩) ?_|refine bg (kk3.o ⟨rfl,rfl⟩) (kk3.o ⟨rfl,rfl⟩) ?_|refine bg (kk4.o ⟨rfl,rfl⟩) (kk4.o ⟨rfl,rfl⟩) ?_|refine bg (kk5.o ⟨rfl,rfl⟩) (kk5.o ⟨rfl,rfl⟩) ?_|refine bg (kk6.o ⟨rfl,rfl⟩) (kk6.o ⟨rfl,rfl⟩) ?_|refine bg (kk7.o ⟨rfl,rfl⟩) (kk7.o ⟨rfl,rfl⟩) ?_|refine aM (kk1.o ⟨rfl,rfl⟩) ?_|refine aM (kk2.o ⟨rfl,rfl⟩) ?_|refine aM (kk3.o ⟨rfl,rfl⟩) ?_|refine aM (kk4.o ⟨rfl,rfl⟩) ?_|refine aM (kk5.o ⟨rfl,rfl⟩) ?_|refine aM (kk6.o ⟨rfl,rfl⟩) ?_|refine aM (kk7.o ⟨rfl,rfl⟩) ?_)
     refine sm ?_
   | (first|refine bp asq ?_|refine bm ?_|refine aR ?_|refine bw ?_|refine bP (aG ?_))
     refine sl ?_
   |exact bL
   |first|apply bM|apply bq|apply bN|apply br|apply bO|apply bu
   |refine aV ?_
   |refine aQ ?_
   |first|refine aT rfl ?_|refine aU rfl ?_|refine aB rfl ?_ ?_|refine aX rfl (λ_=>?_) (λ_=>?_)|refine aW rfl (λ_=>?_) (λ_=>?_)
   |((first|refine aA (λ_=>?_) (λ_=>?_)|refine aE (λ_=>?_) (λ_=>?_))<;>try refine sm ?_)
   |refine And.intro trivial ?_
   |refine And.intro aso ?_
   |refine be rfl (λ_=>?_) (λ_=>?_)
   |refine And.intro ?_ ?_
  rename_i hx;exact aa (k.o 29 (by rw[if_pos ⟨rfl,by simp;omega⟩];rfl));rename_i hx;exact aa (k.o 28 (by rw[if_neg (λ⟨_,e⟩=>hx (by simp at e;omega))];rfl))
 by_cases F:M=4\/M=6\/M=9\/M=11;have x:=hid (k.o 30 (by unfold acq;rw[if_neg aso,if_neg aso,if_pos aso]));rcases F with e|e|e|e;have J:(M:Int)=4:=aso;clear e;refine wk ?_;exact aa x.o;have J:(M:Int)=6:=aso;clear e;refine wk ?_;exact aa x.o;have J:(M:Int)=9:=aso;clear e;refine wk ?_;exact aa x.o;have J:(M:Int)=11:=aso;clear e;refine wk ?_;exact aa x.o;have O:=hid (k.o 31 (by unfold acq;rw[if_neg aso,if_neg aso,if_neg aso]));have J:¬(M:Int)=4:=aso;have p2:¬(M:Int)=6:=aso;have p3:¬(M:Int)=9:=aso;have p4:¬(M:Int)=11:=aso;clear F;refine wk ?_;exact aa O.o
theorem WS{syn:Int}(h:K (kg (dl syn v)) L):aoX 92 [.int .i64 syn,.str v] L K:=by
 unfold dl at h;refine ab X7 (by simp[E9]) ?_;simp only[E9,ag];by_cases w:4096<v.length;have O:(4096:Int)<(v.length:Int):=aso;rw[if_pos w]at h;replace h:=hid h;clear w;refine wk ?_;exact aa h.o;have O:¬(4096:Int)<(v.length:Int):=aso;rw[if_neg w]at h;have a:v.length<=1100000:=aso;have r:(v.length:Int)<=100000:=aso;have t:=aaS v.length v (ao0 _);have f:=amT v;unfold ado at h;clear w;by_cases H:syn=1;subst H;rw[if_pos rfl]at h;by_cases j:v=[];rw[if_pos j]at h;replace h:=hid h;subst j;have P:([]:List UInt8).length=0:=rfl;refine wk ?_;exact aa h.o;rw[if_neg j]at h;have B:(0:Int)<(v.length:Int):=by have:=apQ.2 j;omega
 cases hd:Lib.validD v with
 | true =>
   rw[hd,if_pos rfl]at h;replace h:=hid h;rw[hd]at t;have kk1:=@asv _ _ _ _ (EE r);have kk2:=@asv _ _ _ _ (afN a);refine wk ?_;exact aa h.o
 | false =>
   rw[hd,if_neg asp]at h;replace h:=hid h;rw[hd]at t;have kk1:=@asv _ _ _ _ (EE r);have kk2:=@asv _ _ _ _ (afN a);refine wk ?_;exact aa h.o
 rw[if_neg H]at h;by_cases M:syn=2;subst M;rw[if_pos rfl]at h;by_cases j:v=[];rw[if_pos j]at h;replace h:=hid h;subst j;have P:([]:List UInt8).length=0:=rfl;refine wk ?_;exact aa h.o;rw[if_neg j]at h;have B:(0:Int)<(v.length:Int):=by have:=apQ.2 j;omega
 cases hd:Lib.validD v with
 | true =>
   rw[hd,if_pos rfl]at h;replace h:=hid h;rw[hd]at t;have kk1:=@asv _ _ _ _ (afN a);refine wk ?_;exact aa h.o
 | false =>
   rw[hd,if_neg asp]at h;replace h:=hid h;rw[hd]at t;have kk1:=@asv _ _ _ _ (afN a);refine wk ?_;exact aa h.o
 rw[if_neg M]at h;by_cases J:syn=3;subst J;rw[if_pos rfl]at h;replace h:=hid h;clear t f;refine wk ?_;refine ak (λn T' L'=>∃i:Nat,n=v.length-i/\i<=v.length/\Hid (WN (v.take i)=true)/\T'=[(6,.int .i64 (i:Int)),(1,.str v),(12,.int .i64 3)]/\L=L') (CutS (b:=ao0 _)) ⟨0,rfl,ao2 _,hid rfl,rfl,rfl⟩ ?_;rintro _ _ _ ⟨i,rfl,Q,m,rfl,rfl⟩;by_cases l:i<v.length;have g1:(i:Int)<(v.length:Int):=aso;have R:=aoV i aso;obtain⟨c,G⟩:=aoT (v.getD i 0);have s:v.take (i+1)=v.take i++[c]:=by rw[aph l,<- G];simp[l]
 have y:c∈v:=by rw[<- G];simp[l]
 by_cases A:c.toNat<128;have B:¬(128:Int)<=(c.toNat:Int):=aso;have d:WN (v.take (i+1))=true:=by have:=m.o;unfold WN at this⊢;rw[s,arW,this];simp[A]
 replace d:=hid d;clear A s y;refine wk ?_;exact ast aso (CutL (b:=ao0 _)) ⟨i+1,rfl,l,d,rfl,rfl⟩;have B:(128:Int)<=(c.toNat:Int):=aso;have q:WN v=false:=by rw[<- aqF];intro e;have:=apa.1 e c y;simp at this;omega
 have g:=h.o;rw[q,if_neg asp]at g;replace g:=hid g;clear A s y q;refine wk ?_;exact aa g.o;have z:i=v.length:=aso;subst z;have g1:¬(v.length:Int)<(v.length:Int):=aso;have e:=m.o;rw[apg]at e;have g:=h.o;rw[e,if_pos rfl]at g;replace g:=hid g;clear e;have kk1:=@asv _ _ _ _ (EE r);refine wk ?_;exact aa g.o;rw[if_neg J]at h;by_cases I:syn=4;subst I;rw[if_pos rfl]at h;cases hd:tz v with
 | true =>
   rw[hd,if_pos rfl]at h;replace h:=hid h;rw[hd]at f;have kk1:=@asv _ _ _ _ (aa0 a);refine wk ?_;exact aa h.o
 | false =>
   rw[hd,if_neg asp]at h;replace h:=hid h;rw[hd]at f;have kk1:=@asv _ _ _ _ (aa0 a);refine wk ?_;exact aa h.o
 rw[if_neg I]at h;by_cases C:syn=5;subst C;rw[if_pos rfl]at h;clear t f;by_cases u:v=akj;rw[if_pos (.inl u)]at h;replace h:=hid h;subst u;refine wk ?_;exact aa h.o;by_cases t2:v=afD;rw[if_pos (.inr t2)]at h;replace h:=hid h;subst t2;have t3:¬([70,65,76,83,69]:List UInt8)=[84,82,85,69]:=by decide
 clear u;refine wk ?_;exact aa h.o;rw[if_neg (λe=>e.elim u t2)]at h;replace h:=hid h;refine wk ?_;exact aa h.o;rw[if_neg C]at h;clear t f;by_cases N:syn=6;subst N;rw[if_pos rfl]at h;obtain⟨⟨k,e⟩,x⟩:∃p,adA v=p:=⟨_,rfl⟩;rw[x]at h;simp only at h;by_cases F:e=0;subst F;rw[if_pos rfl]at h;replace h:=hid h;refine wk ?_;refine aiI ?_;rw[x];simp only[kB];refine asw ?_;exact aa h.o;rw[if_neg F]at h;replace h:=hid h;refine wk ?_;refine aiI ?_;rw[x];simp only[kB];refine asw ?_;exact aa h.o;rw[if_neg N]at h;by_cases E:syn=7;subst E;rw[if_pos rfl]at h;replace h:=hid h;refine wk ?_;exact aa h.o;rw[if_neg E]at h;by_cases D:syn=8;subst D;rw[if_pos rfl]at h;cases hd:Nt v with
 | true =>
   rw[hd,if_pos rfl]at h;replace h:=hid h;have kk1:=@asv _ _ _ _ (aa1 a);refine wk ?_;exact aa h.o
 | false =>
   rw[hd,if_neg asp]at h;replace h:=hid h;have kk1:=@asv _ _ _ _ (aa1 a);refine wk ?_;exact aa h.o
 rw[if_neg D]at h;replace h:=hid h;refine wk ?_;exact aa h.o
theorem afM(v:List UInt8)(rest:List UInt8)(j:rest=[]\/∃c t,rest=c::t/\(c=44\/c=43)):∀(s b:List UInt8) (bl:Bool),b++s=v->(s=[]->bl=false)->i7 b bl (wrL v.length b.length s++rest)=some (v,rest,true)
 | [],b,bl,e,h=>by
   rw[apG]at e;subst e;rw[h rfl];rcases j with rfl|⟨c,t,rfl,d⟩
   .rfl
   .exact rL d
 | c::s,b,bl,e,h=>by
   have k:=λa (l:s=[]->a=false)=>afM v rest j s (b++[c]) a (by rw[<- e];simp) l
   have i:(b++[c]).length=b.length+1:=asp;rw[i]at k;rw[wrL,apc];unfold wrB;split
   .rename_i d;subst d;exact k false (λ_=>rfl)
   .rename_i d;split
    .rename_i g;show i7 b bl (92::c::(wrL v.length (b.length+1) s++rest))=_;rw[wT]
     .simp_all
     .rcases g with⟨_,rfl|rfl⟩|⟨_,rfl⟩|g
      .simp
      .simp
      .simp
      grind
    .rename_i g;show i7 b bl (c::(wrL v.length (b.length+1) s++rest))=_;have f:¬c∈([34,43,44,59,60,62,92]:List UInt8):=λq=>g (.inr (.inr q))
     simp only[apn,apX,or_false,not_or]at f;rw[mV (λq=>q.elim (λq=>f.2.2.1 q) (λq=>f.2.1 q)) (λq=>f.2.2.2.2.2.2 q)]
     grind
theorem R0(v:List UInt8){rest:List UInt8}(a:rest=[]\/∃c t,rest=c::t/\(c=44\/c=43)):i7 [] false (gU v++rest)=some (v,rest,true):=
 afM v rest a v [] false rfl (λ_=>rfl)
theorem adZ:∀(t r:List UInt8),(∀c∈t,c≠61)->lN (t++61::r)=some (t,r)
 |[],r,_=>by simp[lN]
 |c::t,r,h=>by rw[apH,lN,if_neg (h c asp),adZ t r (λx a=>h x (by simp[a]))]
theorem aig(h:jE t=true):∀c∈t,c≠61:=by intro c a e;simp only[jE,ao3,apa]at h;have:=h.2 c a;rw[e]at this;exact absurd this (by decide)
theorem Zq(x sep:List UInt8)(xs:List (List UInt8)):Lib.join (x::xs) sep=x++xs.flatMap (λy=>sep++y):=by
 induction xs generalizing x with
 |nil=>simp[Lib.join,List.intercalate]
 | cons y l ih =>
   have e:Lib.join (x::y::l) sep=x++(sep++Lib.join (y::l) sep):=(by simp[Lib.join,List.intercalate]);simp[*]
def nh(t:Rdn):List UInt8:=t.flatMap λa=>43::avT false a
def mZ(d:List Rdn):List UInt8:=d.flatMap λr=>44::dx false r
theorem aaZ(a:Ava)(t:Rdn):dx false (a::t)=avT false a++nh t:=by simp only[dx,apj,if_false,apv,Zq,nh];simp[List.flatMap_map]
theorem agF(r:Rdn)(d:List Rdn):bj false (r::d)=dx false r++mZ d:=by simp only[bj,apv,Zq,mZ];simp[List.flatMap_map]
theorem Zc:∀(f:Nat) (out:List Rdn) (b:Rdn) (a:Ava) (t:Rdn) (d:List Rdn),(avT false a++(nh t++mZ d)).length<f->out.length<32->dW b (a::t)=0->jJ (out.length+1) d=0 ->
  tU f out b (avT false a++(nh t++mZ d))=(out++[b++a::t]++d,0)
 |0,_,_,_,_,_,h,_,_,_=>aso
 | f+1,out,b,(ty,v),t,d,hf,ho,hc,hd=>by
   unfold dW at hc;split at hc
   .omega
   rename_i j;split at hc
   .omega
   rename_i c;split at hc
   .omega
   rename_i e;simp only[Bool.not_eq_false]at c;have g:avT false (ty,v)++(nh t++mZ d)=ty++61::(gU v++(nh t++mZ d)):=(by simp[avT]);rw[g]at hf⊢;rw[tU,if_neg aso,adZ _ _ (aig c)];simp only;rw[if_neg (by simp[c]),if_neg e];rcases t with _|⟨a2,t⟩
   .rcases d with _|⟨r,d⟩
    .rw[show nh []++mZ []=([]:List UInt8)from rfl];rw[R0 v (.inl rfl)];simp
    .rw[show nh []++mZ (r::d)=44::(dx false r++mZ d)by simp[nh,mZ]]at hf⊢;rw[R0 v (.inr ⟨44,_,rfl,.inl rfl⟩)];unfold jJ at hd;split at hd
     .omega
     rename_i l;split at hd
     .omega
     rename_i k;split at hd
     .omega
     rename_i m;rcases r with _|⟨a2,t⟩
     .simp_all
     have i:=Zc f (out++[b++[(ty,v)]]) [] a2 t d;rw[aaZ,apc]at hf⊢
     grind
   .rw[show nh (a2::t)++mZ d=43::(avT false a2++(nh t++mZ d))by simp[nh]]at hf⊢;rw[R0 v (.inr ⟨43,_,rfl,.inr rfl⟩)];have i:=Zc f out (b++[(ty,v)]) a2 t d
    grind
theorem ai0(h:jJ 0 d=0)(e:(bj false d).length<=4096):dV (bj false d)=(d,0):=by unfold dV;rw[if_neg aso];rcases d with _|⟨r,d⟩;rfl;unfold jJ at h;split at h;omega;split at h;omega;rename_i c;split at h;omega;rename_i b;simp only[ne_eq,arD]at b;rcases r with _|⟨a,t⟩;simp_all;rw[agF,aaZ,apc];rw[if_neg (by simp[avT])];have:=Zc ((avT false a++(nh t++mZ d)).length+1) [] [] a t d aso asp b h;simp_all
theorem jG(c:UInt8):(ga c).toNat=if 65<=c.toNat/\c.toNat<=90 then c.toNat+32 else c.toNat:=by
 by_cases h:65<=c.toNat/\c.toNat<=90;have:=ab6 h.1 h.2
 grind
 rw[Nv h,if_neg h]
theorem abd(c:UInt8):ga (ga c)=ga c:=by
 refine Nv ?_;rw[jG]
 grind
theorem ZB(s:List UInt8):aj (aj s)=aj s:=by unfold aj;rw[apq];exact aqj λc _=>abd c
theorem Y1(s:List UInt8)(c:UInt8):cN (s++[c])=bf (cN s) c:=by simp[cN]
theorem Y3(s:List UInt8):(cN s).length<=s.length:=by have:=rN s s.length;simp_all
theorem abR(c:UInt8)(h:cN b=b):cN (bf b c)=bf b c:=by by_cases a:c=32/\JI b=true;simp only[bf,if_pos a];exact h;simp only[bf,if_neg a];rw[Y1,h,bf,if_neg a]
theorem adT:∀(s b:List UInt8),cN b=b->cN (s.foldl bf b)=s.foldl bf b
 |[],_,h=>h
 |c::s,b,h=>adT s (bf b c) (abR c h)
theorem V8(s:List UInt8):cN (cN s)=cN s:=adT s [] rfl
theorem alI(h:cN (b++[c])=b++[c]):cN b=b/\¬(c=32/\JI b=true):=by
 rw[Y1]at h;unfold bf at h;split at h;have:=Y3 b
 grind
 simp_all
theorem V5(h:cN b=b):cN (d8 b)=d8 b/\d8 (d8 b)=d8 b:=by
 rcases aq7 b with rfl|⟨d,c,rfl⟩;simp[d8,cN];rw[arG]at h⊢;obtain⟨i,g⟩:=alI h;rw[jP];split;rename_i a;refine⟨i,?_⟩;have f:JI d=false:=by simpa[a]using g
 unfold d8;rw[if_neg];intro e;simp[JI,e]at f;rename_i a;exact⟨h,by rw[jP,if_neg a]⟩
theorem ab5{x:UInt8}(h:x∈bf b c):x∈b\/x=c:=by
 unfold bf at h
 grind
theorem adt:∀(s b:List UInt8){x:UInt8},x∈s.foldl bf b->x∈b\/x∈s
 |[],_,_,h=>.inl h
 | c::s,b,x,h=>by
   rcases adt s (bf b c) h with a|a
   .rcases ab5 a with d|d
    .simp[*]
    simp[*]
   simp[*]
theorem ag9{x:UInt8}(h:x∈d8 b):x∈b:=by unfold d8 at h;split at h;exact(List.dropLast_sublist b).subset h;omega
theorem aha{x:UInt8}(h:x∈b9 s):∃c∈s,x=ga c:=by
 rcases adt _ _ (ag9 h)with a|a;simp_all;obtain⟨c,b,rfl⟩:=ao6.1 a
 grind
theorem adU(s:List UInt8):aj (b9 s)=b9 s:=by unfold aj;rw[aqj (g:=id) (λx a=>?_),List.map_id];obtain⟨c,_,rfl⟩:=aha a;exact abd c
theorem aeI(s:List UInt8):b9 (b9 s)=b9 s:=by
 have a:b9 (b9 s)=d8 (cN (b9 s)):=by show d8 (cN (aj (b9 s)))=_;rw[adU]
 rw[a];have b:=V5 (V8 (aj s));show d8 (cN (d8 (cN (aj s))))=d8 (cN (aj s));simp[*]
def Chr(q:List UInt8):Prop:=q≠[]/\(∀s,Lib.validD (q++s)=Lib.validD s)/\((∃c:UInt8,q=[c]/\c.toNat<128)\/∀c∈q,128<=c.toNat)
inductive Seg:List UInt8->Prop
 |nil:Seg []
 |cons{q s:List UInt8}:Chr q->Seg s->Seg (q++s)
theorem Seg.app(h:Seg a)(c:Seg b):Seg (a++b):=by
 induction h with
 |nil=>exact c
 |cons hq _ ih=>rw[apc];exact .cons hq ih
theorem Seg.last(h:Seg s):∀d:List UInt8,s=d++[32]->Seg d:=by
 induction h with
 |nil=>intro d e;simp at e
 | @cons q s hq hs ih =>
   intro d e;rcases aq7 s with rfl|⟨f,c,rfl⟩
   .rw[apG]at e;subst e;rcases hq.2.2 with⟨c,a,_⟩|g
    .have:d=[]:=by have:=congrArg List.length a;simp at this;omega
     simp[*]
    .have:=g 32 asp;simp_all
   .rw[arG]at *;rw[<- apc]at e;obtain⟨b,a⟩:=List.append_inj' e rfl;subst b;rw[a]at ih hs;exact .cons hq (ih f rfl)
def Dif(a b:Ava):Prop:=aj a.1≠aj b.1
theorem agf{r:Rdn}:lX r t=false↔∀a∈r,aj a.1≠aj t:=by simp[lX]
theorem ZN:∀(t done:Rdn),done.length<=8->(dW done t=0↔done.length+t.length<=8/\(∀a∈t,jE a.1=true)/\(∀a∈done,∀b∈t,Dif a b)/\t.Pairwise Dif)
 |[],done,h=>by simp[dW,h]
 | a::t,done,h=>by
   unfold dW;by_cases j:done.length=8
   .grind
   rw[if_neg j];by_cases c:jE a.1=false
   .simp[*]
   rw[if_neg c];by_cases g:lX done a.1=true
   .rw[if_pos g];constructor
    .omega
    .intro e;have:lX done a.1=false:=agf.2 λb d=>e.2.2.1 b d a asp
     simp_all
   rw[if_neg g,ZN t (done++[a]) (by simp;omega)];simp only[Bool.not_eq_false]at c;have f:=agf.1 (by simpa using g);simp only[apd,apb,apJ,ao5,apr,apn,apX,or_false,forall_eq_or_imp,aqs];constructor
   .rintro⟨e1,e2,e3,e4⟩;refine⟨aso,⟨c,e2⟩,λx i=>⟨f x i,λb d=>e3 x (.inl i) b d⟩,λb d=>e3 a (.inr rfl) b d,e4⟩
   grind
theorem agD(h:jE t=true):jE (aj t)=true:=by
 simp only[jE,ao3,apa,decide_eq_true_eq]at h⊢;obtain⟨⟨⟨i,g⟩,f⟩,h4⟩:=h;have a:∀c:UInt8,o3 (c.toNat:Int)=true->o3 ((ga c).toNat:Int)=true:=by intro c b;have:=jG c;split at this;rw[this];simp only[o3,apN,ao3,decide_eq_true_eq]at b⊢;omega;simp[*]
 refine⟨⟨⟨by simpa[aj]using i,by simpa[aj]using g⟩,?_⟩,?_⟩;rcases t with _|⟨c,t⟩;simp_all;simpa[aj]using a c (by simpa using f);intro c b;obtain⟨x,d,rfl⟩:=ao6.1 b;have:=h4 x d;simp only[SY,apN]at this⊢;rcases this with(e|e)|e;simp[*];refine .inl (.inr ?_);simp only[ao3,decide_eq_true_eq]at e⊢;rw[jG,if_neg aso];exact e;refine .inr ?_;simp only[decide_eq_true_eq]at e⊢;rw[jG,if_neg aso];exact e
theorem Y5(r:Rdn):(iL r).Perm (r.map Ec):=by have:=(VG r [] List.Pairwise.nil).2;rwa[apx]at this
theorem ag5(a:Ava):Ec (Ec a)=Ec a:=by simp[Ec,ZB,aeI]
theorem acu{r:Rdn}(h:dW [] r=0):dW [] (iL r)=0:=by
 rw[ZN _ _ asp]at h⊢;obtain⟨i,g,_,h4⟩:=h;have d:=Y5 r;refine⟨by simpa[tt]using i,λa c=>?_,λa c=>(by cases c),?_⟩;obtain⟨b,f,rfl⟩:=ao6.1 (d.mem_iff.1 c);exact agD (g b f);refine(d.pairwise_iff (λ{a b} e=>Ne.symm e)).2 ?_;rw[arX];refine h4.imp λ{a b} e=>?_
 simpa[Dif,Ec,ZB]using e
theorem ZO:∀(d:List Rdn) (i:Nat),jJ i d=0->jJ i (hG d)=0
 |[],_,h=>h
 | r::d,i,h=>by
   unfold jJ at h;show jJ i (iL r::hG d)=0;unfold jJ;split at h
   .omega
   rename_i a;split at h
   .omega
   rename_i c;split at h
   .omega
   rename_i b;simp only[ne_eq,arD]at b;rw[if_neg a,if_neg,if_neg (by simpa using acu b),ZO d _ h];intro e;have:=congrArg List.length e;rw[tt]at this;simp_all
def wtB(c:UInt8):Nat:=if c=0 then 3 else if c∈([34,43,44,59,60,62,92]:List UInt8)then 2 else 1
def wtS(s:List UInt8):Nat:=(s.map wtB).sum
theorem afI(a b:List UInt8):wtS (a++b)=wtS a+wtS b:=by simp[wtS]
theorem amx:∀c:UInt8,wtB (ga c)=wtB c:=by
 intro c;by_cases h:65<=c.toNat/\c.toNat<=90
 .have h2:=jG c;rw[if_pos h]at h2;have g:∀x:UInt8,65<=x.toNat->x.toNat≠92->wtB x=1:=by
   intro x a b;unfold wtB;rw[if_neg (by rintro rfl;exact absurd a (by decide)),if_neg];simp only[apn,apX,or_false];rintro(rfl|rfl|rfl|rfl|rfl|rfl|rfl)
   all_goals first|exact absurd a (by decide)|exact absurd rfl b
  grind
 rw[Nv h]
theorem acK(s:List UInt8):wtS (aj s)=wtS s:=by simp only[wtS,aj,apq];rw[show(wtB∘ga)=wtB from funext amx]
theorem amB(i n:Nat)(c:UInt8):wtB c<=(wrB i n c).length:=by
 unfold wtB wrB
 grind
theorem aet(n:Nat):∀(s:List UInt8) (i:Nat),wtS s<=(wrL n i s).length
 |[],_=>by simp[wtS]
 |c::s,i=>by have a:=aet n s (i+1);have b:=amB i n c;simp only[wrL,apd,wtS,apv,aqJ]at a⊢;omega
theorem amD{n:Nat}(a:i≠0)(b:c≠32):(wrB i n c).length=wtB c:=by
 unfold wtB wrB
 grind
theorem amC{n:Nat}(a:i≠0)(b:i+1≠n):(wrB i n 32).length=wtB 32:=by
 have e:wrB i n 32=[32]:=by unfold wrB;simp[*]
 rw[e];decide
theorem ah6(n:Nat):∀(s:List UInt8) (i:Nat),i≠0->n=i+s.length->s.getLast?≠some 32->(wrL n i s).length=wtS s
 |[],_,_,_,_=>by simp[wrL,wtS]
 | c::s,i,hi,hn,hl=>by
   have f:s.getLast?≠some 32:=by grind
   have b:=ah6 n s (i+1) aso (by simp at hn;omega) f;have d:(wrB i n c).length=wtB c:=by
    by_cases a:c=32
    .subst a;refine amC hi λe=>?_
     simp_all
    .exact amD hi a
   rw[wrL,apd,b,d];rfl
theorem ah5(s:List UInt8):wtS s<=(gU s).length:=aet _ _ _
theorem aes(s:List UInt8):wtS (35::s)+1<=(gU (35::s)).length:=by
 have a:=aet (s.length+1) s 1;have e:wrB 0 (s.length+1) 35=[92,35]:=by rfl
 show _<=(wrB 0 (s.length+1) 35++wrL (s.length+1) 1 s).length;rw[e];have:wtB 35=1:=by decide
 simp only[wtS,apv,aqJ,apd,apb,apJ]at a⊢;omega
theorem ah4(f:c≠32)(e:(c::s).getLast?≠some 32):(gU (c::s)).length=wtS (c::s)+(if c=35 then 1 else 0):=by
 have b:s.getLast?≠some 32:=by grind
 have a:=ah6 (s.length+1) s 1 aso aso b;show(wrB 0 (s.length+1) c++wrL (s.length+1) 1 s).length=_;rw[apd,a];have h4:(wrB 0 (s.length+1) c).length=wtB c+(if c=35 then 1 else 0):=by
  unfold wtB wrB;by_cases d:c=0;simp[*]
  grind
 rw[h4];simp[wtS];omega
theorem akC(b:List UInt8)(c:UInt8):wtS (bf b c)<=wtS b+wtB c:=by unfold bf;split;omega;rw[afI];simp[wtS]
theorem abG:∀(s b:List UInt8),wtS (s.foldl bf b)<=wtS b+wtS s
 |[],b=>by simp[wtS]
 |c::s,b=>by have d:=abG s (bf b c);have a:=akC b c;simp only[ap0,wtS,apv,aqJ]at d a⊢;omega
theorem afH(b:List UInt8):wtS (d8 b)<=wtS b:=by rcases aq7 b with rfl|⟨d,c,rfl⟩;simp[d8];rw[arG,jP];split;rw[afI];omega;omega
theorem Wk:∀(s:List UInt8) (x:UInt8) (b:List UInt8),∃t,s.foldl bf (x::b)=x::t
 |[],x,b=>⟨b,rfl⟩
 | c::s,x,b=>by
   rw[ap0,bf];split
   .exact Wk s x b
   .exact Wk s x (b++[c])
theorem akD(c:UInt8):1<=wtB c:=by
 unfold wtB
 grind
theorem aeY(s:List UInt8):(b9 s).getLast?≠some 32:=by
 have h:=V5 (V8 (aj s));have e:d8 (b9 s)=b9 s:=h.2;intro a;rcases aq7 (b9 s)with q|⟨d,c,q⟩;simp_all;rw[q,arG]at e a;rw[jP,if_pos (by simpa using a)]at e
 grind
theorem ae4(h:b9 s=c::t):c≠32:=by
 have e:cN (b9 s)=b9 s:=(V5 (V8 (aj s))).1;rw[h]at e;rintro rfl;have:=Y3 t;have a:cN (32::t)=t.foldl bf []:=rfl;rw[a]at e;have:=congrArg List.length e;have b:(t.foldl bf []).length<=t.length:=Y3 t
 grind
theorem agv(s:List UInt8):(gU (b9 s)).length<=(gU s).length:=by
 have n:=ah5 s;have l:wtS (b9 s)<=wtS s:=by have z:=afH (cN (aj s));have m:=abG (aj s) [];have r:=acK s;have h4:wtS (cN (aj s))=wtS ((aj s).foldl bf []):=rfl;have o:wtS ([]:List UInt8)=0:=rfl;show wtS (d8 (cN (aj s)))<=_;omega
 rcases hp:b9 s with _|⟨c,t⟩;simp[gU,wrL];have i:=aeY s;rw[hp]at i l;rw[ah4 (ae4 hp) i];split;rename_i f;subst f;rcases s with _|⟨x,s⟩;have:b9 []=[]:=rfl;simp_all;by_cases h:x=35;subst h;have:=aes s;omega;by_cases a:x=32;subst a;have e:b9 (32::s)=b9 s:=rfl;have z:=afH (cN (aj s));have m:=abG (aj s) [];have r:=acK s;have h4:wtS (cN (aj s))=wtS ((aj s).foldl bf []):=rfl;have o:wtS ([]:List UInt8)=0:=rfl;have j:wtS (b9 s)=wtS (d8 (cN (aj s))):=rfl;rw[e]at hp;rw[hp]at j;have B:wtS (32::s)=wtB 32+wtS s:=by simp[wtS]
 have A:=akD 32;omega;exfalso;have b:¬(ga x=32):=by
  intro q;have:=jG x;rw[q]at this;apply a;have:x.toNat=32:=by grind
  exact UInt8.toNat.inj this
 have g:¬(ga x=35):=by
  intro q;have:=jG x;rw[q]at this;apply h;have:x.toNat=35:=by grind
  exact UInt8.toNat.inj this
 have p:aj (x::s)=ga x::aj s:=rfl;obtain⟨u,v⟩:=Wk (aj s) (ga x) [];have w:cN (aj (x::s))=ga x::u:=by rw[p,<- v];show(aj s).foldl bf (bf [] (ga x))=_;rw[bf,if_neg (λq=>b q.1)];rfl
 have k:d8 (ga x::u)=35::t:=by rw[<- w];exact hp
 rcases aq7 u with rfl|⟨d,y,rfl⟩;have:d8 ([]++[ga x])=[]++[ga x]:=by rw[jP,if_neg b]
 simp_all;rw[arG,<- apH,jP]at k
 grind
 omega
theorem oZ(xs:List (List UInt8))(c:UInt8):(Lib.join xs [c]).length+1=(xs.map List.length).sum+xs.length+(if xs=[]then 1 else 0):=by
 rcases xs with _|⟨x,xs⟩;rfl;rw[Zq,if_neg asp];have:(xs.flatMap λy=>[c]++y).length=(xs.map List.length).sum+xs.length:=by
  induction xs with
  |nil=>rfl
  |cons y l ih=>simp only[apD,apd,ih,apv,aqJ,apb,apJ];omega
 grind
theorem aeA{α:Type}{f g:α->Nat}:∀l:List α,(∀a∈l,f a<=g a)->(l.map f).sum<=(l.map g).sum
 |[],_=>ao0 _
 | a::l,h=>by
   have c:=aeA l λx b=>h x (by simp[b])
   grind
theorem aiV{l m:List Nat}(h:l.Perm m):l.sum=m.sum:=by grind
theorem ac0(r:Rdn):(dx true r).length<=(dx false r).length:=by
 have b:(fE (r.map (avT true))).Perm (r.map (avT true)):=aqG _ _;have g:=oZ (fE (r.map (avT true))) 43;have f:=oZ (r.map (avT false)) 43;have e:((fE (r.map (avT true))).map List.length).sum=((r.map (avT true)).map List.length).sum:=aiV (b.map _);have h4:(fE (r.map (avT true))).length=r.length:=by rw[b.length_eq];simp
 have c:((r.map (avT true)).map List.length).sum<=((r.map (avT false)).map List.length).sum:=by
  rw[apq,apq];refine aeA r λa _=>?_
  have:=agv a.2;simp only[aro,avT,if_true,apj,if_false,apd,apb,apJ];simp only[aj,apm];omega
 have d:(if fE (r.map (avT true))=[]then 1 else 0)=(if r.map (avT false)=[]then 1 else 0):=by grind
 simp only[dx,if_true,apj,if_false]
 grind
theorem acR(d:List Rdn):(bj true d).length<=(bj false d).length:=by
 have a:=oZ (d.map (dx true)) 44;have c:=oZ (d.map (dx false)) 44;have e:((d.map (dx true)).map List.length).sum<=((d.map (dx false)).map List.length).sum:=by rw[apq,apq];exact aeA d λr _=>ac0 r
 have b:(if d.map (dx true)=[]then 1 else 0)=(if d.map (dx false)=[]then 1 else 0):=by simp
 rw[b]at a;simp only[apm]at a c;unfold bj;omega
theorem agJ{xs d:List (List UInt8)}(h:xs.Perm d):fE xs=fE d:=by
 have e:∀zs:List (List UInt8),(fE zs).Pairwise λx y=>x<=y:=λzs=>by
  have:=ar1 (le:=λx y:List UInt8=>decide (x<=y)) (λa b c g f=>by
   simp only[decide_eq_true_eq]at *;exact List.le_trans g f) (λa b=>by
   simp only[apN,decide_eq_true_eq];exact List.le_total a b) zs
  exact this.imp λh=>by simpa using h
 refine asg (le:=λx y=>x<=y) (λa b _ _=>arZ) (e xs) (e d) ?_;exact(aqG _ _).trans (h.trans (aqG _ _).symm)
theorem aeC(r:Rdn):dx true (iL r)=dx true r:=by simp only[dx,if_true];congr 1;refine agJ ?_;refine((Y5 r).map _).trans ?_;rw[apq];rw[show(avT true∘Ec)=avT true from funext λa=>by simp only[aro,al3,ag5]]
abbrev Pth:=List (List UInt8)
variable {p:Pth}
abbrev INm:=Int×Pth
def bE(l:List INm)(p:Pth):Nat:=(l.filter λm=>decide (m.2≠[]/\m.2.tail=p)).length
structure tQ(suf:Pth)(l:List INm):Prop where
 sne:suf≠[]
 nd:(l.map (·.2)).Nodup
 ids:(l.map (·.1)).Nodup
 un:∀m∈l,suf <:+ m.2
 par:∀m∈l,m.2=suf\/∃k∈l,k.2=m.2.tail
theorem tQ.nil{suf:Pth}(h:suf≠[]):tQ suf []:=⟨h,asp,asp,λ_ h=>absurd h apX,λ_ h=>absurd h apX⟩
theorem f9{α β:Type}{f:α->β}:∀{l:List α},(l.map f).Nodup->∀{a b:α},a∈l->b∈l->f a=f b->a=b
 |[],_,a,_,h,_,_=>by cases h
 | x::l,h,a,b,ha,hb,e=>by
   rw[apv,aqi]at h;rcases apn.1 ha with g|c<;>rcases apn.1 hb with i|d
   .simp[*]
   .grind
   .simp_all
   .exact f9 h.2 c d e
theorem EJ{α β:Type}{f:α->β}:∀{l:List α},(l.map f).Nodup->l.Nodup
 |[],_=>List.nodup_nil
 |x::l,h=>by rw[apv,aqi]at h;exact aqi.2 ⟨λa=>h.1 (ao6.2 ⟨x,a,rfl⟩),EJ h.2⟩
theorem tQ.byP{suf:Pth}{l:List INm}(h:tQ suf l){a b:INm}(c:a∈l)(d:b∈l)(e:a.2=b.2):a=b:=f9 h.nd c d e
theorem tQ.byI{suf:Pth}{l:List INm}(h:tQ suf l){a b:INm}(c:a∈l)(d:b∈l)(e:a.1=b.1):a=b:=f9 h.ids c d e
theorem tQ.ne{suf:Pth}{l:List INm}(h:tQ suf l){m:INm}(a:m∈l):m.2≠[]:=λe=>h.sne (by have:=h.un m a;rw[e]at this;exact List.suffix_nil.1 this)
theorem tQ.anc{suf:Pth}{l:List INm}(h:tQ suf l):∀(n:Nat) (k:INm) (y x:Pth),y.length=n->k∈l->k.2=y++x->suf <:+ x->∃m∈l,m.2=x
 |0,k,y,x,hy,hk,e,_=>⟨k,hk,by rw[e,List.eq_nil_of_length_eq_zero hy];rfl⟩
 | n+1,k,y,x,hy,hk,e,hs=>by
   obtain⟨a,b,rfl⟩:∃a b,y=a::b:=by
    cases y with
    |nil=>simp at hy
    |cons a b=>exact⟨a,b,rfl⟩
   rcases h.par k hk with c|⟨p,d,c⟩
   .have h1:=hs.length_le
    grind
   .rw[e]at c;exact h.anc n p b x (by simpa using hy) d c hs
theorem tQ.ancS{suf:Pth}{l:List INm}(h:tQ suf l){k:INm}{x:Pth}(a:k∈l)(b:x <:+ k.2)(c:suf <:+ x):∃m∈l,m.2=x:=by obtain⟨y,e⟩:=b;exact h.anc y.length k y x rfl a e.symm c
theorem tQ.added{suf:Pth}{l:List INm}(h:tQ suf l)(hid:∀m∈l,m.1≠id)(j:∀m∈l,m.2≠p)(d:p=suf\/∃k∈l,k.2=p.tail):
  tQ suf (l++[(id,p)])/\bE (l++[(id,p)]) p=0/\∀q,bE (l++[(id,p)]) q=bE l q+if p.tail=q then 1 else 0:=by
 have c:suf <:+ p:=by rcases d with rfl|⟨k,b,e⟩;simp;have:=h.un k b;rw[e]at this;exact this.trans (arb p)
 have g:p≠[]:=λe=>h.sne (by rw[e]at c;exact List.suffix_nil.1 c)
 have b:∀q,bE (l++[(id,p)]) q=bE l q+if p.tail=q then 1 else 0:=λq=>by
  unfold bE
  grind
 refine⟨⟨h.sne,?_,?_,?_,?_⟩,?_,b⟩;rw[apz,arp];refine⟨h.nd,asp,?_⟩
 grind
 rw[apz,arp];refine⟨h.ids,asp,?_⟩
 grind
 intro m a;rcases ao5.1 a with a|a;exact h.un m a;simp_all;intro m a;rcases ao5.1 a with a|a;rcases h.par m a with e|⟨k,b,e⟩;simp[*]
 grind
 rw[apr.1 a];rcases d with e|⟨k,b,e⟩;simp[*]
 grind
 rw[b p];have i:¬p.tail=p:=λe=>by
  have:=congrArg List.length e
  grind
 rw[if_neg i];have:bE l p=0:=by
  unfold bE;rw[apK,List.filter_eq_nil_iff];intro m a f;simp only[decide_eq_true_eq]at f;rcases h.par m a with e|⟨k,b,e⟩;have:=c.length_le;rw[<- f.2,e,aqK]at this;have:=apQ.2 h.sne;omega
  grind
 omega
theorem tQ.deleted{suf:Pth}{l:List INm}(h:tQ suf l)(b:(id,p)∈l)(f:bE l p=0):
  tQ suf (l.filter λm=>decide (m.1≠id))/\∀q,bE (l.filter λm=>decide (m.1≠id)) q+(if p.tail=q then 1 else 0)=bE l q:=by
 have sub:∀m∈l.filter (λm=>decide (m.1≠id)),m∈l/\m.1≠id:=λm b=>by simpa using apC.1 b
 refine⟨⟨h.sne,(List.filter_sublist.map _).nodup h.nd,(List.filter_sublist.map _).nodup h.ids,λm b=>h.un m (sub m b).1,λm g=>?_⟩,λq=>?_⟩;obtain⟨c,n⟩:=sub m g;rcases h.par m c with e|⟨k,i,e⟩;simp[*];refine .inr ⟨k,?_,e⟩;simp only[apC,decide_eq_true_eq];refine⟨i,λo=>?_⟩;have:k=(id,p):=h.byI i b o;subst this;unfold bE at f;rw[apK,List.filter_eq_nil_iff]at f;exact f m c (by simp only[decide_eq_true_eq];exact⟨h.ne c,e.symm⟩);have key:∀l:List INm,(l.map (·.1)).Nodup->(id,p)∈l->p≠[]->bE (l.filter λm=>decide (m.1≠id)) q+(if p.tail=q then 1 else 0)=bE l q:=by
  intro l;induction l with
  |nil=>intro _ h;cases h
  | cons a l ih =>
    intro j b d;rw[apv,aqi]at j;rcases apn.1 b with rfl|b
    .have:l.filter (λm=>decide (m.1≠id))=l:=List.filter_eq_self.2 λm b=>by grind
     unfold bE
     grind
    .have:=ih j.2 b d;unfold bE at this⊢
     grind
 exact key l h.ids b (h.ne b)
def ren(p q x:Pth):Pth:=if p <:+ x then x.take (x.length-p.length)++q else x
theorem iN(p q y:Pth):ren p q (y++p)=y++q:=by unfold ren;simp
theorem gZ{q x:Pth}(h:¬p <:+ x):ren p q x=x:=by unfold ren;rw[if_neg h]
theorem ZL{α:Type}{f g:α->Bool}{a:α}:∀{l:List α},l.Nodup->a∈l->(∀k∈l,k≠a->f k=g k)->(l.filter f).length+(if g a=true then 1 else 0)=(l.filter g).length+(if f a=true then 1 else 0)
 |[],_,h,_=>by cases h
 | x::l,hn,hm,he=>by
   obtain⟨i,d⟩:=aqi.1 hn;by_cases c:x=a
   .subst c;have:l.filter f=l.filter g:=List.filter_congr λk b=>he k (by simp[b]) λe=>i (e▸b)
    grind
   .have hm':a∈l:=by grind
    have j:=ZL d hm' λk b=>he k (by simp[b])
    grind
theorem tQ.moved{suf:Pth}{l:List INm}(h:tQ suf l){q:Pth}(C:(id,p)∈l)(P:p≠suf)(O:q≠[])(J:¬p <:+ q.tail)(I:∃k∈l,k.2=q.tail)(T:∀m∈l,m.2=q->m.1=id):
  tQ suf (l.map λm=>(m.1,ren p q m.2))/\∀m∈l,(bE (l.map λm=>(m.1,ren p q m.2)) (ren p q m.2):Int)=bE l m.2+(if m.2=q.tail then 1 else 0)-(if m.2=p.tail then 1 else 0):=by
 have K:suf <:+ q:=by obtain⟨k,i,e⟩:=I;have:=h.un k i;rw[e]at this;exact this.trans (arb q)
 have Q:=h.un _ C;have t:=h.ne C;have V:∀k∈l,q <:+ k.2->p <:+ k.2:=λk i c=>by obtain⟨m,n,e⟩:=h.ancS i c K;have:m=(id,p):=h.byI n C (T m n e);simp_all
 have inj:∀a∈l,∀b∈l,ren p q a.2=ren p q b.2->a=b:=λa W b D e=>by
  by_cases N:p <:+ a.2<;>by_cases M:p <:+ b.2;obtain⟨y,w⟩:=N;obtain⟨z,u⟩:=M;rw[<- w,<- u,iN,iN]at e;exact h.byP W D (by rw[<- w,<- u,List.append_cancel_right e]);obtain⟨y,w⟩:=N;rw[<- w,iN,gZ M]at e
  grind
  obtain⟨z,u⟩:=M;rw[<- u,iN,gZ N]at e
  grind
  rw[gZ N,gZ M]at e;exact h.byP W D e
 have s:∀k∈l,p <:+ k.2->∃j∈l,j.2=k.2.tail:=λk i c=>by rcases h.par k i with e|e;rw[e]at c;exact absurd (c.eq_of_length_le Q.length_le) P;omega
 have H:∀y:Pth,y≠[]->(y++q).tail=y.tail++q/\(y++p).tail=y.tail++p:=λy r=>by simp[*]
 have G:l.Nodup:=EJ h.ids;refine⟨⟨h.sne,?_,by rw[apq];exact h.ids,?_,?_⟩,?_⟩;rw[apq];have:∀A:List INm,(∀x∈A,x∈l)->A.Nodup->(A.map ((·.2)∘λm:INm=>(m.1,ren p q m.2))).Nodup:=by
  intro A;induction A with
  |nil=>intro _ _;simp
  | cons a A ih =>
    intro c Y;obtain⟨n1,n2⟩:=aqi.1 Y;rw[apv,aqi];refine⟨λS=>?_,ih (λx Z=>c x (by simp[Z])) n2⟩;obtain⟨b,D,e⟩:=ao6.1 S;exact n1 (inj b (c b (by simp[D])) a (c a asp) e▸D)
 exact this l (λ_ h=>h) G;intro m n;obtain⟨k,i,rfl⟩:=ao6.1 n;simp only;by_cases c:p <:+ k.2;obtain⟨y,e⟩:=c;rw[<- e,iN];exact K.trans (List.suffix_append ..);rw[gZ c];exact h.un k i;intro m n;obtain⟨k,i,rfl⟩:=ao6.1 n;simp only;by_cases c:p <:+ k.2;obtain⟨y,e⟩:=c;rw[<- e,iN];right;by_cases r:y=[];subst r;obtain⟨j,v,o⟩:=I;exact⟨_,arE v,by simp only;rw[o,gZ J];rfl⟩;obtain⟨j,v,o⟩:=s k i ⟨y,e⟩;rw[<- e,(H y r).2]at o;exact⟨_,arE v,by simp only;rw[o,iN,(H y r).1]⟩;rw[gZ c];rcases h.par k i with e|⟨j,v,o⟩;exact .inl e;refine .inr ⟨_,arE v,?_⟩;simp only;rw[o,gZ (λS=>c (S.trans (arb _)))];intro m U;have F:∀y:Pth,y++q≠[]:=λy e=>O (List.append_eq_nil_iff.1 e).2
 have w:bE (l.map λm=>(m.1,ren p q m.2)) (ren p q m.2)=(l.filter λk=>decide (ren p q k.2≠[]/\(ren p q k.2).tail=ren p q m.2)).length:=by unfold bE;rw[List.filter_map,apm];rfl
 have L:=ZL (f:=λk:INm=>decide (ren p q k.2≠[]/\(ren p q k.2).tail=ren p q m.2)) (g:=λk:INm=>decide (k.2≠[]/\k.2.tail=m.2)) G C λk i R=>by
  congr 1;apply propext;by_cases c:p <:+ k.2;obtain⟨j,v,o⟩:=s k i c;obtain⟨y,e⟩:=c;have r:y≠[]:=λu=>by subst u;exact R (h.byP i C e.symm)
  rw[<- e]at o⊢;rw[iN,(H y r).1,(H y r).2];rw[(H y r).2]at o;constructor;rintro⟨_,d⟩;refine⟨λe4=>t (List.append_eq_nil_iff.1 e4).2,?_⟩;have:j=m:=inj j v m U (by rw[o,iN,d]);rw[<- this,o];rintro⟨_,d⟩;exact⟨F _,by rw[<- d,iN]⟩;rw[gZ c];by_cases B:p <:+ m.2;obtain⟨y,e⟩:=B;rw[<- e,iN];constructor;rintro⟨_,d⟩;exact absurd (V k i (List.IsSuffix.trans (⟨y,d.symm⟩:q <:+ k.2.tail) (arb _))) c;rintro⟨_,d⟩;exact absurd (List.IsSuffix.trans (⟨y,d.symm⟩:p <:+ k.2.tail) (arb _)) c;rw[gZ B]
 rw[<- w]at L;have X:decide (ren p q (id,p).2≠[]/\(ren p q (id,p).2).tail=ren p q m.2)=decide (m.2=q.tail):=by have u:ren p q p=q:=(by have:=iN p q [];simpa using this);simp only[u];congr 1;apply propext;by_cases B:p <:+ m.2;obtain⟨y,e⟩:=B;rw[<- e,iN];constructor;rintro⟨_,d⟩;have:=congrArg List.length d;rw[aqK,apd]at this;have:=apQ.2 O;omega;intro d;exact absurd ⟨y,d⟩ J;rw[gZ B];exact⟨λd=>d.2.symm,λd=>⟨O,d.symm⟩⟩
 have g1:decide ((id,p).2≠[]/\(id,p).2.tail=m.2)=decide (m.2=p.tail):=by congr 1;apply propext;exact⟨λd=>d.2.symm,λd=>⟨t,d.symm⟩⟩
 simp only[X,g1,decide_eq_true_eq]at L;have E:bE (l.map λm=>(m.1,ren p q m.2)) (ren p q m.2)+(if m.2=p.tail then 1 else 0)=bE l m.2+(if m.2=q.tail then 1 else 0):=L;clear L;revert E;split<;>split<;>intro E<;>omega
def NK(d:List Rdn):Pth:=d.map (dx true)
def OkD(d:List Rdn):Prop:=(prS d).2=0
instance (d:List Rdn):Decidable (OkD d):=inferInstanceAs (Decidable (_=_))
theorem ZP:∀(d:List Rdn) (i:Nat),i<=32->(jJ i d=0↔i+d.length<=32/\∀r∈d,r≠[]/\dW [] r=0)
 |[],i,h=>by simp[jJ,h]
 | r::d,i,h=>by
   unfold jJ;by_cases c:i=32
   .grind
   rw[if_neg c];by_cases b:r=[]
   .simp[*]
   rw[if_neg b];by_cases a:dW [] r=0
   .rw[if_neg (by simpa using a),ZP d (i+1) aso]
    grind
   simp[*]
theorem Vt(d:List Rdn):OkD d↔d.length<=32/\(∀r∈d,r≠[]/\dW [] r=0)/\JD d=false/\(bj false d).length<=4096:=by
 have a:=ZP d 0 aso;unfold OkD prS
 grind
theorem OkD.nil:OkD []:=(Vt []).2 ⟨asp,asp,by rfl,by decide⟩
theorem aii(k:Bool)(c d:List Rdn):(bj k d).length<=(bj k (c++d)).length:=by
 have b:=oZ (d.map (dx k)) 44;have a:=oZ ((c++d).map (dx k)) 44;unfold bj
 grind
theorem OkD.app{c:List Rdn}(h:OkD (c++d)):OkD d:=by rw[Vt]at h⊢;obtain⟨f,e,b,h4⟩:=h;refine⟨by simp at f;omega,λr a=>e r (by simp[a]),?_,apk (aii _ _ _) h4⟩;unfold JD at b⊢;simp_all
theorem OkD.drop(h:OkD d)(n:Nat):OkD (d.drop n):=OkD.app (c:=d.take n) (by rw[aqy];exact h)
theorem OkD.tail(h:OkD d):OkD d.tail:=by rw[<- arH];exact h.drop 1
theorem OkD.len(h:OkD d):d.length<=32:=((Vt d).1 h).1
theorem iO(h:OkD d):Sa d=(bj true d,0):=by unfold Sa;rw[if_neg (by simpa[OkD]using h)]
theorem Vv(h:¬OkD d):(Sa d).2≠0:=by unfold Sa;rw[if_pos (show(prS d).2≠0 from h)];exact h
theorem OkD.plain(h:OkD d):dV (bj true d)=(hG d,0):=by obtain⟨e,b,c,h4⟩:=(Vt d).1 h;have a:jJ 0 d=0:=(ZP d 0 aso).2 ⟨aso,b⟩;have:=acR d;rw[<- EI d];exact ai0 (ZO d 0 a) (by rw[EI];omega)
theorem aek(d:List Rdn):NK (hG d)=NK d:=by unfold NK hG;rw[apq];rw[show(dx true∘iL)=dx true from funext aeC]
theorem kw{e:List Rdn}(b:OkD d)(c:OkD e):bj true d=bj true e↔NK d=NK e:=by
 constructor;intro h;have a:=b.plain;rw[h,c.plain]at a;have:hG e=hG d:=by injection a
 rw[<- aek d,<- this,aek];intro h;unfold NK at h;unfold bj;rw[h]
theorem bC(d:List Rdn):(NK d).length=d.length:=by simp[NK]
theorem SM :NK d=[]↔d=[]:=by simp[NK]
theorem agt(d:List Rdn)(n:Nat):NK (d.drop n)=(NK d).drop n:=by simp[NK]
theorem V2(d:List Rdn):NK d.tail=(NK d).tail:=by simp[NK]
def cA(d b:List Rdn):Bool:=decide (OkD d)&&decide (OkD b)&&decide (b.length<=d.length)&&decide (bj true (d.drop (d.length-b.length))=bj true b)
theorem cC{b:List Rdn}:cA d b=true↔OkD d/\OkD b/\NK b <:+ NK d:=by
 unfold cA;simp only[ao3,decide_eq_true_eq];constructor;rintro⟨⟨⟨a,c⟩,f⟩,h4⟩;refine⟨a,c,?_⟩;rw[kw (a.drop _) c,agt]at h4;rw[<- h4];exact List.drop_suffix _ _;rintro⟨a,c,f⟩;have g:=f.length_le;rw[bC,bC]at g;rw[kw (a.drop _) c,agt];obtain⟨y,e⟩:=f;have:y.length=d.length-b.length:=by have:=congrArg List.length e;rw[apd,bC,bC]at this;omega
 grind
def kD(a b:List Rdn):Bool:=decide (a.length=b.length)&&cA a b
theorem acX{a b:List Rdn}:kD a b=true↔OkD a/\OkD b/\NK a=NK b:=by unfold kD;rw[ao3,decide_eq_true_eq,cC];constructor;rintro⟨e,d,c,h4⟩;exact⟨d,c,(h4.eq_of_length (by rw[bC,bC,e])).symm⟩;rintro⟨e,d,c⟩;exact⟨by rw[<- bC,c,bC],e,d,by rw[c];exact aq9 _⟩
structure Ent(α:Type)where
 id:Int
 nm:List Rdn
 av:α
variable {α:Type}
def d7(l:List (Ent α)):List INm:=l.map λx=>(x.id,NK x.nm)
structure TOk(suf:List Rdn)(last:Int)(l:List (Ent α)):Prop where
 sok:OkD suf
 ok:∀x∈l,OkD x.nm
 inv:tQ (NK suf) (d7 l)
 ids:∀x∈l,1<=x.id/\x.id<=last
theorem gN{l:List (Ent α)}{x:Ent α}(h:x∈l):(x.id,NK x.nm)∈d7 l:=ao6.2 ⟨x,h,rfl⟩
theorem TOk.byN{last:Int}{l:List (Ent α)}(h:TOk suf last l){a b:Ent α}(d:a∈l)(f:b∈l)(e:NK a.nm=NK b.nm):a=b:=by have c:=h.inv.nd;unfold d7 at c;rw[apq]at c;exact f9 c d f e
theorem TOk.byI{last:Int}{l:List (Ent α)}(h:TOk suf last l){a b:Ent α}(d:a∈l)(f:b∈l)(e:a.id=b.id):a=b:=by have c:=h.inv.ids;unfold d7 at c;rw[apq]at c;exact f9 c d f e
def atE(l:List (Ent α))(d:List Rdn):Option (Ent α):=if OkD d then l.find? (λx=>decide (NK x.nm=NK d))else none
def bA(l:List (Ent α))(d:List Rdn):Int:=match atE l d with|some x=>x.id|none=>0
def o4(l:List (Ent α))(id:Int):Option (Ent α):=l.find? (λx=>decide (x.id=id))
def iP(l:List (Ent α))(id:Int):Nat:=match o4 l id with|some x=>bE (d7 l) (NK x.nm)|none=>0
theorem cP{l:List (Ent α)}{x:Ent α}(h:atE l d=some x):OkD d/\x∈l/\NK x.nm=NK d:=by
 unfold atE at h
 grind
theorem TOk.at{last:Int}{l:List (Ent α)}(h:TOk suf last l){x:Ent α}(a:x∈l)(b:OkD d)(e:NK d=NK x.nm):atE l d=some x:=by
 unfold atE;rw[if_pos b];cases hf:l.find? (λx=>decide (NK x.nm=NK d))with
 |none=>exact absurd e.symm (by simpa using aqB.1 hf x a)
 |some y=>rw[h.byN (aqT hf) a (by rw[<- e];simpa using aqU hf)]
theorem tO{l:List (Ent α)}:atE l d=none↔(OkD d->∀x∈l,NK x.nm≠NK d):=by unfold atE;simp
theorem TOk.ent{last:Int}{l:List (Ent α)}(h:TOk suf last l){x:Ent α}(a:x∈l):o4 l x.id=some x:=by
 unfold o4;cases hf:l.find? (λy=>decide (y.id=x.id))with
 |none=>exact absurd (aqB.1 hf x a) asp
 |some y=>rw[h.byI (aqT hf) a (by simpa using aqU hf)]
theorem TOk.find0{last:Int}{l:List (Ent α)}(h:TOk suf last l):bA l d=0↔atE l d=none:=by
 unfold bA;cases hf:atE l d with
 |none=>simp
 | some x =>
   have:=h.ids x (cP hf).2.1
   grind
theorem TOk.kids{last:Int}{l:List (Ent α)}(h:TOk suf last l){x:Ent α}(g:x∈l):bE (d7 l) (NK x.nm)=(l.filter λk=>decide (k.nm.length=x.nm.length+1)&&cA k.nm x.nm).length:=by
 unfold bE d7;rw[List.filter_map,apm];congr 1;refine List.filter_congr λk f=>?_
 rw[arq];simp only[aro,ao3,decide_eq_true_eq,cC];constructor;rintro⟨c,b⟩;have d:=congrArg List.length b;have i:=apQ.2 c;rw[aqK,bC,bC]at d;rw[bC]at i;exact⟨aso,h.ok k f,h.ok x g,by rw[<- b];exact arb _⟩;rintro⟨c,_,_,b⟩;obtain⟨y,e⟩:=b;have j:=congrArg List.length e;rw[apd,bC,bC]at j;obtain⟨a,rfl⟩:∃a,y=[a]:=List.length_eq_one_iff.1 aso
 grind
theorem V6{β:Type}{x y z:List β}(b:x <:+ z)(a:y <:+ z)(h:x.length<=y.length):x <:+ y:=List.suffix_of_suffix_length_le b a h
open Go Go.Sort
def cpS(a b:List UInt8):Int:=if a<b then -1 else if b<a then 1 else 0
def cpP:Pth->Pth->Int
 |[],[]=>0
 |[],_::_=>-1
 |_::_,[]=>1
 |x::a,y::b=>if cpS x y≠0 then cpS x y else cpP a b
theorem aj9(a:List UInt8):¬a<a:=aqH a
theorem alU(h:a<b):¬b<a:=List.lt_asymm h
theorem aj8{c:List UInt8}(d:a<b)(e:b<c):a<c:=List.lt_trans d e
theorem anj(d:¬a<b)(c:¬b<a):a=b:=arZ (aq8.1 c) (aq8.1 d)
theorem Er(a b:List UInt8):(a<b/\cpS a b=-1)\/(a=b/\cpS a b=0)\/(b<a/\cpS a b=1):=by
 unfold cpS
 grind
theorem aj1(a:List UInt8):cpS a a=0:=by unfold cpS;rw[if_neg (aj9 a),if_neg (aj9 a)]
theorem aj2(h:a<b):cpS a b=-1:=if_pos h
theorem anh(h:b<a):cpS a b=1:=by unfold cpS;rw[if_neg (alU h),if_pos h]
theorem ad2:∀(a b:Pth),cpP b a=- cpP a b
 |[],[]=>rfl
 |[],_::_=>rfl
 |_::_,[]=>rfl
 | x::a,y::b=>by
   unfold cpP;rcases Er x y with⟨h,e⟩|⟨h,e⟩|⟨h,e⟩
   .rw[e,anh h];rfl
   .subst h;rw[e];exact ad2 a b
   .rw[e,aj2 h];rfl
theorem ad0:∀{a b:Pth},cpP a b=0->a=b
 |[],[],_=>rfl
 |[],_::_,h=>by simp[cpP]at h
 |_::_,[],h=>by simp[cpP]at h
 | x::a,y::b,h=>by
   unfold cpP at h;rcases Er x y with⟨c,e⟩|⟨c,e⟩|⟨c,e⟩
   .omega
   .subst c;rw[e]at h;rw[ad0 h]
   omega
theorem ad1:∀a:Pth,cpP a a=0
 |[]=>rfl
 |x::a=>by unfold cpP;rw[aj1];simpa using ad1 a
theorem abt:∀{a b c:Pth},cpP a b<0->cpP b c<0->cpP a c<0
 |[],[],_,h,_=>by exact absurd h (by decide)
 |[],_::_,[],_,h=>by exact absurd h (by show ¬(1:Int)<0;decide)
 |[],_::_,_::_,_,_=>by show(-1:Int)<0;decide
 |_::_,[],_,h,_=>by exact absurd h (by show ¬(1:Int)<0;decide)
 |_::_,_::_,[],_,h=>by exact absurd h (by show ¬(1:Int)<0;decide)
 | x::a,y::b,z::c,h1,h2=>by
   unfold cpP at h1 h2⊢;rcases Er x y with⟨g,f⟩|⟨g,f⟩|⟨g,f⟩
   .rcases Er y z with⟨d,e⟩|⟨d,e⟩|⟨d,e⟩
    .rw[aj2 (aj8 g d)];simp
    .simp_all
    omega
   .subst g;rcases Er x z with⟨d,e⟩|⟨d,e⟩|⟨d,e⟩
    .omega
    .subst d;rw[f]at h1 h2;rw[f];exact abt h1 h2
    omega
   omega
def pLt(a b:Pth):Bool:=decide (cpP a b<0)
theorem af6(a:Pth):pLt a a=false:=by unfold pLt;rw[ad1];rfl
theorem Wa{a b c:Pth}(d:pLt a b=true)(e:pLt b c=true):pLt a c=true:=by unfold pLt at *;rw[decide_eq_true_eq]at *;exact abt d e
theorem abV{a b:Pth}(d:pLt a b=false)(c:pLt b a=false):a=b:=by unfold pLt at *;rw[decide_eq_false_iff_not]at *;rw[ad2 a b]at c;exact ad0 aso
theorem ade{a b:Pth}(h:pLt a b=true):pLt b a=false:=by
 cases h2:pLt b a with
 |false=>rfl
 |true=>have:=Wa h h2;rw[af6]at this;cases this
theorem R9{a b c:Pth}(e:pLt a b=false)(d:pLt b c=false):pLt a c=false:=by
 cases h3:pLt a c with
 |false=>rfl
 | true =>
   cases h4:pLt b a with
   |true=>have:=Wa h4 h3;rw[d]at this;cases this
   |false=>have:=abV e h4;subst this;rw[d]at h3;cases h3
theorem alm{β:Type}(f:β->Pth):SWO (λx y=>pLt (f x) (f y)):=
 ⟨λx=>af6 _,λx y z=>Wa,λx y z=>R9⟩
variable {α:Type}
def pth(x:Ent α):Pth:=(NK x.nm).reverse
def leE(x y:Ent α):Bool := !pLt (pth y) (pth x)
def iE(a:Ent α)(s:Int)(x:Ent α):Bool:=cA x.nm a.nm&&(decide (s=2) ||decide ((x.nm.length:Int)-a.nm.length=s))
def scL(l:List (Ent α))(a:Ent α)(s:Int):List (Ent α):=(l.filter (iE a s)).mergeSort leE
def scT(l:List (Ent α))(id s:Int):List Int:=match o4 l id with|none=>[]|some a=>if s<0\/2<s then[]else(scL l a s).map (·.id)
theorem abQ{x y:Ent α}(h:pth x=pth y):NK x.nm=NK y.nm:=by have:=congrArg List.reverse h;simpa[pth]using this
theorem abe(a b c:Ent α)(d:leE a b=true)(e:leE b c=true):leE a c=true:=by unfold leE at *;simp only[apL]at *;exact R9 e d
theorem abf(a b:Ent α):(leE a b ||leE b a)=true:=by
 unfold leE;cases h:pLt (pth b) (pth a)with
 |false=>rfl
 |true=>rw[ade h];rfl
theorem TOk.one{last:Int}{l:List (Ent α)}(h:TOk suf last l){a:Ent α}{s:Int}{m:List (Ent α)}(g:m.Perm (l.filter (iE a s)))(j:m.Pairwise λx y=>leE x y=true):m=scL l a s:=by have i:=ar1 (le:=leE) (λa b c=>abe a b c) abf (l.filter (iE a s));have f:(scL l a s).Perm (l.filter (iE a s)):=aqG _ _;refine asg (le:=λx y=>leE x y=true) (λx y n p d e=>?_) j i (g.trans f.symm);have o:x∈l:=(apC.1 (g.mem_iff.1 n)).1;have k:y∈l:=(apC.1 (f.mem_iff.1 p)).1;unfold leE at d e;simp only[apL]at d e;exact h.byN o k (abQ (abV e d))
def acb(x:Ent α)(l:List (Ent α)):Nat->Nat
 |0=>0
 |k+1=>match l[k]? with|some y=>if pLt (pth x) (pth y)then acb x l k else k+1|none=>k+1
def ahk(x:Ent α)(l:List (Ent α)):List (Ent α):=l.take (acb x l l.length)++[x]++l.drop (acb x l l.length)
theorem abh(x:Ent α)(l:List (Ent α)):∀k,k<=l.length->acb x l k<=k/\(∀j y,acb x l k<=j->j<k->l[j]?=some y->pLt (pth x) (pth y)=true)/\(∀y,acb x l k≠0->l[acb x l k-1]?=some y->pLt (pth x) (pth y)=false)
 |0,_=>⟨ao0 _,λj _ _ h=>absurd h (arc _),λy h=>absurd rfl h⟩
 | k+1,h=>by
   unfold acb;by_cases a:pLt (pth x) (pth l[k])=true
   .obtain⟨h1,h2,h3⟩:=abh x l k aso
    grind
   grind
theorem ahj(x:Ent α)(l:List (Ent α)):(ahk x l).Perm (l++[x]):=by unfold ahk;rw[apc];refine(List.perm_append_comm_assoc _ _ _).trans ?_;rw[aqy];exact List.perm_append_comm
theorem adG{x:Ent α}{l:List (Ent α)}(g:l.Pairwise λx y=>leE x y=true):(ahk x l).Pairwise λx y=>leE x y=true:=by
 obtain⟨z,s,r⟩:=abh x l l.length (ao0 _);unfold ahk;obtain⟨k,u⟩:=aoT (acb x l l.length);rw[u]at z s r⊢;have n:∀y∈l.drop k,pLt (pth x) (pth y)=true:=λy d=>by obtain⟨j,c,e⟩:=apV.1 d;rw[ar0]at e;rw[aqt]at c;exact s (k+j) y aso aso (by rw[ao8 aso,e])
 have o:∀y∈l.take k,pLt (pth x) (pth y)=false:=λy d=>by obtain⟨j,c,e⟩:=apV.1 d;rw[arF]at e;rw[aqk]at c;have m:k≠0:=aso;have w:l[k-1]?=some (l[k-1]'aso):=ao8 aso;have h4:=r _ m w;by_cases A:j=k-1;simp_all;have f:=aqb.1 g j (k-1) aso aso aso;rw[e]at f;unfold leE at f;rw[apL]at f;exact R9 h4 f
 rw[apc,asf];refine⟨g.sublist (List.take_sublist _ _),?_,?_⟩;rw[arv,aqs];refine⟨λy d=>?_,g.sublist (List.drop_sublist _ _)⟩;unfold leE;rw[ade (n y d)];rfl;intro a q b h;rw[arv]at h;rcases apn.1 h with rfl|h;unfold leE;rw[o a q];rfl;obtain⟨i,v,p⟩:=apV.1 q;obtain⟨j,c,t⟩:=apV.1 h;rw[arF]at p;rw[ar0]at t;rw[aqk]at v;rw[aqt]at c;rw[<- p,<- t];exact aqb.1 g i (k+j) aso aso aso
def ajr(m l:List (Ent α)):List (Ent α):=l.foldl (λm x=>ahk x m) m
theorem abi:∀(l m:List (Ent α)),(ajr m l).Perm (m++l)
 |[],m=>by simp[ajr]
 |x::l,m=>by refine(abi l (ahk x m)).trans ?_;refine((ahj x m).append_right l).trans ?_;simp
theorem XG:∀(l m:List (Ent α)),(m.Pairwise λx y=>leE x y=true)->(ajr m l).Pairwise λx y=>leE x y=true
 |[],m,h=>h
 |x::l,m,h=>by exact XG l _ (adG h)
theorem TOk.ins{last:Int}{l:List (Ent α)}(h:TOk suf last l)(a:Ent α)(s:Int):ajr [] (l.filter (iE a s))=scL l a s :=
 h.one (by simpa using abi (l.filter (iE a s)) []) (XG _ _ List.Pairwise.nil)
theorem TOk.srt{last:Int}{l:List (Ent α)}(h:TOk suf last l)(a:Ent α)(s:Int){m:List (Ent α)}(d:m.Perm (l.filter (iE a s))):m.mergeSort leE=scL l a s :=
 h.one ((aqG _ _).trans d) (ar1 (le:=leE) (λa b c=>abe a b c) abf m)
theorem ajv{last:Int}{l:List (Ent α)}(h:TOk suf last l){a x:Ent α}(c:a∈l)(d:x∈l)(s:Int):iE a s x=(decide (0<=((pth x).length:Int)-(pth a).length)&&decide ((pth x).take (pth a).length=pth a)&&(decide (s=2) ||decide (((pth x).length:Int)-(pth a).length=s))):=by
 have b:∀x:Ent α,(pth x).length=x.nm.length:=λx=>by simp[pth,bC]
 unfold iE;rw[b,b];congr 1;rw[arq,ao3,decide_eq_true_eq,decide_eq_true_eq,cC];constructor;rintro⟨_,_,y,e⟩;have f:=congrArg List.length e;rw[apd,bC,bC]at f;refine⟨aso,?_⟩;have:pth x=pth a++y.reverse:=by unfold pth;rw[<- e,List.reverse_append]
 simp[*];rintro⟨j,i⟩;refine⟨h.ok x d,h.ok a c,?_⟩;have g:pth a <+: pth x:=by rw[<- i];exact List.take_prefix _ _
 unfold pth at g;simp_all
variable {α:Type}
def iB(n:List Rdn)(k:Nat)(tn:List Rdn):List Rdn:=n.take (n.length-k)++tn
def aeN(l:List (Ent α))(id:Int)(tn:List Rdn):Bool:=match atE l tn with|some y=>decide (y.id≠id)|none=>false
def aft(l:List (Ent α))(dn tn:List Rdn):Bool:=l.any λy=>cA y.nm dn && !decide (OkD (iB y.nm dn.length tn))
def abZ(suf:List Rdn)(l:List (Ent α))(id:Int)(dn tn:List Rdn):Int :=
 if kD dn suf=true then 53 else if ¬OkD tn\/tn=[]then 34 else if cA tn.tail dn=true then 53 else if atE l tn.tail=none then 32 else if aeN l id tn=true then 68 else if aft l dn tn=true then 34 else 0
def fY(suf:List Rdn)(l:List (Ent α))(k:Int)(dn tn:List Rdn):Int :=
 if k<1\/4<k then 1
 else if k=1 then(if ¬OkD dn then 34 else if atE l dn≠none then 68 else if kD dn suf=false/\(dn=[]\/atE l dn.tail=none)then 32 else if 4096<=l.length then 80 else 0)
 else match atE l dn with
  |none=>32
  |some x=>if k=2 then(if bE (d7 l) (NK x.nm)≠0 then 66 else 0)else if k=3 then 0 else abZ suf l x.id dn tn
def tP(l:List (Ent α))(last:Int)(dn:List Rdn)(v:α):List (Ent α):=l++[⟨last+1,dn,v⟩]
def VM(l:List (Ent α))(id:Int):List (Ent α):=l.filter λx=>decide (x.id≠id)
def rJ(l:List (Ent α))(id:Int)(v:α):List (Ent α):=l.map λx=>if x.id=id then{x with av:=v}else x
def mX(l:List (Ent α))(dn tn:List Rdn):List (Ent α):=l.map λx=>if cA x.nm dn=true then{x with nm:=iB x.nm dn.length tn}else x
def doT(suf:List Rdn)(l:List (Ent α))(last:Int)(k:Int)(dn tn:List Rdn)(v:α):List (Ent α)×Int :=
 if fY suf l k dn tn≠0 then(l,last)
 else if k=1 then(tP l last dn v,last+1)
 else if k=2 then(VM l (bA l dn),last)
 else if k=3 then(rJ l (bA l dn) v,last)
 else(rJ (mX l dn tn) (bA l dn) v,last)
theorem adq(l:List (Ent α))(last:Int)(dn:List Rdn)(v:α):d7 (tP l last dn v)=d7 l++[(last+1,NK dn)]:=by simp[d7,tP]
theorem adp(l:List (Ent α))(id:Int):d7 (VM l id)=(d7 l).filter λm=>decide (m.1≠id):=by unfold d7 VM;rw[List.filter_map];rfl
theorem Zg(l:List (Ent α))(id:Int)(v:α):d7 (rJ l id v)=d7 l:=by
 unfold d7 rJ;rw[apq];refine aqj λx _=>?_
 grind
theorem af9{n:List Rdn}(h:cA n dn=true):NK (iB n dn.length tn)=ren (NK dn) (NK tn) (NK n):=by obtain⟨_,_,a⟩:=cC.1 h;unfold ren;rw[if_pos a,bC,bC];unfold iB;congr 1;simp[NK,arI]
theorem TOk.ndOf_ren{last:Int}{l:List (Ent α)}(h:TOk suf last l)(c:OkD dn)(tn:List Rdn):d7 (mX l dn tn)=(d7 l).map λm=>(m.1,ren (NK dn) (NK tn) m.2):=by
 unfold d7 mX;rw[apq,apq];refine aqj λx b=>?_
 simp only[aro];by_cases a:cA x.nm dn=true;rw[if_pos a,af9 a];rw[if_neg a];rw[gZ λd=>a (cC.2 ⟨h.ok x b,c,d⟩)]
theorem TOk.nil{last:Int}(h:OkD suf)(a:suf≠[]):TOk (α:=α) suf last []:=
 ⟨h,λ_ h=>absurd h apX,tQ.nil λe=>a (SM.1 e),λ_ h=>absurd h apX⟩
theorem TOk.cha{last:Int}{l:List (Ent α)}(h:TOk suf last l)(id:Int)(v:α):TOk suf last (rJ l id v):=by
 refine⟨h.sok,λx b=>?_,by rw[Zg];exact h.inv,λx b=>?_⟩
 all_goals
  obtain⟨y,a,rfl⟩:=ao6.1 b;split
  .first|exact h.ok y a|exact h.ids y a
  .first|exact h.ok y a|exact h.ids y a
structure aoD(suf:List Rdn)(l:List (Ent α))(dn:List Rdn):Prop where
 ok:OkD dn
 no:∀x∈l,NK x.nm≠NK dn
 par:NK dn=NK suf\/∃x∈l,NK x.nm=(NK dn).tail
theorem TOk.canA{last:Int}{l:List (Ent α)}(h:TOk suf last l)(b:fY suf l 1 dn tn=0):aoD suf l dn/\l.length<4096:=by
 unfold fY at b;by_cases a:OkD dn;rotate_left;simp_all;by_cases g:atE l dn=none;rotate_left;simp_all;by_cases f:kD dn suf=false/\(dn=[]\/atE l dn.tail=none);simp_all;by_cases h4:4096<=l.length;omega;refine⟨⟨a,tO.1 g a,?_⟩,aso⟩;cases hs:kD dn suf with
 |true=>exact .inl (acX.1 hs).2.2
 | false =>
   right;have c:¬(dn=[]\/atE l dn.tail=none):=λe=>f ⟨hs,e⟩
   cases ht:atE l dn.tail with
   |none=>exact absurd (.inr ht) c
   | some x =>
     obtain⟨_,d,e⟩:=cP ht;exact⟨x,d,by rw[e,V2]⟩
theorem TOk.add{last:Int}{l:List (Ent α)}(h:TOk suf last l)(i:0<=last)(b:aoD suf l dn)(v:α):
  TOk suf (last+1) (tP l last dn v)/\bE (d7 (tP l last dn v)) (NK dn)=0/\∀q,bE (d7 (tP l last dn v)) q=bE (d7 l) q+if(NK dn).tail=q then 1 else 0:=by
 obtain⟨g,f,d⟩:=h.inv.added (id:=last+1) (p:=NK dn) (λm c=>by
  obtain⟨x,a,rfl⟩:=ao6.1 c;have:=h.ids x a;simp only;omega) (λm c=>by
  obtain⟨x,a,rfl⟩:=ao6.1 c;exact b.no x a) (by
  rcases b.par with e|⟨x,a,e⟩;exact .inl e;exact .inr ⟨_,gN a,e⟩)
 rw[adq];refine⟨⟨h.sok,λx a=>?_,by rw[adq];exact g,λx a=>?_⟩,f,d⟩;rcases ao5.1 a with a|a;exact h.ok x a;rw[apr.1 a];exact b.ok;rcases ao5.1 a with a|a;have:=h.ids x a;omega
 grind
theorem TOk.del{last:Int}{l:List (Ent α)}(h:TOk suf last l){x:Ent α}(b:x∈l)(d:bE (d7 l) (NK x.nm)=0):
  TOk suf last (VM l x.id)/\∀q,bE (d7 (VM l x.id)) q+(if(NK x.nm).tail=q then 1 else 0)=bE (d7 l) q:=by
 obtain⟨e,c⟩:=h.inv.deleted (gN b) d;rw[adp];refine⟨⟨h.sok,λy a=>h.ok y (apC.1 a).1,by rw[adp];exact e,λy a=>h.ids y (apC.1 a).1⟩,c⟩
structure anC(suf:List Rdn)(l:List (Ent α))(x:Ent α)(dn tn:List Rdn):Prop where
 mem:x∈l
 ok:OkD dn
 nk:NK x.nm=NK dn
 tok:OkD tn
 tne:tn≠[]
 nos:NK dn≠NK suf
 nun:¬NK dn <:+ (NK tn).tail
 par:∃y∈l,NK y.nm=(NK tn).tail
 oth:∀y∈l,NK y.nm=NK tn->y=x
 all:∀y∈l,cA y.nm dn=true->OkD (iB y.nm dn.length tn)
theorem TOk.canM{last:Int}{l:List (Ent α)}(h:TOk suf last l){x:Ent α}(n:atE l dn=some x)(m:abZ suf l x.id dn tn=0):anC suf l x dn tn:=by
 obtain⟨d,i,e⟩:=cP n;unfold abZ at m;by_cases q:kD dn suf=true;simp_all;by_cases k:¬OkD tn\/tn=[];simp_all;have f:OkD tn:=by simp_all
 by_cases o:cA tn.tail dn=true;simp_all;by_cases h4:atE l tn.tail=none;simp_all;by_cases b:aeN l x.id tn=true;simp_all;by_cases j:aft l dn tn=true;simp_all;refine⟨i,d,e,f,λc=>k (.inr c),λc=>q (acX.2 ⟨d,h.sok,c⟩),λc=>o (cC.2 ⟨f.tail,d,by rw[V2];exact c⟩),?_,λy a c=>?_,λy a r=>?_⟩;cases g:atE l tn.tail with
 |none=>exact absurd g h4
 | some y =>
   obtain⟨_,a,p⟩:=cP g;exact⟨y,a,by rw[p,V2]⟩
 have:=h.at a f c.symm;unfold aeN at b;rw[this]at b;simp only[decide_eq_true_eq,ne_eq,arD]at b;exact h.byI a i b;have g:=aqA.1 (by simpa[aft]using j:(l.any λy=>cA y.nm dn && !decide (OkD (iB y.nm dn.length tn)))=false) y a;simp_all
theorem TOk.mov{last:Int}{l:List (Ent α)}(h:TOk suf last l){x:Ent α}(a:anC suf l x dn tn):
  TOk suf last (mX l dn tn)/\∀y∈l,(bE (d7 (mX l dn tn)) (ren (NK dn) (NK tn) (NK y.nm)):Int)=bE (d7 l) (NK y.nm)+(if NK y.nm=(NK tn).tail then 1 else 0)-(if NK y.nm=(NK dn).tail then 1 else 0):=by
 have d:(x.id,NK dn)∈d7 l:=by rw[<- a.nk];exact gN a.mem
 obtain⟨i,f⟩:=h.inv.moved d a.nos (λe=>a.tne (SM.1 e)) a.nun (by
  obtain⟨y,b,e⟩:=a.par;exact⟨_,gN b,e⟩) (λm d e=>by
  obtain⟨y,b,rfl⟩:=ao6.1 d;rw[a.oth y b e])
 rw[h.ndOf_ren a.ok];refine⟨⟨h.sok,λy b=>?_,by rw[h.ndOf_ren a.ok];exact i,λy b=>?_⟩,λy b=>f _ (gN b)⟩;obtain⟨z,c,rfl⟩:=ao6.1 b;split;rename_i g;exact a.all z c g;exact h.ok z c;obtain⟨z,c,rfl⟩:=ao6.1 b;split;exact h.ids z c;exact h.ids z c
theorem TOk.done{last:Int}{l:List (Ent α)}(h:TOk suf last l)(f:0<=last)(k:Int)(dn tn:List Rdn)(v:α):TOk suf (doT suf l last k dn tn v).2 (doT suf l last k dn tn v).1/\last<=(doT suf l last k dn tn v).2/\(doT suf l last k dn tn v).2<=last+1/\(doT suf l last k dn tn v).1.length<=l.length+1:=by
 unfold doT;by_cases a:fY suf l k dn tn=0;rotate_left
 grind
 rw[if_neg (by simpa using a)];by_cases c:k=1;subst c;rw[if_pos rfl];exact⟨(h.add f (h.canA a).1 v).1,by simp only;omega,by simp only;omega,by simp[tP]⟩;rw[if_neg c];unfold fY at a;by_cases e:k<1\/4<k;omega;rw[if_neg e,if_neg c]at a;cases hx:atE l dn with
 |none=>rw[hx]at a;simp at a
 | some x =>
   rw[hx]at a;simp only at a;have g:bA l dn=x.id:=(by unfold bA;rw[hx]);rw[g];by_cases d:k=2
   .rw[if_pos d]at a⊢;by_cases b:bE (d7 l) (NK x.nm)=0
    .exact⟨(h.del (cP hx).2.1 b).1,arJ _,by simp only;omega,Nat.le_succ_of_le (ap4 _ _)⟩
    omega
   rw[if_neg d]at a⊢;by_cases b:k=3
   .rw[if_pos b];exact⟨h.cha _ _,arJ _,by simp only;omega,by simp[rJ]⟩
   rw[if_neg b]at a⊢;exact⟨(h.mov (h.canM hx a)).1.cha _ _,arJ _,by simp only;omega,by simp[rJ,mX]⟩
structure Rul where
 who:Int
 dn:List UInt8
 wh:List UInt8
 at_:List UInt8
 rg:Int
 al:Bool
deriving Inhabited
def XP(r:Rul):List AV:=[.int .i64 r.who,.str r.dn,.str r.wh,.str r.at_,.int .i64 r.rg,.bool r.al]
def rlC(r:Rul):List AV:=XP r++[.sl ((dV r.dn).1.map am) (dV r.dn).1.length none,.sl ((dV r.wh).1.map am) (dV r.wh).1.length none]
def gr(l:List Rul):List AV:=l.flatMap XP
def jt(l:List Rul):List AV:=l.flatMap rlC
theorem agU(l:List Rul):(gr l).length=l.length*6:=by
 induction l with
 |nil=>rfl
 |cons a l ih=>simp only[gr,apD,apd,apb]at *;rw[ih];simp[XP];omega
theorem aiG(l:List Rul):(jt l).length=l.length*8:=by
 induction l with
 |nil=>rfl
 |cons a l ih=>simp only[jt,apD,apd,apb]at *;rw[ih];simp[rlC,XP];omega
theorem aiH(l m:List Rul):jt (l++m)=jt l++jt m:=by simp[jt]
theorem acl{α:Type}[Inhabited α]{f:α->List AV}{n:Nat}(b:∀a,(f a).length=n):∀{l:List α}{k:Nat},k<l.length->((l.flatMap f).drop (k*n)).take n=f (l.getD k default)
 |a::l,0,_=>by simp[ase (Nat.le_of_eq (b a).symm),<- b a]
 |a::l,k+1,h=>by rw[apD,ard,Nat.add_comm,<- arP,List.drop_left' (b a),ark];exact acl b (by simpa using h)
theorem aiD{l:List Rul}{k:Nat}(h:k<l.length):((gr l).drop (k*6)).take 6=XP (l.getD k default):=acl (f:=XP) (n:=6) (λ_=>rfl) h
theorem ak9{l:List Rul}{k:Nat}(h:k<l.length):((jt l).drop (k*8)).take 8=rlC (l.getD k default):=acl (f:=rlC) (n:=8) (λ_=>rfl) h
def bkE(ts:List Typ)(r:Rul):Int :=
 if r.who<0\/4<r.who then 24
 else if(dV r.dn).2≠0 then(dV r.dn).2
 else if r.who<3/\(dV r.dn).1≠[]then 2
 else if(dV r.wh).2≠0 then(dV r.wh).2
 else if r.at_≠[]/\gX ts r.at_=none then 20
 else if r.rg<1\/15<r.rg then 23
 else 0
def SI(ts:List Typ):List Rul->Int
 |[]=>0
 |r::l=>if bkE ts r≠0 then bkE ts r else SI ts l
theorem abB{ts:List Typ}:∀{l:List Rul},SI ts l=0↔∀r∈l,bkE ts r=0
 |[]=>by simp[SI]
 | r::l=>by
   unfold SI;by_cases h:bkE ts r=0
   .rw[if_neg (by simpa using h),abB];simp[h]
   simp[*]
theorem aka{ts:List Typ}{r:Rul}(h:bkE ts r=0):0<=r.who/\r.who<=4/\(dV r.dn).2=0/\(dV r.wh).2=0/\1<=r.rg/\r.rg<=15:=by unfold bkE at h;omega
def alV(g right:Int):Bool:=decide ((g/right)%2=1)
def V0(r:Int):Prop:=r=1\/r=2\/r=4\/r=8
theorem YA:∀n:Nat,n<16->∀m:Nat,m<4->(!decide (IntKind.i64.wrap ((BitVec.ofInt 64 (n:Int) &&& BitVec.ofInt 64 ((2^m:Nat):Int)).toNat:Int)=0))=alV (n:Int) ((2^m:Nat):Int)/\((n:Int).tdiv ((2^m:Nat):Int)).tmod 2=((n:Int)/((2^m:Nat):Int))%2:=by decide
theorem akc{g r:Int}(d:1<=g)(c:g<=15)(b:V0 r):(!decide (IntKind.i64.wrap ((BitVec.ofInt 64 g &&& BitVec.ofInt 64 r).toNat:Int)=0))=alV g r/\(g.tdiv r).tmod 2=(g/r)%2:=by obtain⟨n,rfl⟩:∃n:Nat,g=n:=⟨g.toNat,aso⟩;have a:n<16:=aso;rcases b with rfl|rfl|rfl|rfl;exact YA n a 0 aso;exact YA n a 1 aso;exact YA n a 2 aso;exact YA n a 3 aso
def air(r:Rul)(who ent:List Rdn):Bool :=
 if r.who=1 then !decide (who=[])else if r.who=2 then kD who ent else if r.who=3 then kD who (dV r.dn).1 else if r.who=4 then !decide (who=[])&&cA who (dV r.dn).1 else true
def amH(who ent:List Rdn)(n:List UInt8)(right:Int)(r:Rul):Bool :=
 alV r.rg right&&(decide (r.at_=[]) ||decide (aj r.at_=aj n))&&cA ent (dV r.wh).1&&air r who ent
def ahc(rs:List Rul)(who ent:List Rdn)(n:List UInt8)(right:Int):Bool:=match rs.find? (amH who ent n right)with|some r=>r.al|none=>false
def aje(adm:List Rdn)(rs:List Rul)(who ent:List Rdn)(n:List UInt8)(right:Int):Bool :=
 decide (OkD who)&&decide (OkD ent)&&((!decide (who=[])&&kD who adm) ||ahc rs who ent n right)
theorem ahb(r:Rul)(rs:List Rul)(who ent:List Rdn)(n:List UInt8)(a:Int):ahc (r::rs) who ent n a=if amH who ent n a r=true then r.al else ahc rs who ent n a:=by
 unfold ahc
 grind
end Go.Proofs.YtdnfjhflkkpokaaGreatDoor.Av
set_option maxRecDepth 100000
namespace Go.Proofs.YtdnfjhflkkpokaaGreatDoor.Av
open Go
def Xz:LSO:=[Ay 3 0,AT 6,Ac 7 0]
def Xy:LSO:=[Aa 19 1,Aj 20 36 19,Aa 18 20,Ao 21 18,Aq 22 18,Aa 8 21,Aa 9 22]
def Xx:LSO:=[Aa 23 9,AB 24 23 0]
def Xw:LSO:=[Aa 25 9,AT 6,Aa 7 25]
def Xv:LSO:=[Aa 26 1,BW 27 59 26,o1 28 (.build [(.sl [] 0 (some 0)),(.sl [] 0 (some 0))] [(0,(1,(tm 27)))]),Ay 29 28,Aa 10 29]
def Xu:LSO:=[Aa 30 2,Ah 31 30,Ac 32 0]
def Xt:LSO:=[Al 33 32 31]
def Xs:LSO:=[Am 34 6 30 32,As 35 6 34,o1 12 (.alloc [(.int .i64 0),(.str []),(.str []),(.str []),(.int .i64 0),(.bool false)]),Ap 6 12 35]
def Xr:LSO:=[Ad 36 0 12,Ab 37 1 36,AJ 38 37 0,Aa 39 38,.grp none 39 false
 [A8 40 39 0 12,A6 41 39 1 40,AC 42 39 41 4]
 43 (tm 42)]
def Xq:LSO:=[AT 6,Ac 7 24]
def Vo:LSO:=[Ad 45 1 12,Ab 46 1 45,Aj 47 77 46,Aa 44 47,Ao 48 44,Aq 49 44,Aa 13 48,Aa 14 49]
def Vn:LSO:=[Aa 50 14,AB 51 50 0]
def Vm:LSO:=[Aa 52 14,AT 6,Aa 7 52]
def Vl:LSO:=[Ad 53 0 12,Ab 54 1 53,AJ 55 54 3,Aa 56 55,.grp none 56 true
 [Ae 57 56 13,AE 58 56 57,BC 59 56 58 0]
 60 (tm 59)]
def Vk:LSO:=[AT 6,Ac 7 2]
def Vj:LSO:=[Ad 62 2 12,Ab 63 1 62,Aj 64 77 63,Aa 61 64,Ao 65 61,Aq 66 61,Aa 15 65,Aa 14 66]
def Vi:LSO:=[Aa 67 14,AB 68 67 0]
def Vh:LSO:=[Aa 69 14,AT 6,Aa 7 69]
def Vg:LSO:=[As 71 2 3,Ad 72 3 12,Ab 73 1 72,Ar 74 45 71 73,Aa 70 74,Ao 75 70,Aq 76 70,Bx 16,Ap 4 16 75,Aa 17 76]
def Vf:LSO:=[Ad 77 3 12,Ab 78 1 77,Cf 79 78,Aa 80 79,.grp none 80 true
 [Ae 81 80 17,Bt 82 80 81]
 83 (tm 82)]
def Ve:LSO:=[AT 6,Ac 7 20]
def Vd:LSO:=[Ad 84 4 12,Ab 85 1 84,AJ 86 85 1,Aa 87 86,.grp none 87 false
 [A8 88 87 4 12,A6 89 87 1 88,AC 90 87 89 15]
 91 (tm 90)]
def Vc:LSO:=[AT 6,Ac 7 23]
def Vb:List (aw×Kd):=
 [AD 92 10,AD 93 10,AP 94 93 0 0,A9 95 1 94,AA 96 1 95 0 0,od 97 (.load true 6 (tm 12)) (.read 0 0),AD 98 13,AD 99 15,
 od 100 (.build [(.int .i64 0),(.str []),(.str []),(.str []),(.int .i64 0),(.bool false),(.sl [] 0 (some 0)),(.sl [] 0 (some 0))] [(0,(6,(tm 97))),(6,(1,(tm 98))),(7,(1,(tm 99)))]) .pure,
 od 101 (.bslice false 8 1 [(.int .i64 0),(.str []),(.str []),(.str []),(.int .i64 0),(.bool false),(.sl [] 0 (some 0)),(.sl [] 0 (some 0))] [(0,(8,(tm 100)))]) (.read 0 0),
 od 102 (.app 1 8 120 [(.int .i64 0),(.str []),(.str []),(.str []),(.int .i64 0),(.bool false),(.sl [] 0 (some 0)),(.sl [] 0 (some 0))] (tm 96) (tm 101)) .eff]
def RX:List aw :=
 [⟨(some 103),(.nilchk (tm 92)),none⟩,⟨(some 104),(.faddr 1 (tm 103)),none⟩,⟨none,(.store 1 (tm 104) (tm 102)),none⟩]
def Va:LSO:=[Ai 105 32 1,Aa 32 105]
def U9:LSO:=[Aa 106 10,Aa 6 106,Ac 7 0]
def Ez:aK:=⟨107,(ash Xz [] (.seq (ash Xy CC (ash Xx C4 (asj 24 (.sreg Xw CD)))) (ash Xv CA (.seq (ash Xu [] (ask 0 (ash Xt [] (.seq (asl 33 0) (.seq (.block 1 (ash Xs C6 (.seq (ash Xr CA (asj 43 (.sreg Xq []))) (ash Vo CI (.seq (ash Vn C4 (asj 51 (.sreg Vm CD))) (.seq (ash Vl CA (asj 60 (.sreg Vk []))) (ash Vj CI (.seq (ash Vi C4 (asj 68 (.sreg Vh CD))) (.seq (ash Vg CL (ash Vf CA (asj 83 (.sreg Ve [])))) (.seq (ash Vd CA (asj 91 (.sreg Vc []))) (.dregM Vb RX [false,false,false,false,false,false,false,false,false,false,false,false,false]))))))))))) (.sreg Va C4)))))) (ash U9 CD .ret))))),[(.tmp 6),(.tmp 7)]⟩
attribute [push_cast] Xz Xy Xx Xw Xv Xu Xt Xs Xr Xq Vo Vn Vm Vl Vk Vj Vi Vh Vg Vf Ve Vd Vc Vb RX Va U9
theorem VY:asm 33=asn Ez:=asq
def U8:LSO:=[Af 4]
def U7:LSO:=[Aa 5 0,Ah 6 5,Aa 7 1,Ah 8 7,AH 9 6 8,Aa 10 9,.grp none 10 true
 [Ae 11 10 0,Ae 12 10 1,AN 13 10 62 11 12]
 14 (tm 13),Aa 4 14]
def SG:aK:=⟨15,(ash U8 [] (ash U7 CE .ret)),[(.tmp 4)]⟩
attribute [push_cast] U8 U7
theorem aaK:asm 61=asn SG:=asq
def rE:LSO:=[Ay 3 0,Af 6]
def rD:LSO:=[Ad 7 0 3,Ad 8 0 7,Ab 9 1 8]
def rC:LSO:=[An 11 9 1,Aa 10 11]
def rB:LSO:=[Aa 12 1,Ah 13 12,A7 14 13 0,Aa 6 14]
def rA:LSO:=[An 16 9 2,Aa 15 16]
def rz:LSO:=[Aa 17 1,Aa 18 2,Ar 19 61 17 18,Aa 6 19]
def ry:LSO:=[An 21 9 3,Aa 20 21]
def rx:LSO:=[Aa 22 1,Ad 23 6 3,Ab 24 1 23,Ar 25 61 22 24,Aa 6 25]
def ru:LSO:=[An 27 9 4,Aa 26 27]
def rr:LSO:=[Aa 28 1,Ah 29 28,A7 30 29 0,Aa 31 30,.grp none 31 true
 [Ae 32 31 1,Az 33 31 6 3,A0 34 31 1 33,AN 35 31 62 32 34]
 36 (tm 35),Aa 6 36]
def oT:LSO:=[A5 6]
def lV:aK:=⟨37,(ash rE [] (.seq (ash rD C6 (.block 0 (ash rC C4 (asi 10 (ash rB C7 .ret) (ash rA C4 (asi 15 (ash rz C7 .ret) (ash ry C4 (asi 20 (ash rx CA .ret) (ash ru C4 (asj 26 (.sreg rr CB))))))))))) (ash oT [] .ret))),[(.tmp 6)]⟩
attribute [push_cast] rE rD rC rB rA rz ry rx ru rr oT
theorem N1:asm 63=asn lV:=asq
def Ea:LSO:=[Af 10]
def D9:LSO:=[Aa 18 1,Aj 19 36 18,Aa 17 19,Ao 20 17,Aq 21 17,Aa 11 20,Aa 12 21]
def D8:LSO:=[Aa 23 2,Aj 24 36 23,Aa 22 24,Ao 25 22,Aq 26 22,Aa 13 25,Aa 14 26]
def D7:LSO:=[Aa 27 0,B5 28 27,Aa 29 28,.grp none 29 false
 [Ag 30 29 12,Bi 31 29 30 0]
 32 (tm 31),Aa 33 32,.grp none 33 false
 [Ag 34 33 14,Bi 35 33 34 0]
 36 (tm 35),Aa 37 36,.grp none 37 false
 [Ag 38 37 4,Bi 39 37 38 1,Ag 40 37 39,.grp (some (37,false)) 40 true
 [Ae 41 40 4,Bq 42 40 41 2]
 43 (tm 42),Ag 44 37 43,.grp (some (37,false)) 44 true
 [Ae 45 44 4,Bq 46 44 45 4]
 47 (tm 46),Ag 48 37 47,.grp (some (37,false)) 48 true
 [Ae 49 48 4,Bq 50 48 49 8]
 51 (tm 50)]
 52 (tm 51)]
def D6:LSO:=[Af 10]
def D5:LSO:=[Aa 53 1,Ah 54 53,A7 55 54 0,Aa 56 55,.grp none 56 true
 [Ae 57 56 1,Ae 58 56 0,Bw 59 56 58,Az 60 56 0 59,A0 61 56 1 60,AN 62 56 61 57 61]
 63 (tm 62)]
def D4:LSO:=[A5 10]
def D0:LSO:=[Aa 64 0,Au 65 64,Ad 66 1 65,Ab 67 1 66,Ah 68 67,Ac 69 0]
def DZ:LSO:=[Al 70 69 68]
def DY:LSO:=[Am 71 8 67 69,As 72 8 71,
 o1 16 (.alloc [(.int .i64 0),(.str []),(.str []),(.str []),(.int .i64 0),(.bool false),(.sl [] 0 (some 0)),(.sl [] 0 (some 0))]),Ap 8 16 72]
def wg:LSO:=[Ad 73 0 16,Ad 74 4 73,Ab 75 1 74,Aa 76 4,o1 77 (.bin .and (tm 75) (tm 76)),AB 78 77 0,Aa 79 78,.grp none 79 true
 [Az 80 79 0 16,Az 81 79 3 80,A0 82 79 1 81,og 83 79 true (.bin .eql (tm 82) (.av (.str []))),Ae 84 79 83,.grp (some (79,true)) 84 false
 [A8 85 84 0 16,A8 86 84 3 85,A6 87 84 1 86,AM 88 84 46 87,Ag 89 84 3,AM 90 84 46 89,BB 91 84 88 90]
 92 (tm 91)]
 93 (tm 92),Aa 94 93,.grp none 94 true
 [Ae 95 94 2,Az 96 94 7 16,A0 97 94 1 96,AN 98 94 62 95 97]
 99 (tm 98),Aa 100 99,.grp none 100 true
 [BJ 101 100 8 16,Ae 102 100 1,Ae 103 100 2,og 104 100 true (.call 63 [(tm 101),(tm 102),(tm 103)])]
 105 (tm 104)]
def wc:LSO:=[Ad 106 0 16,Ad 107 5 106,Ab 108 1 107,Aa 10 108]
def wb:LSO:=[Ai 109 69 1,Aa 69 109]
def wa:LSO:=[Af 10]
def fh:aK:=⟨110,(ash Ea [] (ash D9 CC (ash D8 CC (.seq (ash D7 CE (asj 52 (.sreg D6 []))) (.seq (ash D5 CA (asj 63 (.sreg D4 []))) (.seq (ash D0 CU (ask 0 (ash DZ [] (.seq (asl 70 0) (.seq (.block 1 (ash DY C6 (ash wg CK (asj 105 (.sreg wc C7))))) (.sreg wb C4)))))) (ash wa [] .ret))))))),[(.tmp 10)]⟩
attribute [push_cast] Ea D9 D8 D7 D6 D5 D4 D0 DZ DY wg wc wb wa
theorem lW:asm 26=asn fh:=asq
def v8:LSO:=[Ak 10]
def v7:LSO:=[Ak 11]
def v6:LSO:=[Aa 14 3,Ah 15 14,Ac 16 0]
def vZ:LSO:=[Al 17 16 15]
def vY:LSO:=[Am 18 2 14 16,As 19 2 18,Bj 13,Ap 2 13 19]
def vX:LSO:=[Aa 20 0,Aa 21 1,Aa 22 2,Ad 23 0 13,Ab 24 1 23,Aa 25 4,o1 26 (.call 26 [(tm 20),(tm 21),(tm 22),(tm 24),(tm 25)])]
def vW:List (aw×Kd):=
 [AD 27 11,A9 28 0 13,AA 29 1 28 0 1,A9 30 1 13,AA 31 1 30 0 0,od 32 (.app 0 1 16 [(.str [])] (.av (.sl [] 0 (some 0))) (tm 31)) .eff,Cs 33 29 32,Ct 34 33 0 0]
def tj:List aw :=
 [⟨(some 35),(.app 1 2 40 [(.str []),(.sl [] 0 (some 0))] (tm 27) (tm 34)),none⟩,⟨(some 11),(.mv (tm 35)),none⟩]
def vV:LSO:=[Ai 36 16 1,Aa 16 36]
def vU:LSO:=[Aa 37 11,Aa 10 37]
def pr:aK:=⟨38,(ash v8 [] (ash v7 [] (.seq (ash v6 [] (ask 0 (ash vZ [] (.seq (asl 17 0) (.seq (.block 1 (ash vY C6 (ash vX CC (asi 26 (.dregM vW tj CG) .skip)))) (.sreg vV C4)))))) (ash vU C4 .ret)))),[(.tmp 10)]⟩
attribute [push_cast] v8 v7 v6 vZ vY vX vW tj vV vU
theorem SH:aL Tryz.prog (λr i=>if r=6/\i=5 then 0 else 1) 28=some pr.raw:=asq
attribute [push_cast] Ez SG lV fh pr
end Go.Proofs.YtdnfjhflkkpokaaGreatDoor.Av
