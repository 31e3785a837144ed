/- Joined texts of the walk, made small by a program. -/
import Derived.Test.YtajkbcmleihaoaaGreatDoorVk10
import Derived.Test.YtajkbcmleihaoaaGreatDoorVk4
import Derived.Test.YtajkbcmleihaoaaGreatDoorRows
import Derived.KernelRfl
import Derived.Test.YtajkbcmleihaoaaGreatDoorVk5
import Derived.Test.YtajkbcmleihaoaaGreatDoorVk7
set_option linter.unusedSimpArgs false
set_option linter.unusedVariables false
namespace Go.Proofs.YtajkbcmleihaoaaGreatDoor.Av
open Go
abbrev Sec:=List UInt8
structure Jst where
 gen:Nat
 half:Nat
 slot:Int
 used:Nat
 n:Nat
def aQ(N:Nat):Nat:=(N-2)/2
def aM(N half:Nat):Nat:=2+half*aQ N
def fU(S:List Sec)(k:Nat)(ss:List Sec):List Sec:=S.take k++(ss++S.drop (k+ss.length))
def br(bs:List (List UInt8)):Nat:=(bs.map λb=>cj b.length).sum
theorem nW{S ss:List Sec}{k:Nat}(h:k+ss.length<=S.length):(fU S k ss).length=S.length:=by simp[fU];omega
theorem L5{S ss:List Sec}{k i:Nat}(h:k+ss.length<=S.length)(a:k<=i)(b:i<k+ss.length):(fU S k ss)[i]?=ss[i-k]?:=by unfold fU;rw[aff (by simp;omega),afZ,agT ah3,ae3 ah3]
theorem jE{S ss:List Sec}{k i:Nat}(h:k+ss.length<=S.length)(a:i<k\/k+ss.length<=i):(fU S k ss)[i]?=S[i]?:=by unfold fU;rcases a with a|a;rw[ae3 (by simp;omega),afz a];rw[aff (by simp;omega),afZ,agT ah3,aff ah3,afE];congr 1;omega
theorem ZE{S ss:List Sec}{k:Nat}(h:k+ss.length<=S.length):((fU S k ss).drop k).take ss.length=ss:=by unfold fU;rw[List.drop_left' (by simp;omega),List.take_left]
section
variable (sum:List UInt8->Nat)
def yI(j:Jst):Nat:=if j.slot=0 then 1 else 0
def aV(S:List Sec)(room:Int)(j:Jst)(bs:List (List UInt8)):Int×Jst×List Sec :=
 if bs.any (λb=>decide (262144<b.length))=true then(5,j,S)else
 if aQ S.length<br bs\/room<2\/(0<br bs/\room<((aM S.length (1-j.half)+br bs:Nat):Int))\/4294967295<=j.gen then(11,j,S)else
 (0,⟨j.gen+1,1-j.half,yI j,br bs,bs.length⟩,fU (fU S (aM S.length (1-j.half)) ((gE (j.gen+1) 0 bs).map (fF sum))) (yI j) [yV sum (j.gen+1) (1-j.half)])
def qI(N:Nat)(room:Int)(j:Jst):Int:=max 0 (min (aQ N:Int) (room-aM N j.half)-j.used)
def iK(S:List Sec)(room:Int)(j:Jst)(b:List UInt8):Int×Jst×List Sec :=
 if 262144<b.length then(5,j,S)else
 if qI S.length room j<cj b.length then(11,j,S)else
 (0,{j with used:=j.used+cj b.length,n:=j.n+1},fU S (aM S.length j.half+j.used) ((vZ j.gen j.n b).map (fF sum)))
structure adW(S:List Sec)(j:Jst):Prop where
 n4:4<=S.length
 half:j.half<=1
 slot:j.slot=-1\/j.slot=0\/j.slot=1
 hd:∀(i:Nat) (s:Sec),i<2->S[i]?=some s->∀g h,rdH sum s=some (g,h)->g<=j.gen
 cel:∀(i:Nat) (s:Sec),2<=i->i<2+2*aQ S.length->S[i]?=some s->∀c,rdC sum s=some c->c.gen<=j.gen
structure QY(S:List Sec)(j:Jst)(recs:List (List UInt8)):Prop where
 n4:4<=S.length
 half:j.half<=1
 gen:1<=j.gen/\j.gen<2^32
 slot:j.slot=0\/j.slot=1
 hd:S[j.slot.toNat]?=some (yV sum j.gen j.half)
 oh:∀(s:Sec),S[1-j.slot.toNat]?=some s->∀g h,rdH sum s=some (g,h)->g<j.gen
 row:((S.drop (aM S.length j.half)).take j.used)=(gE j.gen 0 recs).map (fF sum)
 used:j.used=br recs/\j.used<=aQ S.length
 n:j.n=recs.length
 bd:∀b∈recs,b.length<=262144
 rest:∀(i:Nat) (s:Sec),2<=i->i<2+2*aQ S.length->i<aM S.length j.half\/aM S.length j.half+j.used<=i->S[i]?=some s->∀c,rdC sum s=some c->c.gen<j.gen
variable {sum}
theorem GU(gen:Nat):∀(bs:List (List UInt8)) (k:Nat),(gE gen k bs).length=br bs
 |[],_=>rfl
 |b::bs,k=>by rw[gE,afc,mJ,GU gen bs];simp[br]
theorem QV(gen:Nat):∀(bs cs:List (List UInt8)) (k:Nat),gE gen k (bs++cs)=gE gen k bs++gE gen (k+bs.length) cs
 |[],cs,k=>by simp[gE]
 |b::bs,cs,k=>by rw[afI,gE,gE,QV gen bs,afa,afg,show k+1+bs.length=k+(bs.length+1)by omega]
theorem Mr{gen:Nat}(d:1<=gen/\gen<2^32):∀(bs:List (List UInt8)) (k:Nat),k+bs.length<=2^32->(∀b∈bs,b.length<=262144)->∀c∈gE gen k bs,W6 c/\c.gen=gen
 |[],_,_,_,c,a=>by cases a
 | b::bs,k,hk,hb,c,a=>by
   rw[afg]at hk;rw[gE,ae2]at a;rcases a with a|a
   .refine⟨QP d ah3 (hb b ah4) c a,?_⟩;have:∀(n i:Nat) (b:List UInt8) (p:Nat),∀c∈lw gen k p n i b,c.gen=gen:=by
     intro n;induction n with
     |zero=>intro i b p c a;cases a
     | succ n ih =>
       intro i b p c a;rw[lw,afp]at a;rcases a with rfl|a
       .rfl
       .exact ih _ _ _ c a
    exact this _ _ _ _ c a
   .exact Mr d bs (k+1) ah3 (λx e=>hb x (by simp[e])) c a
theorem act(g:∀s,sum s<2^32){gen:Nat}(f:1<=gen/\gen<2^32){bs:List (List UInt8)}{k:Nat}(e:k+bs.length<=2^32)(d:∀b∈bs,b.length<=262144):((gE gen k bs).map (fF sum)).map (rdC sum)=(gE gen k bs).map some:=by
 rw[afj];refine afN λc a=>?_
 exact Ws g (Mr f bs k e d c a).1
theorem mA:∀bs:List (List UInt8),bs.length<=br bs
 |[]=>ae0 _
 |b::bs=>by have a:=mA bs;have c:=MJ b.length;simp only[br,afe,ag8,afg]at *;omega
theorem QY.recs(n:∀s,sum s<2^32){S:List Sec}{j:Jst}{recs:List (List UInt8)}(h:QY sum S j recs)(u:S.length<=8192):gu (rdC sum) j.gen (aQ S.length) ((S.drop (aM S.length j.half)).take (aQ S.length)) []=recs:=by
 have w:=mA recs;have l:=h.used;have r:aQ S.length=(S.length-2)/2:=rfl;obtain⟨e,k⟩:∃e,(S.drop (aM S.length j.half)).take (aQ S.length)=(gE j.gen 0 recs).map (fF sum)++e:=by
  refine⟨((S.drop (aM S.length j.half)).take (aQ S.length)).drop j.used,?_⟩;rw[<- h.row]
  conv=>lhs;rw[<- ago j.used ((S.drop (aM S.length j.half)).take (aQ S.length))]
  rw[List.take_take,agT l.2]
 have b:((gE j.gen 0 recs).map (fF sum)).length=j.used:=by rw[ae6,GU,l.1]
 rw[k];have:=TA (f:=rdC sum) (gen:=j.gen) recs [] ((gE j.gen 0 recs).map (fF sum)) e (aQ S.length) (act n h.gen (by simp;omega) h.bd) (by
  intro s t g c o q;have p:e[0]?=some s:=(by rw[g];rfl);have a:((S.drop (aM S.length j.half)).take (aQ S.length))[j.used]?=some s:=(by rw[k,aff ah3,b,agG];exact p);have i:j.used<aQ S.length:=by rcases aft j.used (aQ S.length)with q|q;exact q;rw[afV (by simp;omega)]at a;cases a
  rw[afz i,afE]at a;have v:=h.half;have d:aM S.length j.half=2+j.half*aQ S.length:=rfl;have m:j.half=0\/j.half=1:=ah3;have:=h.rest _ s ah3 (by rcases m with q|q<;>rw[d,q]<;>omega) (.inr (ae0 _)) a c o;omega) ah3
 simpa using this
theorem Rw(L:∀s,sum s<2^32){S:List Sec}{room:Int}{j:Jst}{bs:List (List UInt8)}(h:adW sum S j)(M:S.length<=8192)(l:(aV sum S room j bs).1=0):
  QY sum (aV sum S room j bs).2.2 (aV sum S room j bs).2.1 bs/\(aV sum S room j bs).2.2.length=S.length:=by
 unfold aV at l⊢;by_cases u:bs.any (λb=>decide (262144<b.length))=true;rw[if_pos u]at l;cases l;rw[if_neg u]at l⊢;by_cases p:aQ S.length<br bs\/room<2\/(0<br bs/\room<((aM S.length (1-j.half)+br bs:Nat):Int))\/4294967295<=j.gen;rw[if_pos p]at l;cases l;rw[if_neg p];simp only[not_or,Nat.not_lt]at p;obtain⟨E,P,K,O⟩:=p;have t:∀b∈bs,b.length<=262144:=λb t=>by rcases aft 262144 b.length with q|q;exact absurd (agp.2 ⟨b,t,decide_eq_true q⟩) u;exact q
 have N:=h.half;have n4:=h.n4;have H:aQ S.length=(S.length-2)/2:=rfl;obtain⟨a,y⟩:=aeS (1-j.half);rw[y];have x:a<=1:=ah3;have w:aM S.length a=2+a*aQ S.length:=rfl;have J:aM S.length a+aQ S.length<=S.length/\2<=aM S.length a:=by rw[w];have:a=0\/a=1:=ah3;rcases this with rfl|rfl<;>omega
 obtain⟨sl,o⟩:=aeS (yI j);have F:sl=0\/sl=1:=by rw[<- o];unfold yI;split<;>simp
 rw[o];have D:1<=j.gen+1/\j.gen+1<2^32:=ah3;have v:((gE (j.gen+1) 0 bs).map (fF sum)).length=br bs:=by rw[ae6,GU]
 have I:=mA bs;have l1:=nW (S:=S) (ss:=(gE (j.gen+1) 0 bs).map (fF sum)) (k:=aM S.length a) ah3;obtain⟨f,d⟩:=aeS (fU S (aM S.length a) ((gE (j.gen+1) 0 bs).map (fF sum)));rw[d]at l1⊢;have n:=nW (S:=f) (ss:=[yV sum (j.gen+1) a]) (k:=sl) (by simp;omega);have z:∀i,2<=i->(fU f sl [yV sum (j.gen+1) a])[i]?=f[i]?:=λi r=>jE (by simp;omega) (.inr (by simp;omega))
 refine⟨⟨by rw[n];omega,x,D,by simp only;omega,?_,?_,?_,by simp only;rw[n,l1];exact⟨trivial,E⟩,rfl,t,?_⟩,by rw[n,l1]⟩;show(fU f sl _)[((sl:Nat):Int).toNat]?=_;rw[Int.toNat_natCast,L5 (by simp;omega) (ae0 _) ah4,agG];rfl;intro s e g B q;have A:(fU f sl [yV sum (j.gen+1) a])[1-sl]?=some s:=by simpa using e
 rw[jE (by simp;omega) (by simp;omega),<- d,jE ah3 (.inl ah3)]at A;have:=h.hd _ s ah3 A g B q;simp only;omega;simp only;rw[n,l1];have G:(fU f sl [yV sum (j.gen+1) a]).drop (aM S.length a)=f.drop (aM S.length a):=by apply af1;intro i;rw[afE,afE,z _ ah3]
 rw[G,<- d,<- v];exact ZE ah3;intro i s r m hr e c C;simp only at hr⊢;rw[n,l1]at hr m;rw[z i r,<- d,jE ah3 ah3]at e;have:=h.cel i s r m e c C;omega
theorem QY.old(k:∀s,sum s<2^32){S:List Sec}{j:Jst}{recs:List (List UInt8)}(h:QY sum S j recs)(u:S.length<=8192):adW sum S j:=by
 have p:=h.slot;refine⟨h.n4,h.half,.inr h.slot,λi s f e g o q=>?_,λi s f b e c a=>?_⟩;by_cases c:i=j.slot.toNat;rw[c,h.hd]at e;cases e;rw[Sh k h.gen h.half]at q;cases q;exact ae0 _;have:i=1-j.slot.toNat:=ah3;rw[this]at e;exact Nat.le_of_lt (h.oh s e g o q);by_cases r:i<aM S.length j.half\/aM S.length j.half+j.used<=i;exact Nat.le_of_lt (h.rest i s f b r e c a);simp only[not_or,Nat.not_lt,Nat.not_le]at r;have t:=mA recs;have v:=h.used;have n:aQ S.length=(S.length-2)/2:=rfl;have l:((S.drop (aM S.length j.half)).take j.used)[i-aM S.length j.half]?=some s:=by rw[afz ah3,afE,show aM S.length j.half+(i-aM S.length j.half)=i by omega];exact e
 rw[h.row,afS]at l;obtain⟨d,hd,rfl⟩:=afr.1 l;have m:=Mr h.gen recs 0 (by simp;omega) h.bd d (af0 hd);rw[Ws k m.1]at a;cases a;exact Nat.le_of_eq m.2
theorem acq(I:∀s,sum s<2^32){S:List Sec}{room:Int}{j:Jst}{recs:List (List UInt8)}{b:List UInt8}(h:QY sum S j recs)(J:S.length<=8192)(a:(iK sum S room j b).1=0):
  QY sum (iK sum S room j b).2.2 (iK sum S room j b).2.1 (recs++[b])/\(iK sum S room j b).2.2.length=S.length:=by
 unfold iK at a⊢;by_cases y:262144<b.length;rw[if_pos y]at a;cases a;rw[if_neg y]at a⊢;by_cases p:qI S.length room j<cj b.length;rw[if_pos p]at a;cases a;rw[if_neg p];have H:=MJ b.length;have D:=h.used;have E:=h.half;have n4:=h.n4;have u:=h.slot;have F:aQ S.length=(S.length-2)/2:=rfl;have t:j.used+cj b.length<=aQ S.length:=by unfold qI at p;omega
 have v:aM S.length j.half=2+j.half*aQ S.length:=rfl;have w:aM S.length j.half+aQ S.length<=S.length/\2<=aM S.length j.half:=by rw[v];have:j.half=0\/j.half=1:=ah3;rcases this with q|q<;>rw[q]<;>omega
 obtain⟨f,l⟩:=aeS (aM S.length j.half);have C:((vZ j.gen j.n b).map (fF sum)).length=cj b.length:=by rw[ae6,mJ]
 rw[l]at w⊢;have l1:=nW (S:=S) (ss:=(vZ j.gen j.n b).map (fF sum)) (k:=f+j.used) ah3;have m:=h.row;rw[l]at m;refine⟨⟨by rw[l1];omega,E,h.gen,u,?_,?_,?_,?_,by simp[h.n],?_,?_⟩,l1⟩;simp only;rw[jE ah3 (.inl ah3)];exact h.hd;intro s e g A q;simp only at e⊢;rw[jE ah3 (.inl ah3)]at e;exact h.oh s e g A q;simp only;rw[l1,l,QV,afk,<- m,agm,<- h.n];have G:gE j.gen j.n [b]=vZ j.gen j.n b:=by simp[gE]
 rw[G];apply af1;intro i;rcases aft i (j.used+cj b.length)with q|q;rw[afz q,afE];rcases aft i j.used with r|r;rw[jE ah3 (.inl ah3),ae3 (by simp;omega),afz r,afE];rw[L5 ah3 ah3 ah3,aff (by simp;omega)];congr 1;simp;omega;rw[afV (by simp;omega),afV (by simp[mJ];omega)];simp only;rw[l1];refine⟨?_,t⟩;rw[D.1];simp[br];intro x o;rcases ae2.1 o with o|o;exact h.bd x o;rw[afl.1 o];omega;intro i s z d hr e c B;simp only at hr⊢;rw[l1]at d;rw[l1,l]at hr;rw[jE ah3 ah3]at e;exact h.rest i s z d (by rw[l];omega) e c B
end
section
variable (sum:List UInt8->Nat)
def Gw(a:Nat×Nat×Nat×Int)(i:Nat)(s:Sec):Nat×Nat×Nat×Int:=match rdH sum s with
 |none=>a
 |some (g,h)=>(max a.1 g,if a.2.1<g then(g,h,(i:Int))else a.2)
def v8(S:List Sec):Nat×Nat×Nat×Int:=Gw sum (Gw sum (0,0,1,-1) 0 (S.getD 0 [])) 1 (S.getD 1 [])
def qG(m:Nat)(l:List Sec):Nat:=l.foldl (λm s=>match rdC sum s with|none=>m|some c=>max m c.gen) m
def bD(S:List Sec):Jst×List (List UInt8):=
 (⟨qG sum (v8 sum S).1 ((S.drop 2).take (2 * aQ S.length)),(v8 sum S).2.2.1,(v8 sum S).2.2.2,0,0⟩,
  if 0<=(v8 sum S).2.2.2 then gu (rdC sum) (v8 sum S).2.1 (aQ S.length) ((S.drop (aM S.length (v8 sum S).2.2.1)).take (aQ S.length)) []else[])
variable {sum}
theorem P0:∀(l:List Sec) (m:Nat),m<=qG sum m l/\∀s∈l,∀c,rdC sum s=some c->c.gen<=qG sum m l
 |[],m=>⟨ae0 _,λs h=>by cases h⟩
 | x::l,m=>by
   have e:qG sum m (x::l)=qG sum (match rdC sum x with|none=>m|some c=>max m c.gen) l:=rfl;rw[e];obtain⟨g,f⟩:=P0 l (match rdC sum x with|none=>m|some c=>max m c.gen);cases hx:rdC sum x with
   | none =>
     rw[hx]at g f;simp only at g f⊢;refine⟨g,λs b c a=>?_⟩;rcases afp.1 b with rfl|b
     .rw[hx]at a;cases a
     .exact f s b c a
   | some d =>
     rw[hx]at g f;simp only at g f⊢;refine⟨ah3,λs b c a=>?_⟩;rcases afp.1 b with rfl|b
     .rw[hx]at a;cases a;omega
     .exact f s b c a
theorem TS{B:Nat}:∀(l:List Sec) (m:Nat),m<=B->(∀s∈l,∀c,rdC sum s=some c->c.gen<=B)->qG sum m l<=B
 |[],m,h,_=>h
 | x::l,m,h,h2=>by
   have e:qG sum m (x::l)=qG sum (match rdC sum x with|none=>m|some c=>max m c.gen) l:=rfl;rw[e];refine TS l _ ?_ (λs a=>h2 s (by simp[a]));cases hx:rdC sum x with
   |none=>exact h
   |some c=>have:=h2 x ah4 c hx;simp only;omega
theorem abU{S:List Sec}(f:∀(s:Sec) g h,rdH sum s=some (g,h)->h<=1):(v8 sum S).2.2.1<=1/\((v8 sum S).2.2.2=-1\/(v8 sum S).2.2.2=0\/(v8 sum S).2.2.2=1)/\∀(i:Nat) (s:Sec),i<2->S[i]?=some s->∀g h,rdH sum s=some (g,h)->g<=(v8 sum S).1:=by
 obtain⟨a,k⟩:=aeS (S.getD 0 []);obtain⟨b,d⟩:=aeS (S.getD 1 []);have key:∀(i:Nat) (s:Sec),i<2->S[i]?=some s->i=0/\s=a\/i=1/\s=b:=by intro i s c e;have:i=0\/i=1:=ah3;rcases this with rfl|rfl;exact .inl ⟨rfl,by rw[<- k,afh,e];rfl⟩;exact .inr ⟨rfl,by rw[<- d,afh,e];rfl⟩
 unfold v8;rw[k,d];unfold Gw;rcases ea:rdH sum a with _|⟨m,o⟩<;>rcases eb:rdH sum b with _|⟨n,kb⟩<;>simp only;exact⟨ah4,ah4,λi s c e g h q=>by rcases key i s c e with⟨_,rfl⟩|⟨_,rfl⟩<;>simp_all⟩;have j:=f _ _ _ eb;refine⟨?_,?_,λi s c e g h q=>?_⟩;split<;>simp<;>omega;split<;>simp;rcases key i s c e with⟨_,rfl⟩|⟨_,rfl⟩;rw[ea]at q;cases q;rw[eb]at q;cases q;omega;have j:=f _ _ _ ea;refine⟨?_,?_,λi s c e g h q=>?_⟩;split<;>simp<;>omega;split<;>simp;rcases key i s c e with⟨_,rfl⟩|⟨_,rfl⟩;rw[ea]at q;cases q;omega;rw[eb]at q;cases q;have j:=f _ _ _ ea;have l:=f _ _ _ eb;refine⟨?_,?_,λi s c e g h q=>?_⟩;split<;>split<;>simp<;>omega;split<;>split<;>simp;rcases key i s c e with⟨_,rfl⟩|⟨_,rfl⟩;rw[ea]at q;cases q;omega;rw[eb]at q;cases q;omega
theorem PG{s:Sec}{g h:Nat}(e:rdH sum s=some (g,h)):h<=1/\1<=g:=by unfold rdH at e;split at e;cases e;split at e;cases e;rename_i q;simp only[not_or]at q;simp only[aeZ,afb]at e;omega
theorem Xi{S:List Sec}(h4:4<=S.length):adW sum S (bD sum S).1:=by obtain⟨k,j,l⟩:=abU (S:=S) (λs g h e=>(PG e).1);have b:=P0 (sum:=sum) ((S.drop 2).take (2*aQ S.length)) (v8 sum S).1;refine⟨h4,k,j,λi s a e g h q=>afw (l i s a e g h q) b.1,λi s a f e c d=>b.2 s ?_ c d⟩;apply af0 (i:=i-2);rw[afz ah3,afE,show 2+(i-2)=i by omega];exact e
theorem Xj(b:∀s,sum s<2^32){S:List Sec}{j:Jst}{recs:List (List UInt8)}(h:QY sum S j recs)(o:S.length<=8192):bD sum S=(⟨j.gen,j.half,j.slot,0,0⟩,recs):=by
 have f:=h.slot;have h4:=h.n4;have w:=h.gen;have u:=h.old b o;have hd:=h.hd;have p:v8 sum S=(j.gen,j.gen,j.half,j.slot):=by unfold v8 Gw;rcases f with e|e;rw[e]at hd;have m:S.getD 0 []=yV sum j.gen j.half:=(by rw[afh];rw[show(0:Int).toNat=0 from rfl]at hd;rw[hd];rfl);rw[m,Sh b h.gen h.half];simp only;rcases e1:rdH sum (S.getD 1 [])with _|⟨g,k⟩;simp only;rw[if_pos ah3,e];simp;simp only;have d:S[1]?=some (S.getD 1 []):=(by rw[afh,afn ah3];rfl);have:=h.oh (S.getD 1 []) (by rw[e];exact d) g k e1;rw[if_pos (show 0<j.gen by omega)];simp only;rw[if_neg ah3,e];simp;omega;rw[e]at hd;have m:S.getD 1 []=yV sum j.gen j.half:=(by rw[afh];rw[show(1:Int).toNat=1 from rfl]at hd;rw[hd];rfl);rw[m,Sh b h.gen h.half];simp only;rcases e1:rdH sum (S.getD 0 [])with _|⟨g,k⟩;simp only;rw[if_pos ah3,e];simp;simp only;have d:S[0]?=some (S.getD 0 []):=(by rw[afh,afn ah3];rfl);have:=h.oh (S.getD 0 []) (by rw[e];exact d) g k e1;have v:=PG e1;rw[if_pos (show 0<g by omega)];simp only;rw[if_pos ah3,e];simp;omega
 have r:qG sum j.gen ((S.drop 2).take (2*aQ S.length))=j.gen:=by
  refine Nat.le_antisymm (TS _ _ (ae0 _) λs n c t=>?_) (P0 _ _).1;obtain⟨i,a⟩:=agD.1 n;have l:i<2*aQ S.length:=by rcases aft i (2*aQ S.length)with q|q;exact q;rw[afV (by simp;omega)]at a;cases a
  rw[afz l,afE]at a;exact u.cel (2+i) s ah3 ah3 a c t
 unfold bD;rw[p];simp only;rw[r,if_pos ah3,h.recs b o]
end
end Go.Proofs.YtajkbcmleihaoaaGreatDoor.Av
set_option maxRecDepth 100000
namespace Go.Proofs.YtajkbcmleihaoaaGreatDoor.Av
open Go
variable {s b:List UInt8}{n gen k:Nat}{M:List Blk}{A C:List AV}{σ:Type}
def xP:LSO:=[Aw 2]
def xO:LSO:=[Aa 3 0,Aa 4 0,A8 5 4,o1 6 (.bin .sub (iv 124) (tm 5)),o1 7 (.call 91 [(.av (.str [0])),(tm 6)]),AB 8 3 7,Aa 0 8]
def xN:LSO:=[Aa 9 0,AN 10 9,Ag 11 92 10,AE 12 11,AJ 13 67 12 4,Aa 14 0,AB 15 13 14,Aa 2 15]
def sT:aI:=⟨16,(ahW xP [] (ahW xO Ch (ahW xN Ck .ret))),[(.tmp 2)]⟩
attribute [push_cast] xP xO xN
theorem Mj:ah1 66=ah2 sT:=ah5
def rU:LSO:=[Aw 2,Al 3]
def rT:LSO:=[Aa 7 0,o1 8 (.call 83 [(tm 7),(iv 0),(iv 4)]),Aa 6 8,Am 9 6,Ap 10 6,Aa 4 9,Aa 5 10]
def rS:LSO:=[Aa 11 0,BV 12 11 4,Aa 13 0,BV 14 13 4,AN 15 14,Ag 16 92 15,AE 17 16,Aa 18 4,Be 19 17 18,Aa 2 12,Aa 3 19]
def mG:aI:=⟨20,(ahW rU [] (ahW rT CM (.seq (.sdreg rS [.pure,(.read 0 0),.pure,(.read 0 0),(.read 0 0),(.read 0 0),.pure,.pure,.pure,.pure] C5) .ret))),[(.tmp 2),(.tmp 3)]⟩
attribute [push_cast] rU rT rS
theorem Hj:ah1 82=ah2 mG:=ah5
def kc:LSO:=[A3 1 0,Aw 2]
def j9:LSO:=[Ad 3 0 1,Ac 4 1 3,AJ 5 67 4 4,o1 6 (.bin .add (.av (.str [67])) (tm 5)),Ad 7 1 1,Ac 8 1 7,AJ 9 67 8 4,AB 10 6 9,Ad 11 2 1,Ac 12 1 11,
 AJ 13 67 12 2,AB 14 10 13,Ad 15 3 1,Ac 16 1 15,AJ 17 67 16 2,AB 18 14 17,Ad 19 4 1,Ac 20 1 19,A8 21 20,AE 22 21,AJ 23 67 22 1,AB 24 18 23,Ad 25 4 1,Ac 26 1 25,AB 27 24 26,
 Ag 28 66 27,Aa 2 28]
def gp:aI:=⟨29,(ahW kc [] (.seq (.sdreg j9 [.pure,(.read 0 0),(.read 0 0),.pure,.pure,(.read 0 0),(.read 0 0),.pure,.pure,(.read 0 0),(.read 0 0),.pure,.pure,(.read 0 0),(.read 0 0),.pure,.pure,(.read 0 0),(.read 0 0),.pure,(.read 0 0),.pure,.pure,(.read 0 0)] [true,false,false,false,false,false,false,false,false,false,false,false,false,false,false,false,false,false,false,false,false,false,false,false,false,false,false]) .ret)),[(.tmp 2)]⟩
attribute [push_cast] kc j9
theorem wm:ah1 88=ah2 gp:=ah5
def yb:LSO:=[BJ 2,Al 3]
def xZ:LSO:=[Aa 12 0,Ag 13 82 12,Aa 11 13,Am 14 11,Ap 15 11,Aa 4 14,Aa 5 15]
def xY:LSO:=[Aa 16 5,A6 17 16,Aa 18 17,.grp none 18 false
 [Ah 19 18 4,BA 20 18 19 0,og 21 18 false (.bin .neq (tm 20) (.av (.int .u8 67)))]
 22 (tm 21)]
def xX:LSO:=[Cc 23,Ai 5 2 23,Al 3]
def xW:LSO:=[BJ 6]
def xV:LSO:=[Ad 24 0 6,BK 25 24 5 4,Ad 26 1 6,BK 27 26 9 4,Ad 28 2 6,BK 29 28 13 2,Ad 30 3 6,BK 31 30 15 2,
 o1 32 (.bslice false 3 4 [.nilptr,(.int .i64 0),(.int .i64 0),.nilptr,(.int .i64 0),(.int .i64 0),.nilptr,(.int .i64 0),(.int .i64 0),.nilptr,(.int .i64 0),(.int .i64 0)] [(0,(3,(tm 25))),(3,(3,(tm 27))),(6,(3,(tm 29))),(9,(3,(tm 31)))]),
 Af 33 32,Ab 34 0]
def xT:LSO:=[Ao 35 34 33]
def xS:LSO:=[Ak 36 3 32 34,Az 37 3 36,o1 8 (.alloc [.nilptr,(.int .i64 0),(.int .i64 0)]),Ai 3 8 37]
def xR:List (aj×Kd):=
 [As 39 0 8,Au 40 1 39 0 0,Ar 41 0,As 42 1 8,Au 43 1 42 0 0,As 44 2 8,Au 45 1 44 0 0,od 46 (.call 83 [(tm 41),(tm 43),(tm 45)]) (.read 0 0),Ar 38 46,
 od 47 (.extract (tm 38) 0) .pure,od 48 (.extract (tm 38) 1) .pure,A1 49 40 0 0,
 (⟨none,(.store 1 (tm 49) (tm 47)),none⟩,.eff)]
def uE:List aj :=
 []
def xQ:LSO:=[Aj 50 34 1,Aa 34 50]
def uM:LSO:=[Aa 51 0,Bf 52 51 17,Bj 53 52,Aa 9 53]
def uL:LSO:=[Aa 54 9,A9 55 54 110,Aa 56 55,.grp none 56 false
 [A7 57 56 0 6,A4 58 56 1 57,og 59 56 false (.bin .eql (tm 58) (.av (.int .u64 0)))]
 60 (tm 59),Aa 61 60,.grp none 61 false
 [A7 62 61 2 6,A4 63 61 1 62,A7 64 61 3 6,A4 65 61 1 64,og 66 61 false (.bin .geq (tm 63) (tm 65))]
 67 (tm 66),Aa 68 67,.grp none 68 false
 [Ah 69 68 0,Ah 70 68 9,og 71 68 false (.bin .add (iv 18) (tm 70)),og 72 68 false (.slS (tm 69) (some (tm 71)) none),og 73 68 false (.call 84 [(tm 72),(.av (.str [0]))]),
 og 74 68 false (.bin .neq (tm 73) (.av (.str [])))]
 75 (tm 74)]
def uK:LSO:=[Cc 76,Ai 5 2 76,Al 3]
def uJ:LSO:=[Ad 77 2 6,Ac 78 1 77,Ad 79 3 6,Ac 80 1 79,o1 81 (.bin .sub (tm 80) (.av (.int .u64 1))),Be 82 78 81,Aa 10 82]
def uI:LSO:=[Aa 83 10,A6 84 83,Aa 85 84,.grp none 85 true
 [An 86 85 9,og 87 85 true (.bin .lss (tm 86) (iv 110))]
 88 (tm 87),Aa 89 88,.grp none 89 false
 [Ah 90 89 10,Ah 91 89 90,.grp (some (89,false)) 91 true
 [An 92 91 9,AY 93 91 92 0]
 94 (tm 93),Ah 95 89 94,.grp (some (89,false)) 95 true
 [AT 96 95 3 6,AO 97 95 1 96,og 98 95 true (.bin .gtr (tm 97) (.av (.int .u64 1)))]
 99 (tm 98)]
 100 (tm 99)]
def uH:LSO:=[Cc 101,Ai 5 2 101,Al 3]
def uG:LSO:=[Aa 102 0,Aa 103 9,BH 104 18 103,o1 105 (.slS (tm 102) (some (iv 18)) (some (tm 104))),Ad 106 4 6,Ai 1 106 105]
def uF:LSO:=[Az 107 5 6,Ai 5 2 107,AC 3]
def iH:aI:=⟨108,(ahW yb [] (ahW xZ Cm (.seq (ahW xY Cf (ahY 22 (.sreg xX Cd))) (ahW xW [] (.seq (ahW xV CH (ahZ 0 (ahW xT [] (.seq (ah0 35 0) (.seq (.block 1 (ahW xS Ce (.dregM xR uE [false,false,false,false,false,false,false,false,false,false,false,false]))) (.sreg xQ Cd)))))) (ahW uM Cf (.seq (ahW uL Ck (ahY 75 (.sreg uK Cd))) (.seq (ahW uJ Ch (ahW uI Ci (ahY 100 (.sreg uH Cd)))) (ahW uG C3 (ahW uF Cd .ret)))))))))),[(.cell true 5 2),(.tmp 3)]⟩
attribute [push_cast] yb xZ xY xX xW xV xT xS xR uE xQ uM uL uK uJ uI uH uG uF
theorem vX:ah1 55=ah2 iH:=ah5
def yh:LSO:=[Ab 2 0,Ab 3 0,Al 4]
def yg:LSO:=[Aa 10 0,Ag 11 82 10,Aa 9 11,Am 12 9,Ap 13 9,Aa 5 12,Aa 6 13]
def yf:LSO:=[Aa 15 0,o1 16 (.call 83 [(tm 15),(iv 5),(iv 4)]),Aa 14 16,Am 17 14,Ap 18 14,Aa 7 17,Aa 8 18]
def ye:LSO:=[Aa 19 6,A6 20 19,Aa 21 20,.grp none 21 false
 [Ah 22 21 5,BA 23 21 22 0,og 24 21 false (.bin .neq (tm 23) (.av (.int .u8 72)))]
 25 (tm 24),Aa 26 25,.grp none 26 false
 [Ah 27 26 7,og 28 26 false (.bin .eql (tm 27) (.av (.int .u64 0)))]
 29 (tm 28),Aa 30 29,.grp none 30 false
 [Ah 31 30 0,BA 32 30 31 9,og 33 30 false (.bin .gtr (tm 32) (.av (.int .u8 1)))]
 34 (tm 33),Aa 35 34,.grp none 35 false
 [Ah 36 35 0,og 37 35 false (.slS (tm 36) (some (iv 10)) none),og 38 35 false (.call 84 [(tm 37),(.av (.str [0]))]),og 39 35 false (.bin .neq (tm 38) (.av (.str [])))]
 40 (tm 39)]
def yd:LSO:=[Ab 2 0,Ab 3 0,Al 4]
def yc:LSO:=[Aa 41 7,Bj 42 41,Aa 43 0,Bf 44 43 9,Bj 45 44,Aa 2 42,Aa 3 45,AC 4]
def iI:aI:=⟨46,(ahW yh [] (ahW yg Cm (ahW yf CM (.seq (ahW ye Cl (ahY 40 (.sreg yd []))) (.seq (.sdreg yc [.pure,.pure,.pure,(.read 0 0),.pure,.pure] CC) .ret))))),[(.tmp 2),(.tmp 3),(.tmp 4)]⟩
attribute [push_cast] yh yg yf ye yd yc
theorem vY:ah1 53=ah2 iI:=ah5
def yz:LSO:=[Ab 2 0]
def yy:LSO:=[Aa 3 0,AI 4 3 0,Aa 5 4,.grp none 5 false
 [Ah 6 5 0,AD 7 5 6 262144]
 8 (tm 7)]
def yx:LSO:=[Ab 2 0]
def yw:LSO:=[Aa 9 0,Aj 10 9 110,AP 11 10 1,o1 12 (.bin .quo (tm 11) (iv 110)),BM 13 1 12,Aa 2 13]
def sV:aI:=⟨14,(ahW yz [] (.seq (ahW yy Cf (ahY 8 (.sreg yx []))) (ahW yw Ci .ret))),[(.tmp 2)]⟩
attribute [push_cast] yz yy yx yw
theorem Ml:ah1 62=ah2 sV:=ah5
def jx:LSO:=[Ab 2 0]
def jw:LSO:=[Aa 3 0,Ae 4 3,Ad 5 0 4,Ac 6 1 5,Ag 7 51 6,AP 8 7 2,o1 9 (.bin .quo (tm 8) (iv 2)),Aa 2 9]
def fI:aI:=⟨10,(ahW jx [] (ahW jw Ck .ret)),[(.tmp 2)]⟩
attribute [push_cast] jx jw
theorem s9:ah1 54=ah2 fI:=ah5
def i9:LSO:=[Ab 4 0]
def i8:LSO:=[Aa 5 1,Aa 6 0,Ag 7 54 6,o1 8 (.bin .mul (tm 5) (tm 7)),BH 9 2 8,Aa 4 9]
def fx:aI:=⟨10,(ahW i9 [] (ahW i8 Ci .ret)),[(.tmp 4)]⟩
attribute [push_cast] i9 i8
theorem sW:ah1 56=ah2 fx:=ah5
def yv:LSO:=[AK 2,Aq 3,Ab 4 0]
def yu:LSO:=[Aa 24 0,AA 25 24]
def yt:LSO:=[AK 2,Aq 3,Ab 4 1]
def yr:LSO:=[Aa 26 0,Ag 27 51 26,AI 28 27 4]
def yq:LSO:=[AK 2,Aq 3,Ab 4 2]
def yo:LSO:=[Aq 5]
def ym:LSO:=[Aa 29 0,Ag 30 51 29,Ab 31 0]
def yl:LSO:=[Ao 32 31 30]
def yk:LSO:=[Aa 33 31,Aa 6 33]
def yj:LSO:=[Aa 35 0,Aa 36 6,Ax 37 52 35 36,Aa 34 37,Am 38 34,Ap 39 34,Aa 7 38,Aa 8 39]
def vE:LSO:=[Aa 40 8,Ay 41 40 0]
def vD:LSO:=[Aa 42 8,AK 2,Aq 3,Aa 4 42]
def vC:LSO:=[Aa 43 5,Aa 44 7,AN 45 44,Bi 46 43 45,Aa 5 46]
def vB:LSO:=[Aj 47 31 1,Aa 31 47]
def vA:LSO:=[Aa 48 0,
 o1 49 (.build [.nilptr,(.int .i64 0),(.int .i64 0),(.int .i64 0),(.int .i64 0),(.int .i64 0),(.bool false),(.bool false)] [(0,(1,(tm 48))),(2,(1,(iv 1))),(3,(1,(iv (-1))))]),
 A3 50 49,Aa 9 50]
def vz:LSO:=[Ab 10 0,Ab 11 0]
def vy:LSO:=[Aa 51 5,o1 52 (.slV 1 (tm 51) none (some (iv 2)) none),Af 53 52,Ab 54 0]
def vx:LSO:=[Ao 55 54 53]
def vw:LSO:=[Aa 56 54,Ak 57 1 52 54,Ac 58 1 57,Aa 12 56,Aa 13 58]
def vv:LSO:=[Aa 60 13,Ag 61 53 60,Aa 59 61,Am 62 59,Ap 63 59,AS 64 59,Aa 14 62,Aa 15 63,Aa 16 64]
def vu:LSO:=[Aa 65 16]
def vt:LSO:=[Aa 66 10,Aa 67 14,o1 68 (.minmax true [(tm 66),(tm 67)]),Aa 10 68]
def vr:LSO:=[Aa 69 14,Aa 70 11,o1 71 (.bin .gtr (tm 69) (tm 70))]
def vq:LSO:=[Aa 72 9,Aa 73 9,Aa 74 14,Aa 75 15,Aa 76 12,Aa 11 74,Ae 77 72,Ad 78 2 77,Ai 1 78 75,Ae 79 73,Ad 80 3 79,Ai 1 80 76]
def vp:LSO:=[Aj 81 54 1,Aa 54 81]
def vn:LSO:=[Aa 82 5,Aa 83 9,Ag 84 54 83,o1 85 (.bin .mul (iv 2) (tm 84)),BH 86 2 85,o1 87 (.slV 1 (tm 82) (some (iv 2)) (some (tm 86)) none),Af 88 87,Ab 89 0]
def vm:LSO:=[Ao 90 89 88]
def vl:LSO:=[Ak 91 1 87 89,Ac 92 1 91,Aa 18 92]
def vj:LSO:=[Aa 94 18,Ag 95 55 94,Aa 93 95,Am 96 93,Ap 97 93,BJ 19,Ai 5 19 96,Aa 20 97]
def vi:LSO:=[Aa 98 20]
def vh:LSO:=[Aa 99 10,Ad 100 0 19,Ac 101 1 100,Bj 102 101,o1 103 (.minmax true [(tm 99),(tm 102)]),Aa 10 103]
def vg:LSO:=[Aj 104 89 1,Aa 89 104]
def vf:LSO:=[Aq 21]
def ve:LSO:=[Aa 105 9,Ae 106 105,Ad 107 3 106,Ac 108 1 107,Bd 109 108 0]
def vd:LSO:=[Aa 110 9,Aa 111 9,Ae 112 111,Ad 113 2 112,Ac 114 1 113,Ax 115 56 110 114,Aa 22 115]
def vc:LSO:=[Aa 116 5,Aa 117 22,Aa 118 22,Aa 119 9,Ag 120 54 119,AB 121 118 120,o1 122 (.slV 1 (tm 116) (some (tm 117)) (some (tm 121)) none),Aa 123 11,
 Ax 124 57 122 123,Aa 21 124]
def u9:LSO:=[Aa 125 9,Aa 126 10,Ae 127 125,Ad 128 1 127,Ai 1 128 126]
def u0:LSO:=[Aa 129 9,Aa 130 21,Ax 131 29 129 130,Aa 23 131]
def uZ:LSO:=[Aa 132 23,Ay 133 132 0]
def uY:LSO:=[Aa 134 23,AK 2,Aq 3,Aa 4 134]
def uX:LSO:=[Aa 135 9,Aa 136 21,Aa 2 135,Aa 3 136,Ab 4 0]
def sU:aI:=⟨137,(ahW yv [] (.seq (ahW yu Cd (ahY 25 (.sreg yt []))) (.seq (ahW yr Ce (ahY 28 (.sreg yq []))) (ahW yo [] (.seq (ahW ym Cj (ahZ 0 (ahW yl [] (.seq (ah0 32 0) (.seq (.block 1 (ahW yk Cd (ahW yj Cr (.seq (ahW vE Cd (ahY 41 (.sreg vD Cp))) (.sreg vC Cg))))) (.sreg vB Cd)))))) (ahW vA Cf (ahW vz [] (.seq (ahW vy Cp (ahZ 2 (ahW vx [] (.seq (ah0 55 2) (.seq (.block 3 (ahW vw Co (ahW vv Cs (ahW vu [] (ahX 65 (ahW vt Cf (ahW vr Ce (ahX 71 (.sreg vq [false,false,false,false,true,false,false,false,false,false]) .skip))) .skip))))) (.sreg vp Cd)))))) (.seq (ahW vn CC (ahZ 4 (ahW vm [] (.seq (ah0 90 4) (.seq (.block 5 (ahW vl Ce (ahW vj Cm (ahW vi [] (ahX 98 (.sreg vh Ci) .skip))))) (.sreg vg Cd)))))) (ahW vf [] (.seq (ahW ve Cg (ahX 109 (ahW vd Ch (.sreg vc Cl)) .skip)) (ahW u9 Cq (.seq (ahW u0 Cf (ahW uZ Cd (ahY 133 (.sreg uY Cp)))) (ahW uX C7 .ret)))))))))))))),[(.tmp 2),(.tmp 3),(.tmp 4)]⟩
attribute [push_cast] yv yu yt yr yq yo ym yl yk yj vE vD vC vB vA vz vy vx vw vv vu vt vr vq vp vn vm vl vj vi vh vg vf ve vd vc u9 u0 uZ uY uX
theorem Mk:ah1 22=ah2 sU:=ah5
def nK:LSO:=[Aq 4]
def nJ:LSO:=[Aq 5]
def nI:LSO:=[Aa 11 0,Af 12 11,A9 13 12 0]
def nH:LSO:=[Aw 6]
def nG:LSO:=[Ab 7 0]
def nF:LSO:=[o1 8 (.mv (.av (.int .u64 1)))]
def nE:LSO:=[Aa 14 7,AE 15 14,Aa 16 8,Ao 17 15 16]
def nD:LSO:=[Aa 20 7,Aa 21 0,Af 22 21,Be 23 20 22]
def nC:LSO:=[Aa 24 5,Aa 4 24]
def nB:LSO:=[Aa 26 0,Aa 27 7,Ak 28 1 26 27,Ac 29 1 28,Ag 30 55 29,Aa 25 30,Am 31 25,Ap 32 25,BJ 9,Ai 5 9 31,Aa 10 32]
def ml:LSO:=[Aa 33 10,A6 34 33,Aa 35 34,.grp none 35 false
 [A7 36 35 0 9,A4 37 35 1 36,og 38 35 false (.conv .i64 (tm 37)),Ah 39 35 1,B3 40 35 38 39]
 41 (tm 40),Aa 42 41,.grp none 42 false
 [A7 43 42 1 9,A4 44 42 1 43,Ah 45 42 5,AH 46 42 45,og 47 42 false (.conv .u64 (tm 46)),B3 48 42 44 47]
 49 (tm 48),Aa 50 49,.grp none 50 false
 [A7 51 50 2 9,A4 52 50 1 51,Ah 53 50 7,og 54 50 false (.conv .u64 (tm 53)),B3 55 50 52 54]
 56 (tm 55),Aa 57 56,.grp none 57 false
 [Ah 58 57 7,AD 59 57 58 0,Ah 60 57 59,.grp (some (57,false)) 60 true
 [AT 61 60 3 9,AO 62 60 1 61,An 63 60 8,og 64 60 true (.bin .neq (tm 62) (tm 63))]
 65 (tm 64)]
 66 (tm 65)]
def mj:LSO:=[Aa 67 5,Aa 4 67]
def mh:LSO:=[Ad 68 3 9,Ac 69 1 68,Aa 8 69]
def mg:LSO:=[Aa 70 6,Ad 71 4 9,Ac 72 1 71,AB 73 70 72,Aa 6 73]
def mf:LSO:=[Aa 18 7,Aj 19 18 1,Aa 7 19]
def me:LSO:=[Aa 74 5,Aa 75 6,AN 76 75,Bi 77 74 76,Aa 5 77]
def md:LSO:=[Aa 78 0,Aa 79 7,o1 80 (.slV 1 (tm 78) (some (tm 79)) none none),Aa 0 80]
def mc:LSO:=[Aa 81 5,Aa 4 81]
def jY:aI:=⟨82,(ahW nK [] (ahW nJ [] (.seq (ahZ 0 (.seq (ahW nI Ce (ah0 13 0)) (.block 1 (ahW nH [] (ahW nG [] (.seq (ahW nF [] (ahZ 2 (.seq (ahW nE Cf (ah0 17 2)) (.seq (.block 3 (.seq (ahW nD Cf (ahY 23 (.sreg nC Cd))) (ahW nB Cy (.seq (ahW ml Cl (ahY 66 (.sreg mj Cd))) (ahW mh Ce (.sreg mg Cg)))))) (.sreg mf Ce))))) (ahW me Cg (.sreg md Cf)))))))) (ahW mc Cd .ret)))),[(.tmp 4)]⟩
attribute [push_cast] nK nJ nI nH nG nF nE nD nC nB ml mj mh mg mf me md mc
theorem Ei:ah1 57=ah2 jY:=ah5
def uW:LSO:=[Aq 6]
def uV:LSO:=[Aq 7]
def uU:LSO:=[Aa 11 2,A8 12 11,Ag 13 62 12,Aa 8 13]
def uT:LSO:=[Aa 14 8,Ab 15 0]
def uS:LSO:=[Ao 16 15 14]
def uR:LSO:=[Aa 17 15,Aa 9 17]
def uQ:LSO:=[Aa 18 2,A8 19 18,o1 20 (.minmax false [(iv 110),(tm 19)]),Aa 10 20]
def uP:LSO:=[Aa 21 7,Aa 22 0,AE 23 22,Aa 24 1,AE 25 24,Aa 26 9,AE 27 26,Aa 28 8,AE 29 28,Aa 30 2,Aa 31 10,o1 32 (.slS (tm 30) none (some (tm 31))),
 o1 33 (.build [(.int .u64 0),(.int .u64 0),(.int .u64 0),(.int .u64 0),(.str [])] [(0,(1,(tm 23))),(1,(1,(tm 25))),(2,(1,(tm 27))),(3,(1,(tm 29))),(4,(1,(tm 32)))]),Ag 34 88 33,
 AN 35 34,Bi 36 21 35,Aa 7 36]
def uO:LSO:=[Aa 37 2,Aa 38 10,BF 39 37 38,Aa 2 39]
def uN:LSO:=[Aj 40 15 1,Aa 15 40]
def rV:LSO:=[Aa 41 7,Aa 6 41]
def ox:aI:=⟨42,(ahW uW [] (ahW uV [] (ahW uU Cf (.seq (ahW uT [] (ahZ 0 (ahW uS [] (.seq (ah0 16 0) (.seq (.block 1 (ahW uR Cd (ahW uQ Cf (ahW uP C8 (.sreg uO Cf))))) (.sreg uN Cd)))))) (ahW rV Cd .ret))))),[(.tmp 6)]⟩
attribute [push_cast] uW uV uU uT uS uR uQ uP uO uN rV
theorem JR:ah1 63=ah2 ox:=ah5
def kw:LSO:=[Ab 6 0]
def ku:LSO:=[Aa 11 2,Af 12 11,Ab 13 0]
def kr:LSO:=[Ao 14 13 12]
def ko:LSO:=[Aa 15 13,Ak 16 1 11 13,Ac 17 1 16,Aa 7 15,Aa 8 17]
def kl:LSO:=[Aa 18 0,Ae 19 18,Ad 20 0 19,Ac 21 1 20,Aa 22 1,Aa 23 7,AB 24 22 23,Aa 25 8,AZ 26 89 21 24 25,Aa 9 26]
def kk:LSO:=[Aa 27 9,Ay 28 27 0]
def kj:LSO:=[Aa 29 0,Ae 30 29,Ad 31 6 30,o0 (.store 1 (tm 31) (.av (.bool true)))]
def ki:LSO:=[Aa 32 9,Aa 6 32]
def kg:LSO:=[Aj 33 13 1,Aa 13 33]
def ke:LSO:=[Aa 34 0,Ae 35 34,Ad 36 0 35,Ac 37 1 36,Ag 38 90 37,Aa 10 38]
def jz:LSO:=[Aa 39 0,Aa 40 10,Ay 41 40 0,Ae 42 39,Ad 43 6 42,Ai 1 43 41]
def jy:LSO:=[Aa 44 10,Aa 6 44]
def gq:aI:=⟨45,(ahW kw [] (.seq (ahW ku [] (ahZ 0 (ahW kr [] (.seq (ah0 14 0) (.seq (.block 1 (ahW ko Co (ahW kl Cl (ahW kk Cd (ahX 28 (ahW kj Cu (ahW ki Cd .ret)) .skip))))) (.sreg kg Cd)))))) (ahW ke Ci (ahW jz C3 (ahW jy Cd .ret))))),[(.tmp 6)]⟩
attribute [push_cast] kw ku kr ko kl kk kj ki kg ke jz jy
theorem wn:ah1 64=ah2 gq:=ah5
def jk:LSO:=[Ab 4 0]
def jj:LSO:=[Aa 17 0,AA 18 17,Aa 16 18]
def ji:LSO:=[Ab 4 1]
def jh:LSO:=[Aa 20 0,Ae 21 20,Ad 22 6 21,Ac 23 1 22,Aa 19 23]
def jg:LSO:=[Ab 4 12]
def jf:LSO:=[Ab 5 0]
def je:LSO:=[Aa 24 1,Af 25 24,Ab 26 0]
def jd:LSO:=[Ao 27 26 25]
def jc:LSO:=[Ak 28 1 24 26,Ac 29 1 28,Aa 7 29]
def ja:LSO:=[Aa 30 7,A8 31 30,A9 32 31 262144]
def io:LSO:=[Ab 4 5]
def im:LSO:=[Aa 33 5,Aa 34 7,A8 35 34,Ag 36 62 35,AB 37 33 36,o1 38 (.minmax false [(tm 37),(iv 8193)]),Aa 5 38]
def il:LSO:=[Aj 39 26 1,Aa 26 39]
def ik:LSO:=[Aa 40 0,Ae 41 40,Ad 42 2 41,Ac 43 1 42,o1 44 (.bin .sub (iv 1) (tm 43)),Aa 8 44]
def ij:LSO:=[Aa 45 0,Aa 46 8,Ax 47 56 45 46,Aa 9 47]
def ii:LSO:=[Aa 48 5,Aa 49 0,Ag 50 54 49,o1 51 (.bin .gtr (tm 48) (tm 50)),Aa 52 51,.grp none 52 false
 [Ah 53 52 0,Bv 54 52 53,A7 55 52 0 54,A4 56 52 1 55,BB 57 52 65 56,BQ 58 52 57 2]
 59 (tm 58),Aa 60 59,.grp none 60 false
 [Ah 61 60 5,AD 62 60 61 0,Ah 63 60 62,.grp (some (60,false)) 63 true
 [An 64 63 0,B6 65 63 64,AT 66 63 0 65,AO 67 63 1 66,BN 68 63 65 67,An 69 63 9,An 70 63 5,og 71 63 true (.bin .add (tm 69) (tm 70)),og 72 63 true (.bin .lss (tm 68) (tm 71))]
 73 (tm 72)]
 74 (tm 73),Aa 75 74,.grp none 75 false
 [Ah 76 75 0,Bv 77 75 76,A7 78 75 1 77,A4 79 75 1 78,BU 80 75 79 4294967295]
 81 (tm 80)]
def ig:LSO:=[Ab 4 11]
def ie:LSO:=[Aq 10]
def ic:LSO:=[Aa 82 1,Af 83 82,Ab 84 0]
def ia:LSO:=[Ao 85 84 83]
def hY:LSO:=[Aa 86 84,Ak 87 1 82 84,Ac 88 1 87,Aa 11 86,Aa 12 88]
def hG:LSO:=[Aa 89 10,Aa 90 0,Ae 91 90,Ad 92 1 91,Ac 93 1 92,Aj 94 93 1,Aa 95 11,Aa 96 12,AZ 97 63 94 95 96,Bi 98 89 97,Aa 10 98]
def gZ:LSO:=[Aj 99 84 1,Aa 84 99]
def gX:LSO:=[Aa 100 0,Aa 101 9,Aa 102 10,AZ 103 64 100 101 102,Aa 13 103]
def gW:LSO:=[Aa 104 13,Ay 105 104 0]
def gV:LSO:=[Aa 106 13,Aa 4 106]
def gU:LSO:=[Ab 14 0]
def gT:LSO:=[Aa 107 0,Ae 108 107,Ad 109 3 108,Ac 110 1 109,A0 111 110 0]
def gS:LSO:=[Ab 14 1]
def gR:LSO:=[Aa 112 0,Aa 113 14,Aa 114 0,Ae 115 114,Ad 116 1 115,Ac 117 1 116,Aj 118 117 1,AE 119 118,AJ 120 67 119 4,
 o1 121 (.bin .add (.av (.str [72])) (tm 120)),Aa 122 8,AE 123 122,AJ 124 67 123 1,AB 125 121 124,Ag 126 66 125,AN 127 126,AZ 128 64 112 113 127,Aa 15 128]
def gQ:LSO:=[Aa 129 15,Ay 130 129 0]
def gP:LSO:=[Aa 131 15,Aa 4 131]
def gO:LSO:=[Aa 132 0,Aa 133 0,Aa 134 0,Aa 135 0,Aa 136 0,Aa 137 0,Ae 138 137,Ad 139 1 138,Ac 140 1 139,Aj 141 140 1,Aa 142 8,Aa 143 14,Aa 144 5,Aa 145 1,
 Af 146 145,Ae 147 132,Ad 148 1 147,Ai 1 148 141,Ae 149 133,Ad 150 2 149,Ai 1 150 142,Ae 151 134,Ad 152 3 151,Ai 1 152 143,Ae 153 135,Ad 154 4 153,Ai 1 154 144,Ae 155 136,
 Ad 156 5 155,Ai 1 156 146]
def gN:LSO:=[Ab 4 0]
def fy:aI:=⟨157,(ahW jk [] (.seq (.block 0 (ahW jj Ce (ahX 16 (ahW ji [] .ret) (ahW jh Cg (ahY 19 (.sreg jg [])))))) (ahW jf [] (.seq (ahW je [] (ahZ 1 (ahW jd [] (.seq (ah0 27 1) (.seq (.block 2 (ahW jc Ce (.seq (ahW ja Ce (ahY 32 (.sreg io []))) (.sreg im Ch)))) (.sreg il Cd)))))) (ahW ik Ci (ahW ij Cf (.seq (ahW ii Cl (ahY 81 (.sreg ig []))) (ahW ie [] (.seq (ahW ic [] (ahZ 3 (ahW ia [] (.seq (ah0 85 3) (.seq (.block 4 (ahW hY Co (.sreg hG Cv))) (.sreg gZ Cd)))))) (.seq (ahW gX Cg (ahW gW Cd (ahY 105 (.sreg gV Cd)))) (ahW gU [] (.seq (ahW gT Cg (ahX 111 (.sreg gS []) .skip)) (.seq (ahW gR [true,false,false,false,false,false,false,false,false,false,false,false,false,false,false,false,false,false] (ahW gQ Cd (ahY 130 (.sreg gP Cd)))) (ahW gO [false,false,false,false,false,false,false,false,false,false,false,false,false,false,false,false,false,false,false,false,false,false,false,false,false] (ahW gN [] .ret))))))))))))))),[(.tmp 4)]⟩
attribute [push_cast] jk jj ji jh jg jf je jd jc ja io im il ik ij ii ig ie ic ia hY hG gZ gX gW gV gU gT gS gR gQ gP gO gN
theorem sX:ah1 29=ah2 fy:=ah5
def iC:LSO:=[Ab 4 0]
def iB:LSO:=[Aa 8 0,AA 9 8,Aa 7 9]
def iA:LSO:=[Ab 4 1]
def iz:LSO:=[Aa 11 0,Ae 12 11,Ad 13 6 12,Ac 14 1 13,Aa 10 14]
def iy:LSO:=[Ab 4 12]
def ix:LSO:=[Aa 16 1,A8 17 16,A9 18 17 262144,Aa 15 18]
def iw:LSO:=[Ab 4 5]
def iu:LSO:=[Aa 20 1,A8 21 20,Ag 22 62 21,Aa 23 0,Ag 24 48 23,o1 25 (.bin .gtr (tm 22) (tm 24)),Aa 19 25]
def ir:LSO:=[Ab 4 11]
def iq:LSO:=[Aa 26 0,Ae 27 26,Ad 28 1 27,Ac 29 1 28,Aa 30 0,Ae 31 30,Ad 32 5 31,Ac 33 1 32,Aa 34 1,AZ 35 63 29 33 34,Aa 5 35]
def gD:List (aj×Kd):=
 [Ar 36 0,Ar 37 0,Ar 38 0,A1 39 38 0 0,As 40 2 39,Au 41 1 40 0 0,od 42 (.call 56 [(tm 37),(tm 41)]) (.read 0 0),Ar 43 0,A1 44 43 0 0,As 45 4 44,Au 46 1 45 0 0,Bh 47 42 46,
 Ar 48 5]
def fN:List aj :=
 [⟨(some 49),(.call 64 [(tm 36),(tm 47),(tm 48)]),none⟩,⟨(some 6),(.mv (tm 49)),none⟩]
def gC:LSO:=[Aa 50 6,Ay 51 50 0]
def gz:LSO:=[Aa 52 6,Aa 4 52]
def gy:List (aj×Kd):=
 [Ar 53 0,Ar 54 0,Ar 55 0,A1 56 55 0 0,As 57 4 56,Au 58 1 57 0 0,Ar 59 5,Ca 60 59 0 0,Bh 61 58 60,Ar 62 0,A1 63 62 0 0,As 64 5 63,Au 65 1 64 0 0,
 od 66 (.bin .add (tm 65) (iv 1)) .pure,A1 67 53 0 0,As 68 4 67,
 (⟨none,(.store 1 (tm 68) (tm 61)),none⟩,.eff)]
def fM:List aj :=
 [⟨(some 69),(.nilchk (tm 54)),none⟩,⟨(some 70),(.faddr 5 (tm 69)),none⟩,⟨none,(.store 1 (tm 70) (tm 66)),none⟩]
def gx:LSO:=[Ab 4 0]
def aX:aI:=⟨71,(ahW iC [] (.seq (.block 0 (ahW iB Ce (ahX 7 (ahW iA [] .ret) (ahW iz Cg (ahX 10 (ahW iy [] .ret) (ahW ix Cf (ahX 15 (ahW iw [] .ret) (ahW iu Ch (ahY 19 (.sreg ir [])))))))))) (.seq (.sdreg iq [.pure,(.read 0 0),.pure,(.read 0 0),.pure,(.read 0 0),.pure,(.read 0 0),.pure] Cv) (.seq (.seq (.dregM gD fN CG) (ahW gC Cd (ahY 51 (.sreg gz Cd)))) (.seq (.dregM gy fM [false,false,false,false,false,false,false,false,false,false,false,false,false,false,false,false,false,false]) (ahW gx [] .ret)))))),[(.tmp 4)]⟩
attribute [push_cast] iC iB iA iz iy ix iw iu ir iq gD fN gC gz gy fM gx
theorem dg:ah1 28=ah2 aX:=ah5
def jD:LSO:=[Ab 2 0]
def jC:LSO:=[Aa 3 0,AA 4 3]
def jB:LSO:=[Ab 2 0]
def jA:LSO:=[Aa 5 0,Ag 6 54 5,Aa 7 0,Ae 8 7,Ad 9 0 8,Ac 10 1 9,Ag 11 65 10,Aa 12 0,Aa 13 0,Ae 14 13,Ad 15 2 14,Ac 16 1 15,Ax 17 56 12 16,Bm 18 11 17,
 o1 19 (.minmax false [(tm 6),(tm 18)]),Aa 20 0,Ae 21 20,Ad 22 4 21,Ac 23 1 22,Bm 24 19 23,BM 25 0 24,Aa 2 25]
def fJ:aI:=⟨26,(ahW jD [] (.seq (ahW jC Cd (ahY 4 (.sreg jB []))) (.seq (.sdreg jA [.pure,(.read 0 0),.pure,(.read 0 0),.pure,(.read 0 0),(.read 0 0),.pure,.pure,(.read 0 0),.pure,(.read 0 0),(.read 0 0),.pure,(.read 0 0),.pure,(.read 0 0),.pure,(.read 0 0)] [true,false,false,false,false,false,false,false,false,false,false,false,false,false,false,false,false,false,false,false,false,false]) .ret))),[(.tmp 2)]⟩
attribute [push_cast] jD jC jB jA
theorem ta:ah1 48=ah2 fJ:=ah5
attribute [push_cast] sT mG gp iH iI sV fI fx sU jY ox gq fy aX fJ
variable {L:List Blk}{K:aeX}
set_option maxHeartbeats 8000000
set_option maxRecDepth 100000
def nU(r:Int):Int:=IntKind.u32.wrap ((BitVec.ofInt IntKind.u32.bits (if IntKind.u32.signed=true then -1 else IntKind.u32.max) ^^^ BitVec.ofInt IntKind.u32.bits r).toNat:Int)
def aeO(r:Int):Int:=IntKind.u32.wrap ((BitVec.ofInt IntKind.u32.bits (r.fdiv (2^min 1 IntKind.u32.bits)) ^^^ BitVec.ofInt IntKind.u32.bits (IntKind.u32.wrap ((BitVec.ofInt IntKind.u32.bits 3988292384 &&& BitVec.ofInt IntKind.u32.bits (IntKind.u32.wrap (0-IntKind.u32.wrap ((BitVec.ofInt IntKind.u32.bits r &&& BitVec.ofInt IntKind.u32.bits 1).toNat:Int)))).toNat:Int))).toNat:Int)
def itU:Nat->Int->Int
 |0,r=>r
 |n+1,r=>aeO (itU n r)
def xU(r:Int)(c:UInt8):Int:=IntKind.u32.wrap ((BitVec.ofInt IntKind.u32.bits r ^^^ BitVec.ofInt IntKind.u32.bits (IntKind.u32.wrap (c.toNat:Int))).toNat:Int)
def byU(r:Int)(c:UInt8):Int:=itU 8 (xU r c)
def VY(s:List UInt8):Int:=nU (s.foldl byU (nU 0))
def az(s:List UInt8):Nat:=(VY s).toNat
theorem YN(n:Nat):0<=IntKind.u32.wrap (n:Int)/\IntKind.u32.wrap (n:Int)<2^32:=by simp only[IntKind.wrap,IntKind.signed,IntKind.bits];simp;omega
theorem SJ(s:List UInt8):az s<2^32:=by have:=(YN (BitVec.ofInt IntKind.u32.bits (if IntKind.u32.signed=true then -1 else IntKind.u32.max) ^^^ BitVec.ofInt IntKind.u32.bits (s.foldl byU (nU 0))).toNat).2;unfold az VY nU;unfold nU at this;omega
theorem aai(s:List UInt8):VY s=(az s:Int):=by have:=(YN (BitVec.ofInt IntKind.u32.bits (if IntKind.u32.signed=true then -1 else IntKind.u32.max) ^^^ BitVec.ofInt IntKind.u32.bits (s.foldl byU (nU 0))).toNat).1;unfold az;have a:0<=VY s:=this;omega
theorem aaj{cap:Option Nat}(C:s.length<=1100000)(h:K (.int .u32 (VY s)) L):aeW 127 [.int .u32 0,.sl [.str s] 1 cap] L K:=by
 unfold VY at h;replace h:=hid h;refine aeV SW ?_;obtain⟨e,d⟩:=aeS (nU 0);rw[d]at h;rw[show IntKind.u32.wrap ((BitVec.ofInt IntKind.u32.bits (if IntKind.u32.signed=true then -1 else IntKind.u32.max) ^^^ BitVec.ofInt IntKind.u32.bits 0).toNat:Int)=e from d];refine ao (λm T' L'=>∃(j:Nat) (r:Int),m=1-j/\j<=1/\Hid (r=if j=0 then e else s.foldl byU e)/\T'=[(15,.int .i64 (j:Int)),(14,.int .i64 1),(13,.sl [.str s] 1 cap),(5,.int .u32 r)]/\L=L') ah7 ⟨0,_,rfl,ae5 _,hid rfl,rfl,rfl⟩ ?_;rintro _ _ _ ⟨j,r,rfl,F,hr,rfl,rfl⟩;by_cases y:j<1;have w:j=0:=ah3;subst w;have f:=hid (show r=e from hr.o);clear hr d;refine wk ?_;refine ao (λm T' L'=>∃(k:Nat) (r:Int),m=s.length-k/\k<=s.length/\Hid (r=(s.take k).foldl byU e)/\T'=[(22,.int .i64 (k:Int)),(21,.int .i64 s.length),(20,.sl (u8s s) s.length none),(5,.int .u32 r),(15,.int .i64 0),(14,.int .i64 1),(13,.sl [.str s] 1 cap)]/\L=L') ah7 ⟨0,_,rfl,ae5 _,hid f.o,rfl,rfl⟩ ?_;rintro _ _ _ ⟨k,p,rfl,A,b,rfl,rfl⟩;by_cases a:k<s.length;have g1:(k:Int)<(s.length:Int):=ah3;have D:=aeU k ah3;obtain⟨c,t⟩:=aeS (s.getD k 0);have g3:(u8s s).getD k .undef=.int .u8 c.toNat:=by rw[<- t];simp[u8s,a]
 have g4:k<(u8s s).length:=by simpa[u8s]using a
 have n:Hid (s.take (k+1)=s.take k++[c]):=hid (by rw[afs a,<- t];simp[a]);clear t;refine wk ?_;rw[show IntKind.u32.wrap ((BitVec.ofInt IntKind.u32.bits p ^^^ BitVec.ofInt IntKind.u32.bits (IntKind.u32.wrap (c.toNat:Int))).toNat:Int)=xU p c from rfl];refine ao (λm T' L'=>∃(i:Nat) (r:Int),m=8-i/\i<=8/\Hid (r=itU i (xU p c))/\T'=[(30,.int .i64 (i:Int)),(5,.int .u32 r),(22,.int .i64 (k:Int)),(21,.int .i64 s.length),(20,.sl (u8s s) s.length none),(15,.int .i64 0),(14,.int .i64 1),(13,.sl [.str s] 1 cap)]/\L=L') ah7 ⟨0,_,rfl,ae5 _,hid rfl,rfl,rfl⟩ ?_;rintro _ _ _ ⟨i,x,rfl,z,g,rfl,rfl⟩;by_cases u:i<8;have B:(i:Int)<8:=ah3;have E:=aeU i ah3;refine wk ?_;exact ah8 ah3 ah6 ⟨i+1,_,rfl,u,hid (by rw[itU,<- g.o];rfl),rfl,rfl⟩;have v:i=8:=ah3;subst v;have l:Hid (x=(s.take (k+1)).foldl byU e):=hid (by rw[n.o,ahA,<- b.o,g.o];rfl);clear b g n;refine wk ?_;exact ah8 ah3 ah6 ⟨k+1,_,rfl,a,l,rfl,rfl⟩;have g1:¬(k:Int)<(s.length:Int):=ah3;have l:Hid (p=s.foldl byU e):=hid (by rw[b.o,afu ah3]);clear b;refine wk ?_;exact ah8 ah3 ah6 ⟨1,_,rfl,ae0 _,hid l.o,rfl,rfl⟩;have q:j=1:=ah3;subst q;have f:=hid (show r=s.foldl byU e from hr.o);clear hr d;refine wk ?_;refine ag ?_;rw[f.o];exact h.o
theorem Ur{cap:Option Nat}(a:s.length<=1100000)(h:K (.int .u32 (az s:Int)) L):aeW 92 [.sl [.str s] 1 cap] L K:=by have kk1:Hid (Ctr Tryz.prog 127 [.int .u32 0,.sl [.str s] 1 cap] (.int .u32 (VY s))):=@hid _ (λ{L K} q=>aaj a q);rw[aai]at kk1;replace h:=hid h;refine aeV SV ?_;exact ag h.o
theorem adi(i:n<=1000000)(h:K (.str (List.replicate n 0)) L):aeW 91 [.str [0],.int .i64 n] L K :=
 iN Tryz.func91 rfl ah5 (λw0 S0 E w vs k d=>by simp only[VRL,VR]at d;obtain⟨_,_,rfl,rfl,_,_,rfl,rfl,rfl⟩:=d;have e:Lib.repeatL [0] n=List.replicate n 0:=(by have:=Lib.repeatL_replicate 0 1 n;simpa using this);have g:(Lib.repeatL [0] n).toArray=Array.replicate n 0:=(by rw[e];simp);exact(Tryz.strings_Repeat ⟨⟨[0]⟩⟩ n w ah3 (by show 1*n<=_;omega)).mono λj w' ⟨f,a⟩=>⟨_,f,by simp[VR];exact g,⟨λb c=>a.block b c,a.size,a.os,a.tape,a.output⟩⟩) h
theorem Wj(d:s.length<=1000000)(h:K (.str (Lib.trimB s 0)) L):aeW 84 [.str s,.str [0]] L K :=
 iN Tryz.func84 rfl ah5 (λw0 S0 E w vs f a=>by simp only[VRL,VR]at a;obtain⟨_,_,rfl,rfl,_,_,rfl,rfl,rfl⟩:=a;exact(Tryz.strings_Trim_one ⟨⟨s⟩⟩ 0 (by decide) w (by show s.length<=_;omega)).mono λe w' ⟨c,b⟩=>⟨_,c,by simp[VR],by rcases b with rfl|rfl<;>exact⟨λ_ _=>rfl,ae0 _,rfl,rfl,rfl⟩⟩) h
theorem Rr(s:List UInt8):Lib.trimB s 0=[]↔s.all (· == 0)=true:=by
 have d:∀l:List UInt8,l.dropWhile (· == 0)=[]↔l.all (· == 0)=true:=λl=>by
  induction l with
  |nil=>simp
  | cons a l ih =>
    rw[List.dropWhile_cons];by_cases c:(a == 0)=true
    .rw[if_pos c,ih,af2,c,afU]
    .rw[if_neg c];simp at c;simp[c]
 unfold Lib.trimB Lib.trimLeftB Lib.trimRightB;rw[d,List.all_reverse];constructor;intro h;rw[<- List.all_reverse];rw[afd]at h⊢;intro x b;by_cases c:x∈s.reverse.dropWhile (· == 0);exact h x c;have:=List.takeWhile_append_dropWhile (p:=(· == 0)) (l:=s.reverse);rw[<- this,ae2]at b;rcases b with b|b;exact List.all_takeWhile (p:=(· == 0)) (l:=s.reverse) |> λq=>afd.1 q x b
 exact absurd b c;intro h;rw[afd]at h⊢;exact λx b=>h x (List.mem_reverse.1 ((List.dropWhile_sublist _).subset b))
theorem Y1(r:s.length<=124)(h:K (.str (oG az s)) L):aeW 66 [.str s] L K:=by
 obtain⟨n,e⟩:∃n:Nat,124-s.length=n:=⟨_,rfl⟩;have g1:(124:Int)-(s.length:Int)=(n:Int):=ah3;unfold oG Hg at h;rw[e]at h;obtain⟨z,b⟩:∃z:List UInt8,List.replicate n 0=z:=⟨_,rfl⟩;have l:z.length=n:=by rw[<- b,agN]
 rw[b]at h;have kk1:Hid (Ctr Tryz.prog 91 [.str [0],.int .i64 n] (.str z)):=@hid _ (λ{L K} q=>adi ah3 (by rw[b];exact q));obtain⟨t,f⟩:=aeS (s++z);have j:t.length=124:=by rw[<- f,afc];omega
 rw[f]at h;have g:=SJ t;have u:IntKind.i64.wrap (n:Int)=(n:Int):=ae ah3 ah3;obtain⟨c,a⟩:=aeS (az t);rw[a]at h g;have kk2:Hid (∀{cap:Option Nat}{L:List Blk}{K:aeX},K (.int .u32 (c:Int)) L->aeW 92 [.sl [.str t] 1 cap] L K):=@hid _ (λ{cap L K} q=>Ur ah3 (by rw[a];exact q));obtain⟨p,d⟩:=aeS (eG c 4);have i:p.length=4:=by rw[<- d,fp]
 rw[d]at h;have m:(p.length:Int)+(t.length:Int)<=9223372036854775807:=ah3;have kk3:Hid (Ctr Tryz.prog 67 [.int .u64 (c:Int),.int .i64 4] (.str p)):=@hid _ (λ{L K} q=>mz (k:=4) ah3 ah3 ah3 (by rw[d];exact q));have g3:IntKind.u64.wrap (c:Int)=(c:Int):=by simp only[IntKind.wrap,IntKind.signed,IntKind.bits];simp;omega
 replace h:=hid h;have v:(s.length:Int)+(z.length:Int)<=9223372036854775807:=ah3;clear a e b d;refine aeV Mj ?_;exact ag h.o
theorem Ts(m:s.length=128)(h:K (.tup [.str (s.drop 4),.bool (decide (bY (s.take 4)=az (s.drop 4)))]) L):aeW 82 [.str s] L K:=by
 obtain⟨g,e⟩:=aeS (bY (s.take 4));obtain⟨t,i⟩:=aeS (s.drop 4);have k:t.length=124:=by rw[<- i];simp;omega
 rw[i,e]at h;have j:=SJ t;obtain⟨c,d⟩:=aeS (az t);rw[d]at h j;have kk1:Hid (Ctr Tryz.prog 83 [.str s,.int .i64 0,.int .i64 4] (.tup [.int .u64 (g:Int),.bool true])):=@hid _ (λ{L K} q=>Gx (a:=0) (z:=4) ah3 ah3 ah3 ah3 (by rw[ahi,e];exact q));have kk2:Hid (∀{cap:Option Nat}{L:List Blk}{K:aeX},K (.int .u32 (c:Int)) L->aeW 92 [.sl [.str t] 1 cap] L K):=@hid _ (λ{cap L K} q=>Ur ah3 (by rw[d];exact q));have g3:IntKind.u64.wrap (c:Int)=(c:Int):=by simp only[IntKind.wrap,IntKind.signed,IntKind.bits];simp;omega
 have l:List.take 124 t=t:=afu ah3;obtain⟨b,f⟩:=aeS (decide (g=c));have n:decide ((c:Int)=(g:Int))=b:=by rw[<- f];exact decide_eq_decide.2 ah3
 rw[f]at h;replace h:=hid h;clear d f e;refine aeV Hj ?_;exact ag h.o
abbrev GC(c:Cel):List AV:=[.int .u64 (c.gen:Int),.int .u64 (c.seq:Int),.int .u64 (c.part:Int),.int .u64 (c.parts:Int),.str c.data]
theorem Y0{c:Cel}(D:c.gen<2^32)(F:c.seq<2^32)(H:c.part<2^16)(h4:c.parts<2^16)(J:c.data.length<=110)(h:K (.str (fF az c)) L):aeW 88 [.agg (GC c)] L K:=by
 obtain⟨gen,seq,part,parts,data⟩:=c;simp only at D F H h4 J;have a:∀(k n:Nat),∃p,eG n k=p/\p.length=k:=λk n=>⟨_,rfl,fp ..⟩
 obtain⟨x,v,l1⟩:=a 4 gen;obtain⟨t,y,S⟩:=a 4 seq;obtain⟨z,r,V⟩:=a 2 part;obtain⟨w,m,Q⟩:=a 2 parts;obtain⟨s,u,O⟩:=a 1 data.length;have I:OS ⟨gen,seq,part,parts,data⟩=((((([67]++x)++t)++z)++w)++s)++data:=by simp only[OS,v,y,r,m,u,afa,ahg,afI,afH]
 unfold fF at h;rw[I]at h;have kk1:Hid (Ctr Tryz.prog 67 [.int .u64 (gen:Int),.int .i64 4] (.str x)):=@hid _ (λ{L K} q=>mz (k:=4) ah3 ah3 ah3 (by rw[v];exact q));have kk2:Hid (Ctr Tryz.prog 67 [.int .u64 (seq:Int),.int .i64 4] (.str t)):=@hid _ (λ{L K} q=>mz (k:=4) ah3 ah3 ah3 (by rw[y];exact q));have kk3:Hid (Ctr Tryz.prog 67 [.int .u64 (part:Int),.int .i64 2] (.str z)):=@hid _ (λ{L K} q=>mz (k:=2) ah3 ah3 ah3 (by rw[r];exact q));have kk4:Hid (Ctr Tryz.prog 67 [.int .u64 (parts:Int),.int .i64 2] (.str w)):=@hid _ (λ{L K} q=>mz (k:=2) ah3 ah3 ah3 (by rw[m];exact q));have kk5:Hid (Ctr Tryz.prog 67 [.int .u64 (data.length:Int),.int .i64 1] (.str s)):=@hid _ (λ{L K} q=>mz (k:=1) ah3 ah3 ah3 (by rw[u];exact q));obtain⟨C,b⟩:=aeS ([67]++x);obtain⟨A,d⟩:=aeS (C++t);obtain⟨B,f⟩:=aeS (A++z);obtain⟨E,e⟩:=aeS (B++w);obtain⟨G,i⟩:=aeS (E++s);obtain⟨l,j⟩:=aeS (G++data);have U:C.length=5:=by rw[<- b];simp[l1]
 have T:A.length=9:=by rw[<- d,afc];omega
 have R:B.length=11:=by rw[<- f,afc];omega
 have P:E.length=13:=by rw[<- e,afc];omega
 have W:G.length=14:=by rw[<- i,afc];omega
 have M:l.length<=124:=by rw[<- j,afc];omega
 rw[b,d,f,e,i,j]at h;have kk6:Hid (Ctr Tryz.prog 66 [.str l] (.str (oG az l))):=@hid _ (λ{L K} q=>Y1 M q);have g3:IntKind.u64.wrap (data.length:Int)=(data.length:Int):=by simp only[IntKind.wrap,IntKind.signed,IntKind.bits];simp;omega
 obtain⟨N,g⟩:=aeS (oG az l);rw[g]at h kk6;replace h:=hid h;clear I v y r m u a g D F H h4;refine aeV wm ?_;exact af rfl h.o
theorem Vj(e:n<=262144)(h:K (.int .i64 (cj n:Int)) L):aeW 62 [.int .i64 (n:Int)] L K:=by
 have g1:decide ((n:Int)<0\/262144<(n:Int))=false:=decide_eq_false ah3;have c:IntKind.i64.wrap ((n:Int)+110)=(n:Int)+110:=ae ah3 ah3;have g3:IntKind.i64.wrap ((n:Int)+110-1)=((n+109:Nat):Int):=by rw[ae ah3 ah3];omega
 have g4:IntKind.i64.wrap (((n+109:Nat):Int).tdiv 110)=(((n+109)/110:Nat):Int):=by rw[show((n+109:Nat):Int).tdiv 110=(((n+109)/110:Nat):Int)from rfl];exact ae ah3 ah3
 have b:(if(((n+109)/110:Nat):Int)>1 then(((n+109)/110:Nat):Int)else 1)=(cj n:Int):=by unfold cj;split<;>omega
 obtain⟨m,a⟩:=aeS (n+109);rw[a]at g3 g4 b;obtain⟨d,hd⟩:=aeS (m/110);rw[hd]at g4 b;replace h:=hid h;clear a hd;refine aeV Ml ?_;exact ag h.o
theorem ZQ(H:s.length=128)(h:K (match rdH az s with|none=>.tup [.int .i64 0,.int .i64 0,.bool false]|some (g,f)=>.tup [.int .i64 (g:Int),.int .i64 (f:Int),.bool true]) L):aeW 53 [.str s] L K:=by
 obtain⟨b,m⟩:=aeS (decide (bY (s.take 4)=az (s.drop 4)));obtain⟨t,j⟩:=aeS (s.drop 4);obtain⟨g,i⟩:=aeS (bY ((s.drop 5).take 4));have F:g<2^32:=by rw[<- i];have:=Pm ((s.drop 5).take 4);rw[show((s.drop 5).take 4).length=4 by simp;omega]at this;omega
 obtain⟨u,D⟩:=aeS (s.drop 10);obtain⟨v,l⟩:=aeS (Lib.trimB u 0);have N:t.length=124:=by rw[<- j,agb];omega
 have O:u.length=118:=by rw[<- D,agb];omega
 have M:u.take 118=u:=afu ah3;have kk1:Hid (Ctr Tryz.prog 82 [.str s] (.tup [.str t,.bool b])):=@hid _ (λ{L K} q=>Ts H (by rw[m,j];exact q));have kk2:Hid (Ctr Tryz.prog 83 [.str s,.int .i64 5,.int .i64 4] (.tup [.int .u64 (g:Int),.bool true])):=@hid _ (λ{L K} q=>Gx (a:=5) (z:=4) ah3 ah3 ah3 ah3 (by rw[i];exact q));have kk3:Hid (Ctr Tryz.prog 84 [.str u,.str [0]] (.str v)):=@hid _ (λ{L K} q=>Wj ah3 (by rw[l];exact q));obtain⟨f,J⟩:=aeS (s.getD 9 0);obtain⟨e,p⟩:=aeS (t.getD 0 0);obtain⟨C,n⟩:=aeS (decide ((e.toNat:Int)=72));obtain⟨y,k⟩:=aeS (decide ((g:Int)=0));obtain⟨x,w⟩:=aeS (decide (1<(f.toNat:Int)));obtain⟨A,r⟩:=aeS (decide (v=[]));have B:(match rdH az s with|none=>AV.tup [.int .i64 0,.int .i64 0,.bool false]|some (g,f)=>.tup [.int .i64 (g:Int),.int .i64 (f:Int),.bool true])=if(!b || !C ||y ||x || !A)=true then .tup [.int .i64 0,.int .i64 0,.bool false]else .tup [.int .i64 (g:Int),.int .i64 (f.toNat:Int),.bool true]:=by unfold rdH D8;rw[j,D];subst n k w r m;have I:(u.all (· == 0)=false)↔¬v=[]:=(by rw[<- l,Rr];simp);have G:((e.toNat:Int)=72)↔e=72:=(by rw[<- ag4];show _↔e.toNat=72;omega);rw[j];by_cases a:bY (s.take 4)=az t;rw[if_pos a];simp only[i,J,p,I,a,G];by_cases c:e≠72\/g=0\/1<f.toNat\/¬v=[];rw[if_pos c];rw[if_pos (by rcases c with c|c|c|c<;>simp[c];omega)];rw[if_neg c];simp only[not_or,ag6]at c;rw[if_neg (by simp[c];omega)];simp[if_neg a,a]
 have Q:IntKind.i64.wrap (g:Int)=(g:Int):=ae ah3 ah3;have d:=f.toNat_lt;have P:IntKind.i64.wrap (f.toNat:Int)=(f.toNat:Int):=ae ah3 ah3;rw[B]at h;clear B m i l d;obtain⟨q,E⟩:=aeS ((!b || !C ||y ||x || !A));rw[E]at h;cases q with
 | true =>
   replace h:=hid h;refine aeV vY ?_;exact ag h.o
 | false =>
   replace h:=hid h;refine aeV vY ?_;exact ag h.o
abbrev Uy:Cel:=⟨0,0,0,0,[]⟩
theorem lu(s:List UInt8)(a z:Nat):bY ((s.drop a).take z)<256^z:=af8 (Pm _) (Nat.pow_le_pow_right (by decide) (by simp;omega))
theorem adx{α:Type}{p q:Prop}[Decidable p][Decidable q]{a b c:α}(h:p↔q)(e:b=c):(if p then a else b)=if q then a else c:=by by_cases g:p;rw[if_pos g,if_pos (h.1 g)];rw[if_neg g,if_neg (λx=>g (h.2 x)),e]
def csR(a b c d:Nat):Nat->List AV
 |0=>[.int .u64 0,.int .u64 0,.int .u64 0,.int .u64 0,.str []]
 |1=>[.int .u64 a,.int .u64 0,.int .u64 0,.int .u64 0,.str []]
 |2=>[.int .u64 a,.int .u64 b,.int .u64 0,.int .u64 0,.str []]
 |3=>[.int .u64 a,.int .u64 b,.int .u64 c,.int .u64 0,.str []]
 |_=>[.int .u64 a,.int .u64 b,.int .u64 c,.int .u64 d,.str []]
def BlR(L M:List Blk)(A C:List AV):Prop:=∃X,M=L ++ .cells A :: .cells C::X
theorem BlR.get{L:List Blk}(h:BlR L M A C)(Y:List Blk):(M++Y)[L.length+1]?=some (.cells C):=by obtain⟨X,rfl⟩:=h;rw[afa,aff ah3];simp
theorem BlR.get0{L:List Blk}(h:BlR L M A C)(Y:List Blk):(M++Y)[L.length]?=some (.cells A):=by obtain⟨X,rfl⟩:=h;rw[afa,aff ah3];simp
theorem BlR.put{L:List Blk}(h:BlR L M A C)(Y:List Blk)(D:List AV):BlR L ((M++Y).set (L.length+1) (.cells D)) A D:=by obtain⟨X,rfl⟩:=h;refine⟨X++Y,?_⟩;rw[afa,afG _ _ ah3];simp
theorem BlR.res{L:List Blk}(h:BlR L M A C)(b:Blk):∃X,M.set L.length b=L++X:=by obtain⟨X,rfl⟩:=h;exact⟨_,by rw[afG _ _ ah3]⟩
theorem BlR.len{L:List Blk}(h:BlR L M A C):L.length+1<M.length:=by obtain⟨X,rfl⟩:=h;simp
theorem Pk(hs:s.length=128)(h:K (match rdC az s with|none=>.tup [.agg (GC Uy),.bool false]|some c=>.tup [.agg (GC c),.bool true]) L):aeW 55 [.str s] L K:=by
 obtain⟨b,hb⟩:=aeS (decide (bY (s.take 4)=az (s.drop 4)));obtain⟨t,G⟩:=aeS (s.drop 4);obtain⟨g,l⟩:=aeS (bY ((s.drop 5).take 4));obtain⟨i,x⟩:=aeS (bY ((s.drop 9).take 4));obtain⟨n3,r⟩:=aeS (bY ((s.drop 13).take 2));obtain⟨n4,w⟩:=aeS (bY ((s.drop 15).take 2));have l1:g<2^32:=by rw[<- l];exact lu s 5 4
 have l2:i<2^32:=by rw[<- x];exact lu s 9 4
 have l3:n3<2^16:=by rw[<- r];exact lu s 13 2
 have l4:n4<2^16:=by rw[<- w];exact lu s 15 2
 obtain⟨f,hf⟩:=aeS (s.getD 17 0);obtain⟨A,al⟩:=aeS (t.getD 0 0);obtain⟨n,hn⟩:=aeS (f.toNat);have a8:t.length=124:=by rw[<- G,agb];omega
 have kk1:Hid (Ctr Tryz.prog 82 [.str s] (.tup [.str t,.bool b])):=@hid _ (λ{L K} q=>Ts hs (by rw[hb,G];exact q));have kk2:Hid (Ctr Tryz.prog 83 [.str s,.int .i64 5,.int .i64 4] (.tup [.int .u64 (g:Int),.bool true])):=@hid _ (λ{L K} q=>Gx (a:=5) (z:=4) ah3 ah3 ah3 ah3 (by rw[l];exact q));have kk3:Hid (Ctr Tryz.prog 83 [.str s,.int .i64 9,.int .i64 4] (.tup [.int .u64 (i:Int),.bool true])):=@hid _ (λ{L K} q=>Gx (a:=9) (z:=4) ah3 ah3 ah3 ah3 (by rw[x];exact q));have kk4:Hid (Ctr Tryz.prog 83 [.str s,.int .i64 13,.int .i64 2] (.tup [.int .u64 (n3:Int),.bool true])):=@hid _ (λ{L K} q=>Gx (a:=13) (z:=2) ah3 ah3 ah3 ah3 (by rw[r];exact q));have kk5:Hid (Ctr Tryz.prog 83 [.str s,.int .i64 15,.int .i64 2] (.tup [.int .u64 (n4:Int),.bool true])):=@hid _ (λ{L K} q=>Gx (a:=15) (z:=2) ah3 ah3 ah3 ah3 (by rw[w];exact q));obtain⟨u,I⟩:=aeS (s.drop (18+n));obtain⟨v,O⟩:=aeS (Lib.trimB u 0);have a9:u.length=110-n:=by rw[<- I,agb];omega
 have kk6:Hid (Ctr Tryz.prog 84 [.str u,.str [0]] (.str v)):=@hid _ (λ{L K} q=>Wj ah3 (by rw[O];exact q));obtain⟨x1,R⟩:=aeS (decide ((A.toNat:Int)=67));obtain⟨x3,T⟩:=aeS (decide ((g:Int)=0));obtain⟨x4,H⟩:=aeS (decide ((n4:Int)<=(n3:Int)));obtain⟨x6,ab⟩:=aeS (decide (v=[]));obtain⟨J,ai⟩:=aeS (decide ((n3:Int)=(n4:Int)-1));obtain⟨x8,Z⟩:=aeS (decide ((n:Int)<110));obtain⟨x9,ap⟩:=aeS (decide ((n:Int)=0));obtain⟨y1,ad⟩:=aeS (decide (1<(n4:Int)));obtain⟨F,D⟩:=aeS ((s.drop 18).take n);have hR:rdC az s=if(!b || !x1)=true then none else if 110<n then none else if(x3 ||x4 || !x6)=true then none else if(!J&&x8 ||J&&x9&&y1)=true then none else some ⟨g,i,n3,n4,F⟩:=by
  unfold rdC D8;rw[G];subst R T H ab ai Z ap ad hb;have e3:(u.all (· == 0)=false)↔¬v=[]:=(by rw[<- O,Rr];simp);have e4:((A.toNat:Int)=67)↔A=67:=(by rw[<- ag4];show _↔A.toNat=67;omega);by_cases a:bY (s.take 4)=az t;rw[if_pos a,G];simp only[al,hf,hn,l,x,r,w,I,D];have S:A≠67↔(!decide (bY (s.take 4)=az t) || !decide ((A.toNat:Int)=67))=true:=by simp only[ne_eq,afM,afA,decide_eq_false_iff_not,a,not_true,false_or,e4]
  by_cases a2:110<n;simp only[a2,true_or,if_true,ite_self];refine adx S ?_;rw[if_neg a2];refine adx ?_ (adx ?_ rfl);rw[e3];have e1:((g:Int)=0)↔g=0:=ah3;have e2:((n4:Int)<=(n3:Int))↔n4<=n3:=ah3;simp only[afM,afA,decide_eq_true_eq,decide_eq_false_iff_not,e1,e2,a2,false_or,or_assoc];simp only[afM,ae7,afA,decide_eq_true_eq,decide_eq_false_iff_not];omega;rw[if_neg a];have S:(!decide (bY (s.take 4)=az t) || !decide ((A.toNat:Int)=67))=true:=(by rw[decide_eq_false a];rfl);simp only[G,S,if_true]
 have N:n<256:=by rw[<- hn];exact f.toNat_lt
 have w1:IntKind.i64.wrap (n:Int)=(n:Int):=ae ah3 ah3;rw[hR]at h;clear hR hb l x r w O;obtain⟨q,hq⟩:=aeS ((!b || !x1));cases q with
 | true =>
   have V:Hid (K (.tup [.agg (GC Uy),.bool false]) L):=(by rw[hq,if_pos rfl]at h;exact hid h);clear h;refine aeV vX ?_;exact af rfl V.o
 | false =>
   rw[hq,if_neg (by decide)]at h;replace h:=hid h;refine aeV vX ?_;refine ao (λm T' M=>∃k,m=4-k/\k<=4/\Hid (BlR L M (csR g i n3 n4 0) (csR g i n3 n4 k))/\T'=[(34,.int .i64 (k:Int)),(33,.int .i64 4),(32,.sl [.ptr (L.length+1) 0,.int .i64 5,.int .i64 4,.ptr (L.length+1) 1,.int .i64 9,.int .i64 4,.ptr (L.length+1) 2,.int .i64 13,.int .i64 2,.ptr (L.length+1) 3,.int .i64 15,.int .i64 2] 4 (some 4)),(6,.ptr (L.length+1) 0),(3,.bool false),(2,.ptr L.length 0),(0,.str s)]) ah7 ⟨0,rfl,ah3,hid ⟨[],rfl⟩,rfl⟩ ?_;rintro _ _ M ⟨k,rfl,hk,j,rfl⟩;have a3:=j.o.len;have d:=hid j.o.get;by_cases U:k<4
   .have hne:L.length+1≠M.length:=ah3;have C:k=0\/k=1\/k=2\/k=3:=ah3;have a6:∀y:Blk,(M++[y])[M.length]?=some y:=λy=>ah4
    clear hk;rcases C with rfl|rfl|rfl|rfl
    .have p:∀Y:List Blk,(M++Y)[L.length+1]?=some (.cells [.int .u64 0,.int .u64 0,.int .u64 0,.int .u64 0,.str []]):=d.o;clear d;refine wk ?_;exact ah8 ah3 (CutL (b:=by simp;omega)) ⟨1,rfl,ah3,hid (j.o.put _ _),rfl⟩
    .have p:∀Y:List Blk,(M++Y)[L.length+1]?=some (.cells [.int .u64 g,.int .u64 0,.int .u64 0,.int .u64 0,.str []]):=d.o;clear d;refine wk ?_;exact ah8 ah3 (CutL (b:=by simp;omega)) ⟨2,rfl,ah3,hid (j.o.put _ _),rfl⟩
    .have p:∀Y:List Blk,(M++Y)[L.length+1]?=some (.cells [.int .u64 g,.int .u64 i,.int .u64 0,.int .u64 0,.str []]):=d.o;clear d;refine wk ?_;exact ah8 ah3 (CutL (b:=by simp;omega)) ⟨3,rfl,ah3,hid (j.o.put _ _),rfl⟩
    .have p:∀Y:List Blk,(M++Y)[L.length+1]?=some (.cells [.int .u64 g,.int .u64 i,.int .u64 n3,.int .u64 0,.str []]):=d.o;clear d;refine wk ?_;exact ah8 ah3 (CutL (b:=by simp;omega)) ⟨4,rfl,ah3,hid (j.o.put _ _),rfl⟩
   .have C:k=4:=ah3;subst C;clear hk U;have p:M[L.length+1]?=some (.cells [.int .u64 g,.int .u64 i,.int .u64 n3,.int .u64 n4,.str []]):=(by have:=d.o [];rw[afq]at this;exact this);have av:M[L.length]?=some (.cells [.int .u64 0,.int .u64 0,.int .u64 0,.int .u64 0,.str []]):=(by have:=j.o.get0 [];rw[afq]at this;exact this);have a4:∀b:Blk,(M.set L.length b)[L.length]?=some b:=λb=>afy ah3
    have a1:∀b:Blk,(M.set (L.length+1) b)[L.length+1]?=some b:=λb=>afy ah3
    have a7:∀b:Blk,(M.set (L.length+1) b)[L.length]?=some (.cells [.int .u64 0,.int .u64 0,.int .u64 0,.int .u64 0,.str []]):=λb=>by rw[ae4 ah3];exact av
    have a5:∀b c:Blk,((M.set (L.length+1) b).set L.length c)[L.length]?=some c:=λb c=>afy (by simp;omega)
    clear d;by_cases c2:110<n
    .have V:Hid (K (.tup [.agg (GC Uy),.bool false]) L):=(by have h:=h.o;rw[if_pos c2]at h;exact hid h);have g1:decide (110<(n:Int))=true:=decide_eq_true ah3;clear h;refine wk ?_;obtain⟨X,E⟩:=j.o.res (.cells (GC Uy));have q:=af (L2:=X) (hr:=rfl) V.o;rw[<- E]at q;exact q
    .have g1:decide (110<(n:Int))=false:=decide_eq_false ah3;have h:=h.o;rw[if_neg c2]at h;obtain⟨q2,B⟩:=aeS ((x3 ||x4 || !x6));rw[B]at h;have w2:IntKind.i64.wrap (18+(n:Int))=((18+n:Nat):Int):=(by rw[ae ah3 ah3];omega);have an:(s.drop (18+n)).take (128-(18+n))=u:=(by rw[I,afu ah3]);have P:(s.drop 18).take (18+n-18)=F:=(by rw[<- D];congr 1;omega);have w3:18+n<=128:=ah3;obtain⟨e,he⟩:=aeS (18+n);rw[he]at w2 an P w3;have w4:18<=e:=ah3;clear I D he;cases q2 with
     | true =>
       rw[if_pos rfl]at h;replace h:=hid h;refine wk ?_;obtain⟨X,E⟩:=j.o.res (.cells (GC Uy));have q:=af (L2:=X) (hr:=rfl) h.o;rw[<- E]at q;exact q
     | false =>
       rw[if_neg (by decide)]at h;have a0:n3<n4:=by simp only[ag3]at B;have:=H.trans B.1.2;simp at this;omega
       have w5:IntKind.u64.wrap ((n4:Int)-1)=(n4:Int)-1:=(by simp only[IntKind.wrap,IntKind.signed,IntKind.bits];simp;omega);obtain⟨q3,W⟩:=aeS ((!J&&x8 ||J&&x9&&y1));rw[W]at h;cases q3 with
       | true =>
         rw[if_pos rfl]at h;replace h:=hid h;refine wk ?_;obtain⟨X,E⟩:=j.o.res (.cells (GC Uy));have q:=af (L2:=X) (hr:=rfl) h.o;rw[<- E]at q;exact q
       | false =>
         rw[if_neg (by decide)]at h;replace h:=hid h;refine wk ?_;have Q:BlR L (M.set (L.length+1) (.cells (GC ⟨g,i,n3,n4,F⟩))) (csR g i n3 n4 0) (GC ⟨g,i,n3,n4,F⟩):=by have:=j.o.put [] (GC ⟨g,i,n3,n4,F⟩);rwa[afq]at this
         obtain⟨X,E⟩:=Q.res (.cells (GC ⟨g,i,n3,n4,F⟩));have q:=af (L2:=X) (hr:=rfl) h.o;rw[<- E]at q;exact q
theorem QD(gen seq parts:Nat):∀(n i:Nat) (b:List UInt8),lw gen seq parts (n+1) i b=lw gen seq parts n i b++[⟨gen,seq,i+n,parts,(b.drop (110*n)).take 110⟩]
 |0,i,b=>rfl
 |n+1,i,b=>by rw[lw,QD gen seq parts n (i+1) (b.drop 110),lw,afI,agE,show i+1+n=i+(n+1)by omega,show 110+110*n=110*(n+1)by omega]
theorem WV{seq:Nat}(G:gen<2^32)(E:seq<2^32)(w:b.length<=262144)(h:K (.sl (((vZ gen seq b).map (fF az)).map AV.str) (cj b.length) none) L):aeW 63 [.int .i64 gen,.int .i64 seq,.str b] L K:=by
 unfold vZ at h;obtain⟨p,t⟩:=aeS (cj b.length);have kk1:Hid (Ctr Tryz.prog 62 [.int .i64 (b.length:Int)] (.int .i64 (p:Int))):=@hid _ (λ{L K} q=>Vj (n:=b.length) w (by rw[t];exact q));have J:p<=2384:=by rw[<- t];unfold cj;omega
 rw[t]at h;have P:IntKind.u64.wrap (gen:Int)=(gen:Int):=by simp only[IntKind.wrap,IntKind.signed,IntKind.bits];simp;omega
 have O:IntKind.u64.wrap (seq:Int)=(seq:Int):=by simp only[IntKind.wrap,IntKind.signed,IntKind.bits];simp;omega
 have N:IntKind.u64.wrap (p:Int)=(p:Int):=by simp only[IntKind.wrap,IntKind.signed,IntKind.bits];simp;omega
 replace h:=hid h;have H:=hid w;clear t w;refine aeV JR ?_;refine cG (l:=[]) (n:=0) 7 1 rfl (afD 1).symm ?_;refine ao (λm T' L'=>∃(k:Nat) (C:List AV) (r:List UInt8) (X:List Blk),m=p-k/\k<=p/\Hid (b.drop (110*k)=r)/\Hid (C=((lw gen seq p k 0 b).map (fF az)).map AV.str)/\T'=[(15,.int .i64 (k:Int)),(14,.int .i64 p),(8,.int .i64 p),(7,.gsl C k L.length 1),(0,.int .i64 gen),(1,.int .i64 seq),(2,.str r)]/\L'=L++(.spare k 1::X)) ah7 ⟨0,[],b,[],rfl,ae5 _,hid rfl,hid rfl,rfl,ah4⟩ ?_;rintro _ _ _ ⟨k,C,r,X,rfl,F,hr,u,rfl,rfl⟩;by_cases s:k<p;have g1:(k:Int)<(p:Int):=ah3;have Q:=aeU k ah3;have S:IntKind.u64.wrap (k:Int)=(k:Int):=by simp only[IntKind.wrap,IntKind.signed,IntKind.bits];simp;omega
 obtain⟨q,a⟩:=aeS (min r.length 110);have R:(if(r.length:Int)<110 then(r.length:Int)else 110)=(q:Int):=by rw[<- a];split<;>omega
 have M:q<=r.length:=ah3;obtain⟨d,hd⟩:=aeS (r.take q);obtain⟨x,e⟩:=aeS (r.drop q);have B:(r.drop q).take (r.length-q)=x:=by rw[e,afu (by rw[<- e];simp)]
 have f:r.take 110=d:=by rw[<- hd,<- a];by_cases c:110<=r.length;rw[Nat.min_eq_right c];rw[agT ah3,afu ah3,afu (ae0 _)]
 have j:r.drop 110=x:=by rw[<- e,<- a];by_cases c:110<=r.length;rw[Nat.min_eq_right c];rw[agT ah3,agu ah3,agu (ae0 _)]
 obtain⟨D,g⟩:=aeS (fF az ⟨gen,seq,k,p,d⟩);have i:d.length<=110:=by rw[<- f];simp;omega
 have kk2:Hid (Ctr Tryz.prog 88 [.agg [.int .u64 (gen:Int),.int .u64 (seq:Int),.int .u64 (k:Int),.int .u64 (p:Int),.str d]] (.str D)):=@hid _ (λ{L K} q=>Y0 (c:=⟨gen,seq,k,p,d⟩) G E (by show k<2^16;omega) (by show p<2^16;omega) i (by rw[g];exact q));have y:Hid (C++[.str D]=((lw gen seq p (k+1) 0 b).map (fF az)).map AV.str):=hid (by rw[QD,afk,afk,<- u.o,hr.o,f,agm];show _=C++[AV.str (fF az ⟨gen,seq,k,p,d⟩)];rw[g])
 have z:Hid (b.drop (110*(k+1))=x):=hid (by rw[<- j,<- hr.o,agE];congr 1);clear u g i hr e f j a;refine wk ?_;refine ah8 ah3 ah6 ⟨k+1,_,_,_,rfl,s,z,y,rfl,rfl⟩;have A:k=p:=ah3;subst A;have g1:¬(k:Int)<(k:Int):=ah3;have v:=u.o;have I:=jF ((lw gen seq k k 0 b).map (fF az));subst v;clear u hr F s;refine wk ?_;refine aB ?_;simp only[AV.frz,I];refine af ?_ h.o;simp only[AV.refs,j6]
theorem aa2{ws:List WtE}{ck:Nat}(h:O4 ws n ck){i:Nat}(H:i<n)(s:List UInt8):O4 (J5 ws ck i s).1 n (J5 ws ck i s).2/\∀(S:List Sec) (j:Nat),s8 S (J5 ws ck i s).1 j=if j=i then s else s8 S ws j:=by
 unfold J5;rcases R9 ws i with⟨a,b⟩|⟨m,a,b⟩;rw[a];have z:∀e∈ws,e.1≠(i:Int):=λe d q=>by have:=af7.1 b e d;simp[q]at this
 refine⟨⟨?_,?_,λe d=>?_,λe d=>?_⟩,λS j=>?_⟩;rw[afk,agq];refine⟨h.keys,ah4,λx u y w q=>?_⟩;simp only[afe,afQ,afl]at w;obtain⟨e,d,rfl⟩:=ae1.1 u;exact z e d (q.trans w);rw[afk,agq];refine⟨h.born,ah4,λx u y w q=>?_⟩;simp only[afe,afQ,afl]at w;obtain⟨e,d,rfl⟩:=ae1.1 u;have:=h.lt e d;omega;rcases ae2.1 d with d|d;have:=h.lt e d;show e.2.2<ck+1;omega;rw[afl]at d;subst d;exact Nat.lt_succ_self _;rcases ae2.1 d with d|d;exact h.rng e d;rw[afl]at d;subst d;show 0<=(i:Int)/\(i:Int)<n;omega;unfold s8;rw[List.find?_append];by_cases c:j=i;subst c;rw[b,if_pos rfl];simp;rw[if_neg c];cases ws.find? (λe=>decide (e.1=(j:Int)))with
 |some e=>rfl
 | none =>
   have g:¬(i:Int)=(j:Int):=ah3;simp[g]
 .rw [a];rw [aho] at a;obtain ⟨o,E,G⟩:=a;have A:ws.getD m default=ws[m]:=(by simp [o]);have k:ws[m].1=(i:Int):=(by simpa using E);have F:(ws.set m ((i:Int),s,(ws.getD m default).2.2)).map (·.1)=ws.map (·.1):=by
   rw[List.map_set];show(ws.map (·.1)).set m (i:Int)=_;rw[<- k];apply af1;intro t;by_cases c:t=m
   .subst c;rw[afy (by simpa using o)];simp[o]
   .rw[ae4 (Ne.symm c)]
  have D:(ws.set m ((i:Int),s,(ws.getD m default).2.2)).map (·.2.2)=ws.map (·.2.2):=by
   rw[List.map_set];show(ws.map (·.2.2)).set m (ws.getD m default).2.2=_;rw[A];apply af1;intro t;by_cases c:t=m
   .subst c;rw[afy (by simpa using o)];simp[o]
   .rw[ae4 (Ne.symm c)]
  have C:∀e∈ws.set m ((i:Int),s,(ws.getD m default).2.2),∃f∈ws,f.1=e.1/\f.2.2=e.2.2:=λe d=>by
   rcases List.mem_or_eq_of_mem_set d with d|d
   .exact⟨e,d,rfl,rfl⟩
   .exact⟨ws[m],age o,by rw[d];exact k,by rw[d,A]⟩
  refine⟨⟨by rw[F];exact h.keys,by rw[D];exact h.born,λe d=>?_,λe d=>?_⟩,λS j=>?_⟩
  .obtain⟨f,l,p,r⟩:=C e d;rw[<- r];exact h.lt f l
  .obtain⟨f,l,p,r⟩:=C e d;rw[<- p];exact h.rng f l
  .obtain⟨v,hv⟩:=aeS ((ws.getD m default).2.2);show s8 S (ws.set m ((i:Int),s,(ws.getD m default).2.2)) j=_;rw[hv];have key:∀(W:List WtE) (m:Nat),(∃e,W[m]?=some e/\e.1=(i:Int))->(∀t,t<m->∀e,W[t]?=some e->e.1≠(i:Int))->s8 S (W.set m ((i:Int),s,v)) j=if j=i then s else s8 S W j:=by
    intro W;induction W with
    |nil=>rintro m ⟨e,q,_⟩;simp at q
    | cons x W ih =>
      rintro m ⟨e,l,p⟩ r;unfold s8 at ih⊢;cases m with
      | zero =>
        simp only[afW,aeZ]at l;subst l;rw[List.set_cons_zero,af5,af5,p];by_cases c:j=i
        .subst c;simp
        .have g:¬(i:Int)=(j:Int):=ah3;simp[c,g]
      | succ m =>
        rw[List.set_cons_succ,af5,af5];have u:=r 0 (Nat.succ_pos _) x rfl;by_cases g:x.1=(j:Int)
        .have c:¬j=i:=λe=>u (by rw[g,e])
         simp[g,c]
        .simp only[decide_eq_false g];exact ih m ⟨e,l,p⟩ (λt B f d=>r (t+1) ah3 f d)
   refine key ws m ⟨_,by simp[o],k⟩ λt B e d=>?_
   have:=G t B;obtain⟨I,rfl⟩:=aeY.1 d;simpa using this
theorem O4.nil(n ck:Nat):O4 [] n ck:=⟨agX,agX,(λ_ a=>by cases a),(λ_ a=>by cases a)⟩
theorem aah(S:List Sec)(j:Nat):s8 S [] j=S.getD j []:=rfl
theorem XN{S ss:List Sec}{a:Nat}(h:a+ss.length<=S.length)(b:k<ss.length)(j:Nat):(fU S a (ss.take (k+1))).getD j []=if j=a+k then ss.getD k []else(fU S a (ss.take k)).getD j []:=by
 have l1:(ss.take (k+1)).length=k+1:=by simp;omega
 have l0:(ss.take k).length=k:=by simp;omega
 rw[afh,afh,afh];by_cases c:j=a+k;rw[if_pos c,L5 ah3 ah3 ah3,afz ah3,show j-a=k by omega];rw[if_neg c];by_cases d:a<=j/\j<a+k;rw[L5 ah3 ah3 ah3,L5 ah3 ah3 ah3,afz ah3,afz ah3];rw[jE ah3 ah3,jE ah3 ah3]
theorem abN{S ss:List Sec}{a:Nat}{ws:List WtE}(h:a+ss.length<=S.length)(c:∀j,s8 S ws j=(fU S a ss).getD j []):(List.range S.length).map (s8 S ws)=fU S a ss:=by
 apply af1;intro i;by_cases b:i<S.length;rw[afS,List.getElem?_range b,afi,c,afh];have:i<(fU S a ss).length:=by rw[nW h];exact b
 simp[this];rw[afV (by simp;omega),afV (by rw[nW h];omega)]
abbrev kH(dp:Nat)(j:Jst)(cl:Bool):List AV:=[.ptr dp 0,.int .i64 j.gen,.int .i64 j.half,.int .i64 j.slot,.int .i64 j.used,.int .i64 j.n,.bool cl,.bool false]
theorem Se{L:List Blk}{i:Nat}{b:Blk}(h:L[i]?=some b):L.set i b=L:=by apply af1;intro k;by_cases c:k=i;rw[c,afy (aeY.1 h).1,h];rw[ae4 (Ne.symm c)]
section
variable {L:List Blk}{jp dp lp wp ck:Nat}{cp:Option Nat}{lim:Int}{x y z:AV}{S:List Sec}{j:Jst}{cl:Bool}
theorem L8(f:L[jp]?=some (.cells (kH dp j cl)))(hd:L[dp]?=some (.cells (gl lp wp S.length cp lim false 0 x y z)))(d:2<=S.length)(c:S.length<=8192){K:aeX}(h:K (.int .i64 (aQ S.length:Nat)) L):aeW 54 [.ptr jp 0] L K:=by
 have kk1:Hid (∀{K:aeX},K (.int .i64 (S.length:Int)) L->aeW 51 [.ptr dp 0] L K):=@hid _ (λ{K} q=>WS hd q);obtain⟨n,a⟩:=aeS (S.length);obtain⟨m,e⟩:=aeS (n-2);have g3:IntKind.i64.wrap ((n:Int)-2)=(m:Int):=by rw[ae ah3 ah3];omega
 have g4:IntKind.i64.wrap ((m:Int).tdiv 2)=(aQ n:Int):=by rw[show(m:Int).tdiv 2=((m/2:Nat):Int)from rfl,ae ah3 ah3];unfold aQ;omega
 obtain⟨s,b⟩:=aeS (aQ n);rw[b]at g4;rw[a]at kk1;rw[a,b]at h;replace h:=hid h;clear hd e b d c a;refine aeV s9 ?_;exact ag h.o
theorem Ma(g:L[jp]?=some (.cells (kH dp j cl)))(hd:L[dp]?=some (.cells (gl lp wp S.length cp lim false 0 x y z)))(f:2<=S.length)(a:S.length<=8192){b:Nat}(k:b<=1){K:aeX}(h:K (.int .i64 (aM S.length b:Nat)) L):aeW 56 [.ptr jp 0,.int .i64 (b:Int)] L K:=by
 obtain⟨n,c⟩:=aeS (aQ S.length);have kk1:Hid (∀{K:aeX},K (.int .i64 (n:Int)) L->aeW 54 [.ptr jp 0] L K):=@hid _ (λ{K} q=>L8 g hd f a (by rw[c];exact q));have i:n<=8192:=by rw[<- c];unfold aQ;omega
 have d:b*n<=8192:=by rcases(by omega:b=0\/b=1)with rfl|rfl<;>omega
 unfold aM at h;rw[c]at h;obtain⟨m,e⟩:=aeS (b*n);rw[e]at h d;have g3:IntKind.i64.wrap ((b:Int)*(n:Int))=(m:Int):=by rw[show(b:Int)*(n:Int)=((b*n:Nat):Int)from by simp,e,ae ah3 ah3]
 have g4:IntKind.i64.wrap (2+(m:Int))=((2+m:Nat):Int):=by rw[ae ah3 ah3];omega
 replace h:=hid h;clear hd g e c f a;refine aeV sW ?_;exact ag h.o
theorem Sv(T:L[jp]?=some (.cells (kH dp j false)))(hd:L[dp]?=some (.cells (gl lp wp S.length cp lim false 0 x y z)))(X:L[lp]?=some (.cells (S.map AV.str)))(hw:L[wp]?=some (.map [] ck))(n1:dp≠lp)(W:dp≠wp)(n3:lp≠wp)(n4:jp≠lp)(n5:jp≠wp)(a4:S.length<=8192){a:Nat}{ss:List Sec}{c:Option Nat}(A:∀s∈ss,s.length=128)(B:a+ss.length<=S.length)(n:0<ss.length->((a+ss.length:Nat):Int)<=lim){K:aeX}(h:∀M d,M[lp]?=some (.cells ((fU S a ss).map AV.str))->M[wp]?=some (.map [] d)->(∀j,j≠lp->j≠wp->j<L.length->M[j]?=L[j]?)->L.length<=M.length->K (.int .i64 0) M):
  aeW 64 [.ptr jp 0,.int .i64 (a:Int),.sl (ss.map AV.str) ss.length c] L K:=by
 have a7:=hid (aeY.1 hd).1;have ab:=hid (aeY.1 hw).1;have a8:=hid (aeY.1 X).1;have Y:=hid (aeY.1 T).1;replace h:=hid h;have P:=hid a4;have w:=hid n;have r:=hid B;have C:=hid A;have an:=hid hw;have ad:=hid X;have Z:=hid hd;have a0:=hid T;obtain⟨J,v⟩:=aeS (ss.map AV.str);have a5:J.length=ss.length:=by rw[<- v];simp
 have N:Hid (∀i,i<ss.length->J.getD i .undef=.str (ss.getD i [])):=hid (λi h2=>by rw[<- v,afh,afh];simp[h2])
 rw[v];have ap:∀b:Blk,(L.set wp b)[jp]?=some (.cells (kH dp j false)):=λb=>by rw[ae4 (Ne.symm n5)];exact T
 clear n B A X hd hw T v;refine aeV wn ?_;refine ao (λm T' L'=>∃(k:Nat) (ws:List WtE) (d:Nat),m=ss.length-k/\k<=ss.length/\Hid (O4 ws S.length d/\∀j,s8 S ws j=(fU S a (ss.take k)).getD j [])/\T'=[(13,.int .i64 (k:Int)),(12,.int .i64 ss.length),(11,.sl J ss.length c),(6,.int .i64 0),(0,.ptr jp 0),(1,.int .i64 (a:Int)),(2,.sl J ss.length c)]/\L'=L.set wp (.map (ws.map wtA) d)) ah7 ⟨0,[],ck,rfl,ae5 _,hid ⟨O4.nil _ _,λj=>by simp[aah,fU]⟩,rfl,(Se an.o).symm⟩ ?_;rintro _ _ _ ⟨k,ws,d,rfl,hk,Q,rfl,rfl⟩;have t:Hid ((L.set wp (.map (ws.map wtA) d))[dp]?=some (.cells (gl lp wp S.length cp lim false 0 x y z))):=hid (by rw[ae4 (Ne.symm W)];exact Z.o);have g:Hid ((L.set wp (.map (ws.map wtA) d))[lp]?=some (.cells (S.map AV.str))):=hid (by rw[ae4 (Ne.symm n3)];exact ad.o);have u:Hid ((L.set wp (.map (ws.map wtA) d))[wp]?=some (.map (ws.map wtA) d)):=hid (afy ab.o);by_cases p:k<ss.length;have hf:=r.o;have g1:(k:Int)<(ss.length:Int):=ah3;have g2:=aeU k ah3;have g3:IntKind.i64.wrap ((a:Int)+(k:Int))=((a+k:Nat):Int):=by rw[ae ah3 ah3];omega
 have a6:k<J.length:=ah3;have e1:=N.o k p;obtain⟨s,U⟩:=aeS (ss.getD k []);rw[U]at e1;have D:s.length=128:=C.o s (by rw[<- U];simp[p]);obtain⟨l,f⟩:=Q.o;have R:=aa2 l (i:=a+k) ah3 s;obtain⟨⟨G,H⟩,E⟩:∃q,J5 ws d ((a+k:Nat):Int) s=q:=⟨_,rfl⟩;have kk1:Hid (∀{K:aeX},K (.int .i64 0) (L.set wp (.map (G.map wtA) H))->aeW 89 [.ptr dp 0,.int .i64 ((a+k:Nat):Int),.str s] (L.set wp (.map (ws.map wtA) d)) K):=@hid _ (λ{K} q=>Z9 t.o g.o u.o (Ne.symm W) D ah3 (by have:=w.o ah3;omega) (by rw[E,ahc];exact q));rw[E]at R;have av:Hid (O4 G S.length H/\∀j,s8 S G j=(fU S a (ss.take (k+1))).getD j []):=hid ⟨R.1,λj=>by rw[R.2,XN hf p,U,f]⟩;clear Q l f R E U hf t g u;refine wk ?_;exact ah8 ah3 ah6 ⟨k+1,_,_,rfl,p,av,rfl,rfl⟩;have al:k=ss.length:=ah3;subst al;have g1:¬(ss.length:Int)<(ss.length:Int):=ah3;obtain⟨l,f⟩:=Q.o;rw[afo]at f;clear p hk;refine wk ?_;refine aab t.o g.o u.o l n1 W n3 P.o (λM V m2 m3 m4=>?_);rw[abN r.o f]at V;have O:L.length<=M.length:=by simpa using m4
 have F:∀i,i≠lp->i≠wp->i<L.length->M[i]?=L[i]?:=λi a1 a2 a3=>by rw[m3 i a1 a2 (by simpa using a3),ae4 (Ne.symm a2)]
 have ai:M[jp]?=some (.cells (kH dp j false)):=by rw[F jp n4 n5 Y.o];exact a0.o
 have I:∀b,M[jp]?=some b->M.set jp b=M:=λb e=>Se e
 have hM:M.set jp (.cells (kH dp j false))=M:=Se ai;have h2:=hid (h.o M d V m2 F O);clear I Q l f V m2 m3 F m4 O h t g u ap N;refine wk ?_;exact ag h2.o
end
variable {L:List Blk}{K:aeX}
set_option maxHeartbeats 8000000
set_option maxRecDepth 100000
theorem Zj{c:Cel}(h:rdC az s=some c):c.gen<2^32/\c.seq<2^32/\c.part<2^16/\c.parts<2^16/\c.data.length<=110:=by unfold rdC at h;split at h;cases h;split at h;cases h;split at h;cases h;split at h;cases h;cases h;rename_i q _;simp only[not_or]at q;exact⟨lu s 5 4,lu s 9 4,lu s 13 2,lu s 15 2,by simp only[afZ];omega⟩
theorem Xv{f:σ->Option Cel}{R:List σ}{a:List (List UInt8)}(h:j7 f gen a.length R 0 1 []=none):gu f gen n R a=a:=by
 cases n with
 |zero=>rfl
 | succ n =>
   cases R with
   |nil=>rfl
   |cons s r=>rw[gu,h]
theorem Xu{f:σ->Option Cel}{R d:List σ}{a:List (List UInt8)}(g:R≠[])(e:R.length<=n)(h:j7 f gen a.length R 0 1 []=some (b,d)):∃c,n=c+1/\gu f gen n R a=gu f gen c d (a++[b]):=by
 cases R with
 |nil=>exact absurd rfl g
 | cons s r =>
   cases n with
   |zero=>simp at e
   |succ n=>exact⟨n,rfl,by rw[gu,h]⟩
theorem Xw{f:σ->Option Cel}{seq p:Nat}{r:List σ}(h:p<=k):j7 f gen seq r k p b=some (b,r):=by
 cases r with
 |nil=>rw[j7,if_pos h]
 |cons s r=>rw[j7,if_pos h]
theorem O8(h:n<2^62):IntKind.u64.wrap (n:Int)=(n:Int):=by simp only[IntKind.wrap,IntKind.signed,IntKind.bits];simp;omega
theorem WO(h:n<2^62):IntKind.i64.wrap (n:Int)=(n:Int):=ae ah3 ah3
theorem Vb{R:List Sec}(J:∀s∈R,s.length=128)(hg:gen<2^32)(hn:R.length<=n)(hR:R.length<=8192)(h:K (.sl ((gu (rdC az) gen n R []).map AV.str) (gu (rdC az) gen n R []).length none) L):
  aeW 57 [.sl (R.map AV.str) R.length none,.int .i64 (gen:Int)] L K:=by
 obtain⟨F,hF⟩:=aeS (gu (rdC az) gen n R []);rw[hF]at h;replace h:=hid h;have ab:=hid hF;have u:=hid J;clear hF J;refine aeV Ei ?_;refine cG (l:=[]) (n:=0) 5 1 rfl (afD 1).symm ?_;refine ao (λm T' L'=>∃(g:List Sec) (U:Nat) (d:List (List UInt8)) (C O:List AV) (on f:Nat) (X:List Blk),m=f/\Hid (g.length=f/\f<=U/\(∀s∈g,s.length=128)/\gu (rdC az) gen U g d=F/\C=d.map AV.str/\O=g.map AV.str/\d.length=on)/\on+f<=8192/\T'=[(5,.gsl C on L.length 1),(4,.sl [] 0 (some 0)),(0,.sl O f none),(1,.int .i64 (gen:Int))]/\L'=L++(.spare on 1::X)) ah7 ⟨R,n,[],[],_,0,_,[],rfl,hid ⟨rfl,hn,u.o,ab.o,rfl,rfl,rfl⟩,by simpa using hR,rfl,ah4⟩ ?_;clear hn ab u hR;rintro m _ _ ⟨g,U,d,C,O,on,f,X,hm,j,ho,rfl,rfl⟩;subst m;by_cases a0:0<f;have g1:(0:Int)<(f:Int):=ah3;refine wk ?_;refine ao (λm T' L'=>∃(k p:Nat) (body:List UInt8) (Y:List Blk),m=f+1-k/\k<=f/\p<65536/\body.length<=110*k/\(k=0->p=1)/\Hid (j7 (rdC az) gen on (g.drop k) k p body=j7 (rdC az) gen on g 0 1 [])/\T'=[(8,.int .u64 (p:Int)),(7,.int .i64 (k:Int)),(6,.str body),(5,.gsl C on L.length 1),(4,.sl [] 0 (some 0)),(0,.sl O f none),(1,.int .i64 (gen:Int))]/\L'=L++(.spare on 1::(X++Y))) ah7 ⟨0,1,[],[],rfl,ae5 _,by decide,ae5 _,λ_=>rfl,hid rfl,rfl,ah4⟩ ?_;rintro m _ _ ⟨k,p,body,Y,hm,hk,hp,a3,v,t,rfl,rfl⟩;subst m;have w1:=O8 (n:=k) ah3;by_cases a5:k<p;have g2:(k:Int)<(p:Int):=ah3;have a:Hid (j7 (rdC az) gen on (g.drop k) k p body=none->K (.sl C on none) L):=hid (λe=>by obtain⟨D,Q,M,y,E,N,A⟩:=j.o;rw[t.o,<- A]at e;rw[Xv e]at y;have:=h.o;rw[<- y,A,<- E]at this;exact this)
 have r:Hid (AV.frzL C=C/\AV.refsL (λi=>decide (i<L.length)) C=true):=hid (by obtain⟨D,Q,M,y,E,N,A⟩:=j.o;rw[E];exact⟨jF _,j6 _ _⟩)
 by_cases B:k=f;have w:=hid (a.o (by obtain⟨D,Q,M,y,E,N,A⟩:=j.o;rw[agu ah3,j7,if_neg ah3]))
 subst B;clear j t a v h;refine wk ?_;refine aB ?_;simp only[AV.frz,r.o.1];refine af ?_ w.o;simp only[AV.refs,r.o.2];obtain⟨s,I⟩:=aeS (g.getD k []);have x:k<g.length:=by have:=j.o.1;omega
 have G:g.drop k=s::g.drop (k+1):=by rw[afL x,<- I];simp[x]
 have e1:O.getD k .undef=.str s:=by rw[j.o.2.2.2.2.2.1,<- I,afh,afh];simp[x]
 have a2:k<O.length:=by rw[j.o.2.2.2.2.2.1,ae6];exact x
 have b:s.length=128:=j.o.2.2.1 s (by rw[<- I];simp[x]);have g3:decide ((k:Int)=(f:Int))=false:=decide_eq_false ah3;have g4:(k:Int)<(f:Int):=ah3;have g5:IntKind.i64.wrap ((k:Int)+1)=((k+1:Nat):Int):=by rw[ae ah3 ah3];omega
 rw[G,j7,if_neg ah3]at a t;cases hc:rdC az s with
 | none =>
   have kk1:Hid (Ctr Tryz.prog 55 [.str s] (.tup [.agg (GC Uy),.bool false])):=@hid _ (λ{L K} q=>Pk b (by rw[hc];exact q));rw[hc]at a;have w:=hid (a.o rfl);clear j t a v h B hc I G b;refine wk ?_;refine aB ?_;simp only[AV.frz,r.o.1];refine af ?_ w.o;simp only[AV.refs,r.o.2]
 | some c =>
   obtain⟨l1,l2,l3,l4,l5⟩:=Zj hc;obtain⟨T,cs,cn,Z,cd⟩:=c;dsimp only at l1 l2 l3 l4 l5;have kk1:Hid (Ctr Tryz.prog 55 [.str s] (.tup [.agg (GC ⟨T,cs,cn,Z,cd⟩),.bool true])):=@hid _ (λ{L K} q=>Pk b (by rw[hc];exact q));rw[hc]at a t;dsimp only at a t;obtain⟨y1,ai⟩:=aeS (decide ((T:Int)=(gen:Int)));obtain⟨y2,ad⟩:=aeS (decide ((cs:Int)=(on:Int)));obtain⟨y3,al⟩:=aeS (decide ((cn:Int)=(k:Int)));obtain⟨z,hz⟩:=aeS (decide (0<(k:Int)));obtain⟨y4,ap⟩:=aeS (decide ((Z:Int)=(p:Int)));obtain⟨q,hq⟩:=aeS ((!y1 || !y2 || !y3 ||(z && !y4)));have H:(T≠gen\/cs≠on\/cn≠k\/(0<k/\Z≠p))↔q=true:=by rw[<- hq,<- ai,<- ad,<- al,<- hz,<- ap];simp only[afM,ae7,afA,decide_eq_true_eq,decide_eq_false_iff_not];omega
   have w2:=WO (n:=T) ah3;have w3:=O8 (n:=on) ah3;cases q with
   | true =>
     rw[if_pos (H.2 rfl)]at a;have w:=hid (a.o rfl);clear j t a v h B hc I G b H;refine wk ?_;refine aB ?_;simp only[AV.frz,r.o.1];refine af ?_ w.o;simp only[AV.refs,r.o.2]
   | false =>
     rw[if_neg (λe=>by have:=H.1 e;cases this)]at t;clear a B hc I G b H h j;have g6:(body.length:Int)+(cd.length:Int)<=9223372036854775807:=ah3;refine wk ?_;exact ah8 ah3 ah6 ⟨k+1,Z,_,Y++[.cells (GC ⟨T,cs,cn,Z,cd⟩)],rfl,ah3,l4,by simp;omega,λe=>ah3,t,rfl,ah4⟩
 have a4:1<=k:=by by_cases h0:k=0;have:=v h0;omega;omega
 have g2:¬(k:Int)<(p:Int):=ah3;obtain⟨V,S⟩:=aeS ((O.drop k).take (f-k));have an:Hid (∃P,(g.drop k).length=f-k/\f-k<=P/\(∀s∈g.drop k,s.length=128)/\gu (rdC az) gen P (g.drop k) (d++[body])=F/\C++[.str body]=(d++[body]).map AV.str/\V=(g.drop k).map AV.str/\(d++[body]).length=on+1):=hid (by obtain⟨D,Q,M,y,E,N,A⟩:=j.o;have e:j7 (rdC az) gen d.length g 0 1 []=some (body,g.drop k):=(by rw[A,<- t.o,Xw ah3]);obtain⟨P,q1,q2⟩:=Xu (n:=U) (by intro e;rw[e]at D;simp at D;omega) ah3 e;refine⟨P,by simp;omega,ah3,λs I=>M s (agv I),by rw[<- q2];exact y,by rw[E];simp,?_,by simp;omega⟩;rw[<- S,N,<- ahm,afu (by simp;omega)])
 have g6:k<=f:=hk;have g7:(0:Int)<=(k:Int):=ah3;clear j t v h;refine wk ?_;obtain⟨P,a1⟩:=an.o;exact ah8 ah3 ah6 ⟨g.drop k,P,d++[body],_,V,on+1,f-k,_,rfl,hid a1,ah3,rfl,rfl⟩;have av:f=0:=ah3;subst av;have W:F=d:=by obtain⟨D,Q,M,y,E,N,A⟩:=j.o;rw[<- y,afK.1 D];cases U<;>rfl
 obtain⟨D,Q,M,y,E,N,A⟩:=j.o;have e5:=jF d;rw[W,A]at h;subst E;clear j D Q M y N A W a0 ho;refine wk ?_;refine aB ?_;simp only[AV.frz,e5];refine af ?_ h.o;simp only[AV.refs,j6]
theorem Vi{bs:List (List UInt8)}(a:k<bs.length):br (bs.take (k+1))=br (bs.take k)+cj (bs.getD k []).length:=by unfold br;rw[afs a,afk,List.sum_append];simp[a]
theorem Zw(bs:List (List UInt8))(k:Nat):br (bs.take k)<=br bs:=by
 have:br bs=br (bs.take k)+br (bs.drop k):=by unfold br;rw[<- List.sum_append,<- afk,ago]
 omega
theorem Yq{bs:List (List UInt8)}(a:k<bs.length):gE gen 0 (bs.take (k+1))=gE gen 0 (bs.take k)++vZ gen k (bs.getD k []):=by rw[afs a,QV];simp[gE,a,agT (Nat.le_of_lt a)]
theorem Ke(c:Cel)(h:c.data.length<=110):(fF az c).length=128:=Ru (by rw[aao];omega)
theorem Tr(g h:Nat):(yV az g h).length=128:=Ru (by simp[hdB,fp])
section
variable {L:List Blk}{jp dp lp wp ck:Nat}{cp:Option Nat}{lim:Int}{x y z:AV}{S:List Sec}{j:Jst}
theorem T7(hj:L[jp]?=some (.cells (kH dp j false)))(hd:L[dp]?=some (.cells (gl lp wp S.length cp lim false 0 x y z)))(hl:L[lp]?=some (.cells (S.map AV.str)))(hw:L[wp]?=some (.map [] ck))(n1:dp≠lp)(n2:dp≠wp)(n3:lp≠wp)(n4:jp≠lp)(n5:jp≠wp)(n6:jp≠dp)(an:S.length<=8192)(h4:4<=S.length)(hh:j.half<=1)(b_:lim<=9000){bs:List (List UInt8)}{c:Option Nat}(hb:bs.length<=1000000){K:aeX}(h:∀M b9,M[jp]?=some (.cells (kH dp (aV az S (if(S.length:Int)<lim then(S.length:Int)else lim) j bs).2.1 false))->M[lp]?=some (.cells ((aV az S (if(S.length:Int)<lim then(S.length:Int)else lim) j bs).2.2.map AV.str))->M[wp]?=some (.map [] b9)->(∀i,i≠jp->i≠lp->i≠wp->i<L.length->M[i]?=L[i]?)->L.length<=M.length->K (.int .i64 (aV az S (if(S.length:Int)<lim then(S.length:Int)else lim) j bs).1) M):
  aeW 29 [.ptr jp 0,.sl (bs.map AV.str) bs.length c] L K:=by
 obtain⟨rm,Q⟩:=aeS ((if(S.length:Int)<lim then(S.length:Int)else lim));rw[Q]at h;have a':=hid hj;have cy:=hid hd;have bk:=hid hl;have bl:=hid hw;replace h:=hid h;obtain⟨AL,a9⟩:=aeS (bs.map AV.str);have cg:AL.length=bs.length:=by rw[<- a9];simp
 have w:Hid (∀i,i<bs.length->AL.getD i .undef=.str (bs.getD i [])):=hid (λi h2=>by rw[<- a9,afh,afh];simp[h2])
 rw[a9];obtain⟨n,hn⟩:=aeS (bs.length);rw[hn]at cg w hb;rw[hn];clear hl hw a9;refine aeV sX ?_;refine ao (λm T' L'=>∃(k nd:Nat),m=n-k/\k<=n/\Hid (nd=min (br (bs.take k)) 8193/\∀b∈bs.take k,b.length<=262144)/\T'=[(26,.int .i64 (k:Int)),(25,.int .i64 (n:Int)),(24,.sl AL n c),(5,.int .i64 (nd:Int)),(19,.bool false),(16,.bool false),(4,.int .i64 0),(0,.ptr jp 0),(1,.sl AL n c)]/\L=L') ah7 ⟨0,0,rfl,ae5 _,hid ⟨rfl,ah4⟩,rfl,rfl⟩ ?_;rintro m _ _ ⟨k,nd,hm,hk,hI,rfl,rfl⟩;subst m;by_cases f:k<n;have g1:(k:Int)<(n:Int):=ah3;have g2:IntKind.i64.wrap ((k:Int)+1)=((k+1:Nat):Int):=by rw[ae ah3 ah3];omega
 have cs:k<AL.length:=ah3;have e1:=w.o k f;obtain⟨b,B⟩:=aeS (bs.getD k []);rw[B]at e1;have ai:b∈bs:=by rw[<- B];simp[hn,f]
 by_cases ci:262144<b.length;have g3:(262144:Int)<(b.length:Int):=ah3;have e:aV az S rm j bs=(5,j,S):=by unfold aV;rw[if_pos (agp.2 ⟨b,ai,decide_eq_true ci⟩)]
 have h2:Hid (K (.int .i64 5) L):=hid (by have:=h.o L ck (by rw[e];exact a'.o) (by rw[e];exact bk.o) bl.o (λ_ _ _ _ _=>rfl) (ae0 _);rw[e]at this;exact this)
 clear h hI e ai w;refine wk ?_;exact ag h2.o;have g3:¬(262144:Int)<(b.length:Int):=ah3;obtain⟨p,hp⟩:=aeS (cj b.length);have kk1:Hid (Ctr Tryz.prog 62 [.int .i64 (b.length:Int)] (.int .i64 (p:Int))):=@hid _ (λ{L K} q=>Vj (n:=b.length) ah3 (by rw[hp];exact q));have V:p<=2384:=by rw[<- hp];unfold cj;omega
 have g:nd<=8193:=by rw[hI.o.1];omega
 have g4:IntKind.i64.wrap ((nd:Int)+(p:Int))=((nd+p:Nat):Int):=by rw[ae ah3 ah3];omega
 obtain⟨bo,T⟩:=aeS (min (nd+p) 8193);have g5:(if(8193:Int)<((nd+p:Nat):Int)then(8193:Int)else((nd+p:Nat):Int))=(bo:Int):=by rw[<- T];split<;>omega
 have a5:Hid (bo=min (br (bs.take (k+1))) 8193/\∀b∈bs.take (k+1),b.length<=262144):=hid ⟨by rw[Vi ah3,B,hp,<- T,hI.o.1];omega,λb' F=>by rw[afs ah3]at F;rcases ae2.1 F with F|F;exact hI.o.2 b' F;rw[afl]at F;have:b'=b:=(by rw[F,<- B];simp[hn,f]);rw[this];omega⟩
 obtain⟨np,cm⟩:=aeS (nd+p);rw[cm]at g4 g5;clear hI hp T ai h w cm;refine wk ?_;exact ah8 ah3 ah6 ⟨k+1,bo,rfl,f,a5,rfl,rfl⟩;have c2:k=n:=ah3;subst c2;have g1:¬(k:Int)<(k:Int):=ah3;obtain⟨i1,i2⟩:=hI.o;rw[<- hn,afo]at i1 i2;have c':rm<=lim:=by rw[<- Q];split<;>omega
 have b3:aQ S.length<=4095:=by unfold aQ;omega
 obtain⟨v,bx⟩:=aeS (1-j.half);have ch:v<=1:=ah3;have g2:IntKind.i64.wrap (1-(j.half:Int))=(v:Int):=by rw[ae ah3 ah3];omega
 have J:aM S.length v+aQ S.length<=S.length:=by unfold aM aQ;rcases(by omega:v=0\/v=1)with rfl|rfl<;>omega
 obtain⟨sz,al⟩:=aeS (aQ S.length);obtain⟨H,ab⟩:=aeS (aM S.length v);rw[al]at b3 J;rw[ab]at J;have kk1:Hid (∀{K:aeX},K (.int .i64 (sz:Int)) L->aeW 54 [.ptr jp 0] L K):=@hid _ (λ{K} q=>L8 hj hd ah3 an (by rw[al];exact q));have kk2:Hid (∀{K:aeX},K (.int .i64 (H:Int)) L->aeW 56 [.ptr jp 0,.int .i64 (v:Int)] L K):=@hid _ (λ{K} q=>Ma hj hd ah3 an ch (by rw[ab];exact q));have kk3:Hid (∀{K:aeX},K (.int .i64 rm) L->aeW 65 [.ptr dp 0] L K):=@hid _ (λ{K} q=>SI hd (by rw[Q];exact q));have c6:nd<=8193:=ah3;obtain⟨fn,b0⟩:=aeS (H+nd);have g3:IntKind.i64.wrap ((H:Int)+(nd:Int))=(fn:Int):=by rw[ae ah3 ah3];omega
 obtain⟨x1,cd⟩:=aeS (decide ((sz:Int)<(nd:Int)));obtain⟨x2,b7⟩:=aeS (decide (rm<2));obtain⟨x3,b5⟩:=aeS (decide (0<(nd:Int)));obtain⟨x4,cf⟩:=aeS (decide (rm<(fn:Int)));obtain⟨x5,b4⟩:=aeS (decide (4294967295<=(j.gen:Int)));obtain⟨q,hq⟩:=aeS ((x1 ||x2 ||(x3&&x4) ||x5));have Y:q=true↔(sz<br bs\/rm<2\/(0<br bs/\rm<((H+br bs:Nat):Int))\/4294967295<=j.gen):=by rw[<- hq,<- cd,<- b7,<- b5,<- cf,<- b4];simp only[afM,ae7,decide_eq_true_eq];by_cases c:br bs<=8193;rw[i1,agT c];omega;rw[i1,Nat.min_eq_right ah3];omega
 have a_:bs.any (λb=>decide (262144<b.length))=false:=by rw[agI];intro b hb;have:=i2 b hb;simp;omega
 have hR:aV az S rm j bs=if q=true then(11,j,S)else(0,⟨j.gen+1,v,yI j,br bs,bs.length⟩,fU (fU S H ((gE (j.gen+1) 0 bs).map (fF az))) (yI j) [yV az (j.gen+1) v]):=by unfold aV;rw[a_,if_neg (by decide),bx,ab,al];by_cases e:q=true;rw[if_pos (Y.1 e),if_pos e];rw[if_neg (λc=>e (Y.2 c)),if_neg e]
 rw[hR]at h;clear hI f hk hR a_;cases q with
 | true =>
   rw[if_pos rfl]at h;have h2:Hid (K (.int .i64 11) L):=hid (h.o L ck a'.o bk.o bl.o (λ_ _ _ _ _=>rfl) (ae0 _));clear h Y i1 i2 w al ab bx Q an h4 hh b_ J b0;refine wk ?_;exact ag h2.o
 | false =>
   rw[if_neg (by decide)]at h;have cl:¬(sz<br bs\/rm<2\/(0<br bs/\rm<((H+br bs:Nat):Int))\/4294967295<=j.gen):=λc=>by have:=Y.2 c;cases this
   have g:nd=br bs:=ah3;have t:=hid cl;replace g:=hid g;replace b0:=hid b0;clear Y cl i1;have ap:Hid (∀X:List Blk,(L++X)[jp]?=some (.cells (kH dp j false))):=hid (λX=>aeT hj);have a0:Hid (∀X:List Blk,(L++X)[dp]?=some (.cells (gl lp wp S.length cp lim false 0 x y z))):=hid (λX=>aeT hd);have bd:Hid (∀X:List Blk,(L++X)[lp]?=some (.cells (S.map AV.str))):=hid (λX=>aeT bk.o);have bn:Hid (∀X:List Blk,(L++X)[wp]?=some (.map [] ck)):=hid (λX=>aeT bl.o);refine wk ?_;clear kk1 kk2 kk3 hj hd;have c5:j.gen<4294967295:=(by have:=t.o;omega);have c_:k<=nd:=(by have:=mA bs;have:=g.o;omega);have c4:nd<=sz:=(by have:=t.o;have:=g.o;omega);obtain⟨E,cx⟩:=aeS (j.gen+1);have g4:IntKind.i64.wrap ((j.gen:Int)+1)=(E:Int):=(by rw[ae ah3 ah3];omega);have Z:E<2^32:=ah3;rw[cx]at h;refine cG (l:=[]) (n:=0) 10 1 rfl (afD 1).symm ?_;refine ao (λm T' L'=>∃(i U:Nat) (C:List AV) (X:List Blk),m=k-i/\i<=k/\Hid (C=((gE E 0 (bs.take i)).map (fF az)).map AV.str/\U=(gE E 0 (bs.take i)).length)/\T'=[(84,.int .i64 (i:Int)),(83,.int .i64 (k:Int)),(82,.sl AL k c),(10,.gsl C U L.length 1),(9,.int .i64 (H:Int)),(8,.int .i64 (v:Int)),(5,.int .i64 (nd:Int)),(4,.int .i64 0),(0,.ptr jp 0),(1,.sl AL k c)]/\L'=L++(.spare U 1::X)) ah7 ⟨0,0,[],[],rfl,ae5 _,hid ⟨rfl,rfl⟩,rfl,ah4⟩ ?_;rintro m _ _ ⟨i,U,C,X,hm,hi,hC,rfl,rfl⟩;subst m;by_cases f:i<k
   .have g5:(i:Int)<(k:Int):=ah3;have g6:IntKind.i64.wrap ((i:Int)+1)=((i+1:Nat):Int):=(by rw[ae ah3 ah3];omega);have cs:i<AL.length:=ah3;have e1:=w.o i f;obtain⟨b,B⟩:=aeS (bs.getD i []);rw[B]at e1;have cv:b.length<=262144:=i2 b (by rw[<- B];simp[hn,f]);obtain⟨dn,a6⟩:=aeS (cj b.length);obtain⟨D,hD⟩:=aeS (((vZ E i b).map (fF az)).map AV.str);have kk1:Hid (Ctr Tryz.prog 63 [.int .i64 (E:Int),.int .i64 (i:Int),.str b] (.sl D dn none)):=@hid _ (λ{L K} q=>WV Z ah3 cv (by rw[a6,hD];exact q));have e2:=ap.o (.spare U 1::X);have a5:Hid (C++D=((gE E 0 (bs.take (i+1))).map (fF az)).map AV.str/\U+dn=(gE E 0 (bs.take (i+1))).length):=hid (by rw[Yq ah3,B,afk,afk,hD,<- hC.o.1,afc,mJ,a6,<- hC.o.2];exact⟨rfl,rfl⟩)
    have ds:D.length=dn:=(by rw[<- hD,ae6,ae6,mJ,a6]);have c9:D.all AV.one=true:=(by rw[<- hD];exact Zs _);have dk:AV.frzL D=D:=(by rw[<- hD];exact jF _);have c7:U+dn<=4095:=by have v:=a5.o.2;rw[GU]at v;have h2:=Zw bs (i+1);have h3:=g.o;omega
    have g7:(U+dn)*16<=140737488355328:=ah3;have g8:U+dn<=140737488355328:=ah3;clear hC hD a6 ap a0 bd bn h i2 w t;refine wk ?_;exact ah8 ah3 ah6 ⟨i+1,_,_,_,rfl,f,a5,rfl,rfl⟩
   .have hie:i=k:=ah3;subst hie;have g5:¬(i:Int)<(i:Int):=ah3;obtain⟨O,av⟩:=aeS ((gE E 0 bs).map (fF az));have ct:C=O.map AV.str/\U=O.length/\U=nd:=by have q:=hC.o;rw[<- hn,afo,av]at q;exact⟨q.1,by rw[q.2,<- av];simp,by rw[q.2,GU,g.o]⟩
    rw[av]at h;clear hC f;obtain⟨rfl,q2,q3⟩:=ct;subst q2;have c1:O.length=nd:=q3;have cq:yI j<=1:=(by unfold yI;split<;>omega);refine wk ?_;refine cL ?_;rw[show AV.frzL [.ptr jp 0,.int .i64 (H:Int),.gsl (O.map AV.str) nd L.length 1]=[.ptr jp 0,.int .i64 (H:Int),.sl (O.map AV.str) O.length none]by rw[<- c1];simp only[AV.frzL,AV.frz,jF]];have W:∀s∈O,s.length=128:=λs hs=>by rw[<- av]at hs;obtain⟨c,hc,rfl⟩:=ae1.1 hs;exact Ke c (Mr ⟨ah3,Z⟩ bs 0 ah3 i2 c hc).1.len
    refine Sv (ap.o _) (a0.o _) (bd.o _) (bn.o _) n1 n2 n3 n4 n5 an W ah3 (λhp=>by have:=t.o;have:=g.o;omega) (λM b9 m1 m2 m3 m4=>?_);have R:M[jp]?=some (.cells (kH dp j false)):=(by rw[m3 jp n4 n5 (by simp;have:=(aeY.1 a'.o).1;omega)];exact ap.o _);have b6:M[dp]?=some (.cells (gl lp wp (fU S H O).length cp lim false 0 x y z)):=(by rw[nW ah3,m3 dp n1 n2 (by simp;have:=(aeY.1 cy.o).1;omega)];exact a0.o _);obtain⟨p1,V⟩:=aeS (eG E 4);obtain⟨p2,a7⟩:=aeS (eG v 1);have l1:p1.length=4:=(by rw[<- V,fp]);have l2:p2.length=1:=(by rw[<- a7,fp]);obtain⟨q1,b2⟩:=aeS ([72]++p1);obtain⟨q2,cb⟩:=aeS (q1++p2);have l3:q1.length=5:=(by rw[<- b2];simp[l1]);have l4:q2.length=6:=(by rw[<- cb,afc];omega);obtain⟨sc,a8⟩:=aeS (yV az E v);have bb:oG az q2=sc:=(by rw[<- a8,yV,hdB,V,a7,<- cb,<- b2];rfl);have b1:sc.length=128:=(by rw[<- a8];exact Tr _ _);have kk1:Hid (Ctr Tryz.prog 67 [.int .u64 (E:Int),.int .i64 4] (.str p1)):=@hid _ (λ{L K} q=>mz (n:=E) (k:=4) ah3 ah3 ah3 (by rw[V];exact q));have kk2:Hid (Ctr Tryz.prog 67 [.int .u64 (v:Int),.int .i64 1] (.str p2)):=@hid _ (λ{L K} q=>mz (n:=v) (k:=1) ah3 ah3 ah3 (by rw[a7];exact q));have kk3:Hid (Ctr Tryz.prog 66 [.str q2] (.str sc)):=@hid _ (λ{L K} q=>Y1 ah3 (by rw[bb];exact q));have w1:=O8 (n:=E) ah3;have w2:=O8 (n:=v) ah3;have d:((yI j+1:Nat):Int)<=lim:=(by have:=t.o;omega);have u:yI j+1<=(fU S H O).length:=(by rw[nW ah3];omega);have P:(fU S H O).length<=8192:=by rw[nW ah3];exact an
    have key:∀hd:Nat,yI j=hd->∀(r:List Blk) (G:Nat),r[lp]?=some (.cells ((fU (fU S H O) hd [sc]).map AV.str))->r[wp]?=some (.map [] G)->(∀j,j≠lp->j≠wp->j<M.length->r[j]?=M[j]?)->M.length<=r.length->r[jp]?=some (.cells (kH dp j false))/\K (.int .i64 0) (r.set jp (.cells (kH dp ⟨E,v,hd,nd,i⟩ false))):=λhd e r G r1 r2 r3 r4=>by have c8:=(aeY.1 a'.o).1;have dt:L.length<=M.length:=(by simp at m4;omega);have ad:r[jp]?=some (.cells (kH dp j false)):=(by rw[r3 jp n4 n5 ah3];exact R);refine⟨ad,?_⟩;rw[e,hn,<- g.o,a8]at h;refine h.o _ G (afy ah3) (by rw[ae4 n4];exact r1) (by rw[ae4 n5];exact r2) (λa a1 a2 a3 a4=>?_) (by simp;omega);rw[ae4 (Ne.symm a1),r3 a a2 a3 ah3,m3 a a2 a3 (by simp;omega),ae3 a4]
    replace key:=hid key;have N:=hid (And.intro m1 m2);have I:=hid b6;clear m1 m2 m3 m4 h V a7 a8 bb W ap a0 bd bn g t w i2 hq cd b7 b5 cf b4 b6 J ab al bx Q;by_cases ca:j.slot=0
    .have hhd:yI j=1:=if_pos ca;rw[hhd]at d u;refine wk ?_;refine Sv (a:=1) (ss:=[sc]) (S:=fU S H O) R I.o N.o.1 N.o.2 n1 n2 n3 n4 n5 P (λs hs=>by rw[afl]at hs;rw[hs];exact b1) u (λ_=>d) (λr G r1 r2 r3 r4=>?_);obtain⟨ad,hK⟩:=key.o 1 hhd r G r1 r2 r3 r4;have A:=(aeY.1 ad).1;have c0:∀b:Blk,(r.set jp b)[jp]?=some b:=λb=>afy A
     have co:∀b c:Blk,((r.set jp b).set jp c)[jp]?=some c:=λb c=>afy (by simp;exact A)
     have c3:∀b c:Blk,(r.set jp b).set jp c=r.set jp c:=λb c=>ahc _
     replace hK:=hid hK;clear key r1 r2 r3 r4 R I N kk1 kk2 kk3;refine wk ?_;exact ag hK.o
    .have hhd:yI j=0:=if_neg ca;rw[hhd]at d u;refine wk ?_;refine Sv (a:=0) (ss:=[sc]) (S:=fU S H O) R I.o N.o.1 N.o.2 n1 n2 n3 n4 n5 P (λs hs=>by rw[afl]at hs;rw[hs];exact b1) u (λ_=>d) (λr G r1 r2 r3 r4=>?_);obtain⟨ad,hK⟩:=key.o 0 hhd r G r1 r2 r3 r4;have A:=(aeY.1 ad).1;have c0:∀b:Blk,(r.set jp b)[jp]?=some b:=λb=>afy A
     have co:∀b c:Blk,((r.set jp b).set jp c)[jp]?=some c:=λb c=>afy (by simp;exact A)
     have c3:∀b c:Blk,(r.set jp b).set jp c=r.set jp c:=λb c=>ahc _
     replace hK:=hid hK;clear key r1 r2 r3 r4 R I N kk1 kk2 kk3;refine wk ?_;exact ag hK.o
end
set_option maxHeartbeats 8000000
set_option maxRecDepth 100000
section
variable {L:List Blk}{jp dp lp wp ck:Nat}{cp:Option Nat}{lim:Int}{x y z:AV}{S:List Sec}{j:Jst}
theorem abS(t:L[jp]?=some (.cells (kH dp j false)))(hd:L[dp]?=some (.cells (gl lp wp S.length cp lim false 0 x y z)))(r:2<=S.length)(g:S.length<=8192)(w:j.half<=1)(C:j.used<=10000)(v:0<=lim)(s:lim<=9000){K:aeX}(h:K (.int .i64 (qI S.length (if(S.length:Int)<lim then(S.length:Int)else lim) j)) L):aeW 48 [.ptr jp 0] L K:=by
 obtain⟨rm,c⟩:=aeS ((if(S.length:Int)<lim then(S.length:Int)else lim));have A:0<=rm/\rm<=9000:=by rw[<- c];split<;>omega
 obtain⟨sz,b⟩:=aeS (aQ S.length);obtain⟨i,d⟩:=aeS (aM S.length j.half);have n:sz<=4095:=by rw[<- b];unfold aQ;omega
 have p:i<=9000:=by rw[<- d];unfold aM;rw[b];rcases(by omega:j.half=0\/j.half=1)with e|e<;>rw[e]<;>omega
 have kk1:Hid (∀{K:aeX},K (.int .i64 (sz:Int)) L->aeW 54 [.ptr jp 0] L K):=@hid _ (λ{K} q=>L8 t hd r g (by rw[b];exact q));have kk2:Hid (∀{K:aeX},K (.int .i64 (i:Int)) L->aeW 56 [.ptr jp 0,.int .i64 (j.half:Int)] L K):=@hid _ (λ{K} q=>Ma t hd r g w (by rw[d];exact q));have kk3:Hid (∀{K:aeX},K (.int .i64 rm) L->aeW 65 [.ptr dp 0] L K):=@hid _ (λ{K} q=>SI hd (by rw[c];exact q));unfold qI at h;rw[c,b,d]at h;obtain⟨a,k⟩:=aeS (rm-(i:Int));have g1:IntKind.i64.wrap (rm-(i:Int))=a:=by rw[k];exact ae ah3 ah3
 rw[k]at h;obtain⟨m,l⟩:=aeS (min (sz:Int) a);have B:(if a<(sz:Int)then a else(sz:Int))=m:=by rw[<- l];split<;>omega
 rw[l]at h;obtain⟨u,f⟩:=aeS (m-(j.used:Int));have g3:IntKind.i64.wrap (m-(j.used:Int))=u:=by rw[f];exact ae ah3 ah3
 rw[f]at h;have g4:(if u>0 then u else 0)=max 0 u:=by split<;>omega
 rw[<- g4]at h;replace h:=hid h;clear hd c b d l f k g4;refine aeV ta ?_;exact ag h.o
theorem XR(O:L[jp]?=some (.cells (kH dp j false)))(hd:L[dp]?=some (.cells (gl lp wp S.length cp lim false 0 x y z)))(hl:L[lp]?=some (.cells (S.map AV.str)))(hw:L[wp]?=some (.map [] ck))(n1:dp≠lp)(n2:dp≠wp)(n3:lp≠wp)(n4:jp≠lp)(R:jp≠wp)(n6:jp≠dp)(H:S.length<=8192)(h4:4<=S.length)(hh:j.half<=1)(hu:j.used<=10000)(W:0<=lim)(J:lim<=9000)(A:1<=j.gen/\j.gen<2^32)(av:j.n<=10000){b:List UInt8}{K:aeX}(h:∀M f,M[jp]?=some (.cells (kH dp (iK az S (if(S.length:Int)<lim then(S.length:Int)else lim) j b).2.1 false))->M[lp]?=some (.cells ((iK az S (if(S.length:Int)<lim then(S.length:Int)else lim) j b).2.2.map AV.str))->M[wp]?=some (.map [] f)->(∀i,i≠jp->i≠lp->i≠wp->i<L.length->M[i]?=L[i]?)->L.length<=M.length->K (.int .i64 (iK az S (if(S.length:Int)<lim then(S.length:Int)else lim) j b).1) M):
  aeW 28 [.ptr jp 0,.str b] L K:=by
 obtain⟨rm,m⟩:=aeS ((if(S.length:Int)<lim then(S.length:Int)else lim));rw[m]at h;have u:=hid O;have al:=hid hd;have B:=hid hl;have D:=hid hw;clear hl hw;by_cases k:262144<b.length;have g1:(262144:Int)<(b.length:Int):=ah3;have e:iK az S rm j b=(5,j,S):=if_pos k;have U:Hid (K (.int .i64 5) L):=hid (by have:=h L ck (by rw[e];exact u.o) (by rw[e];exact B.o) D.o (λ_ _ _ _ _=>rfl) (ae0 _);rw[e]at this;exact this)
 clear h e hd;refine aeV dg ?_;exact ag U.o;have g1:¬(262144:Int)<(b.length:Int):=ah3;obtain⟨p,w⟩:=aeS (cj b.length);have a0:p<=2384:=by rw[<- w];unfold cj;omega
 have ap:1<=p:=by rw[<- w];unfold cj;omega
 obtain⟨Y,d⟩:=aeS (qI S.length rm j);have kk1:Hid (Ctr Tryz.prog 62 [.int .i64 (b.length:Int)] (.int .i64 (p:Int))):=@hid _ (λ{L K} q=>Vj (n:=b.length) ah3 (by rw[w];exact q));have kk2:Hid (∀{K:aeX},K (.int .i64 Y) L->aeW 48 [.ptr jp 0] L K):=@hid _ (λ{K} q=>abS O hd ah3 H hh hu W J (by rw[m,d];exact q));by_cases v:Y<(p:Int);have e:iK az S rm j b=(11,j,S):=by unfold iK;rw[if_neg k,d,w,if_pos v]
 have U:Hid (K (.int .i64 11) L):=hid (by have:=h L ck (by rw[e];exact u.o) (by rw[e];exact B.o) D.o (λ_ _ _ _ _=>rfl) (ae0 _);rw[e]at this;exact this)
 clear h e hd w d m;refine aeV dg ?_;exact ag U.o;have F:(j.used:Int)+p<=aQ S.length/\(aM S.length j.half:Int)+j.used+p<=rm:=by unfold qI at d;omega
 have ad:rm<=lim:=by rw[<- m];split<;>omega
 obtain⟨I,r⟩:=aeS ((vZ j.gen j.n b).map (fF az));have N:I.length=p:=by rw[<- r,ae6,mJ,w]
 have P:aM S.length j.half+aQ S.length<=S.length:=by unfold aM aQ;rcases(by omega:j.half=0\/j.half=1)with e|e<;>rw[e]<;>omega
 obtain⟨Q,E⟩:=aeS (aM S.length j.half);have e:iK az S rm j b=(0,{j with used:=j.used+p,n:=j.n+1},fU S (Q+j.used) I):=by unfold iK;rw[if_neg k,d,w,if_neg v,r,E]
 rw[e]at h;rw[E]at P F;have kk3:Hid (∀{K:aeX},K (.int .i64 (Q:Int)) L->aeW 56 [.ptr jp 0,.int .i64 (j.half:Int)] L K):=@hid _ (λ{K} q=>Ma O hd ah3 H hh (by rw[E];exact q));obtain⟨V,G⟩:=aeS (I.map AV.str);have kk4:Hid (Ctr Tryz.prog 63 [.int .i64 (j.gen:Int),.int .i64 (j.n:Int),.str b] (.sl V p none)):=@hid _ (λ{L K} q=>WV A.2 ah3 ah3 (by rw[w,r,G];exact q));obtain⟨t,C⟩:=aeS (Q+j.used);have g3:IntKind.i64.wrap ((Q:Int)+(j.used:Int))=(t:Int):=by rw[ae ah3 ah3];omega
 have g4:IntKind.i64.wrap ((j.used:Int)+(p:Int))=((j.used+p:Nat):Int):=by rw[ae ah3 ah3];omega
 have g5:IntKind.i64.wrap ((j.n:Int)+1)=((j.n+1:Nat):Int):=by rw[ae ah3 ah3];omega
 have g6:¬Y<(p:Int):=v;have ab:V.length=p:=by rw[<- G,ae6,N]
 rw[C]at h;have l:∀s∈I,s.length=128:=λs hs=>by rw[<- r]at hs;obtain⟨c,hc,rfl⟩:=ae1.1 hs;exact Ke c (QP A ah3 ah3 c hc).len
 have kL:Hid (∀{K:aeX},(∀(M:List Blk) (f:Nat),M[lp]?=some (.cells ((fU S t I).map AV.str))->M[wp]?=some (.map [] f)->(∀j,j≠lp->j≠wp->j<L.length->M[j]?=L[j]?)->L.length<=M.length->K (.int .i64 0) M)->aeW 64 [.ptr jp 0,.int .i64 (t:Int),.sl V p none] L K):=@hid _ (λ{K} q=>by have:=Sv (c:=none) O hd B.o D.o n1 n2 n3 n4 R H (a:=t) (ss:=I) l ah3 (λ_=>ah3) (K:=K) q;rw[G,N]at this;exact this)
 replace h:=hid h;replace C:=hid C;replace F:=hid F;clear e d v;refine aeV dg ?_;refine kL.o λM f Z m2 X m4=>?_
 have T:M[jp]?=some (.cells (kH dp j false)):=by rw[X jp n4 R (aeY.1 u.o).1];exact u.o
 have g:=(aeY.1 T).1;have hK:=hid (h.o (M.set jp (.cells (kH dp ⟨j.gen,j.half,j.slot,j.used+p,j.n+1⟩ false))) f (afy g) (by rw[ae4 n4];exact Z) (by rw[ae4 R];exact m2) (λi a1 a2 a3 a4=>by rw[ae4 (Ne.symm a1)];exact X i a2 a3 a4) (by simp;exact m4));have an:∀b:Blk,(M.set jp b)[jp]?=some b:=λb=>afy g
 have ai:∀b c:Blk,((M.set jp b).set jp c)[jp]?=some c:=λb c=>afy (by simp;exact g)
 have a5:∀b c:Blk,(M.set jp b).set jp c=M.set jp c:=λb c=>ahc _
 clear h kL Z m2 X m4 kk1 kk2 kk3 kk4 O hd l;refine wk ?_;exact ag hK.o
end
end Go.Proofs.YtajkbcmleihaoaaGreatDoor.Av
