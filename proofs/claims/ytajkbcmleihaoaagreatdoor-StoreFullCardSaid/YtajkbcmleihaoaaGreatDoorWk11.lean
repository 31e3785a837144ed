/- Joined texts of the walk, made small by a program. -/
import Derived.Test.YtajkbcmleihaoaaGreatDoorWk10
import Derived.Test.YtajkbcmleihaoaaGreatDoorWk4
import Derived.Test.YtajkbcmleihaoaaGreatDoorRows
import Derived.KernelRfl
import Derived.Test.YtajkbcmleihaoaaGreatDoorWk5
import Derived.Test.YtajkbcmleihaoaaGreatDoorWk7
set_option linter.unusedSimpArgs false
set_option linter.unusedVariables false
namespace Go.Proofs.YtajkbcmleihaoaaGreatDoor.Av
open Go
abbrev Sec:=List UInt8
structure Jst where
 gen:Nat
 half:Nat
 slot:Int
 used:Nat
 n:Nat
def aQ(N:Nat):Nat:=(N-2)/2
def aJ(N half:Nat):Nat:=2+half*aQ N
def fM(S:List Sec)(k:Nat)(ss:List Sec):List Sec:=S.take k++(ss++S.drop (k+ss.length))
def bm(bs:List (List UInt8)):Nat:=(bs.map λb=>cC b.length).sum
theorem nr{S ss:List Sec}{k:Nat}(h:k+ss.length<=S.length):(fM S k ss).length=S.length:=by simp[fM];omega
theorem LE{S ss:List Sec}{k i:Nat}(h:k+ss.length<=S.length)(a:k<=i)(b:i<k+ss.length):(fM S k ss)[i]?=ss[i-k]?:=by unfold fM;rw[aey (by simp;omega),afg,af7 ahd,aem ahd]
theorem jh{S ss:List Sec}{k i:Nat}(h:k+ss.length<=S.length)(a:i<k\/k+ss.length<=i):(fM S k ss)[i]?=S[i]?:=by unfold fM;rcases a with a|a;rw[aem (by simp;omega),aeS a];rw[aey (by simp;omega),afg,af7 ahd,aey ahd,aeX];congr 1;omega
theorem Zb{S ss:List Sec}{k:Nat}(h:k+ss.length<=S.length):((fM S k ss).drop k).take ss.length=ss:=by unfold fM;rw[List.drop_left' (by simp;omega),List.take_left]
section
variable (sum:List UInt8->Nat)
def ym(j:Jst):Nat:=if j.slot=0 then 1 else 0
def aX(S:List Sec)(room:Int)(j:Jst)(bs:List (List UInt8)):Int×Jst×List Sec :=
 if bs.any (λb=>decide (262144<b.length))=true then(5,j,S)else
 if aQ S.length<bm bs\/room<2\/(0<bm bs/\room<((aJ S.length (1-j.half)+bm bs:Nat):Int))\/4294967295<=j.gen then(11,j,S)else
 (0,⟨j.gen+1,1-j.half,ym j,bm bs,bs.length⟩,fM (fM S (aJ S.length (1-j.half)) ((gm (j.gen+1) 0 bs).map (ft sum))) (ym j) [yC sum (j.gen+1) (1-j.half)])
def nq(N:Nat)(room:Int)(j:Jst):Int:=max 0 (min (aQ N:Int) (room-aJ N j.half)-j.used)
def io(S:List Sec)(room:Int)(j:Jst)(b:List UInt8):Int×Jst×List Sec :=
 if 262144<b.length then(5,j,S)else
 if nq S.length room j<cC b.length then(11,j,S)else
 (0,{j with used:=j.used+cC b.length,n:=j.n+1},fM S (aJ S.length j.half+j.used) ((vI j.gen j.n b).map (ft sum)))
structure adh(S:List Sec)(j:Jst):Prop where
 n4:4<=S.length
 half:j.half<=1
 slot:j.slot=-1\/j.slot=0\/j.slot=1
 hd:∀(i:Nat) (s:Sec),i<2->S[i]?=some s->∀g h,rdH sum s=some (g,h)->g<=j.gen
 cel:∀(i:Nat) (s:Sec),2<=i->i<2+2*aQ S.length->S[i]?=some s->∀c,rdC sum s=some c->c.gen<=j.gen
structure Qx(S:List Sec)(j:Jst)(recs:List (List UInt8)):Prop where
 n4:4<=S.length
 half:j.half<=1
 gen:1<=j.gen/\j.gen<2^32
 slot:j.slot=0\/j.slot=1
 hd:S[j.slot.toNat]?=some (yC sum j.gen j.half)
 oh:∀(s:Sec),S[1-j.slot.toNat]?=some s->∀g h,rdH sum s=some (g,h)->g<j.gen
 row:((S.drop (aJ S.length j.half)).take j.used)=(gm j.gen 0 recs).map (ft sum)
 used:j.used=bm recs/\j.used<=aQ S.length
 n:j.n=recs.length
 bd:∀b∈recs,b.length<=262144
 rest:∀(i:Nat) (s:Sec),2<=i->i<2+2*aQ S.length->i<aJ S.length j.half\/aJ S.length j.half+j.used<=i->S[i]?=some s->∀c,rdC sum s=some c->c.gen<j.gen
variable {sum}
theorem Gz(gen:Nat):∀(bs:List (List UInt8)) (k:Nat),(gm gen k bs).length=bm bs
 |[],_=>rfl
 |b::bs,k=>by rw[gm,aez,lY,Gz gen bs];simp[bm]
theorem Qu(gen:Nat):∀(bs cs:List (List UInt8)) (k:Nat),gm gen k (bs++cs)=gm gen k bs++gm gen (k+bs.length) cs
 |[],cs,k=>by simp[gm]
 |b::bs,cs,k=>by rw[ae6,gm,gm,Qu gen bs,aew,aeB,show k+1+bs.length=k+(bs.length+1)by omega]
theorem LY{gen:Nat}(d:1<=gen/\gen<2^32):∀(bs:List (List UInt8)) (k:Nat),k+bs.length<=2^32->(∀b∈bs,b.length<=262144)->∀c∈gm gen k bs,Ww c/\c.gen=gen
 |[],_,_,_,c,a=>by cases a
 | b::bs,k,hk,hb,c,a=>by
   rw[aeB]at hk;rw[gm,aen]at a;rcases a with a|a
   .refine⟨Qn d ahd (hb b ahe) c a,?_⟩;have:∀(n i:Nat) (b:List UInt8) (p:Nat),∀c∈kM gen k p n i b,c.gen=gen:=by
     intro n;induction n with
     |zero=>intro i b p c a;cases a
     | succ n ih =>
       intro i b p c a;rw[kM,aeJ]at a;rcases a with rfl|a
       .rfl
       .exact ih _ _ _ c a
    exact this _ _ _ _ c a
   .exact LY d bs (k+1) ahd (λx e=>hb x (by simp[e])) c a
theorem abO(a:∀s,sum s<2^32){gen:Nat}(f:1<=gen/\gen<2^32){bs:List (List UInt8)}{k:Nat}(d:k+bs.length<=2^32)(e:∀b∈bs,b.length<=262144):((gm gen k bs).map (ft sum)).map (rdC sum)=(gm gen k bs).map some:=by
 rw[aeH];refine afk λc g=>?_
 exact VT a (LY f bs k d e c g).1
theorem lP:∀bs:List (List UInt8),bs.length<=bm bs
 |[]=>aek _
 |b::bs=>by have a:=lP bs;have c:=GN b.length;simp only[bm,aex,agl,aeB]at *;omega
theorem Qx.recs(m:∀s,sum s<2^32){S:List Sec}{j:Jst}{recs:List (List UInt8)}(h:Qx sum S j recs)(v:S.length<=8192):gg (rdC sum) j.gen (aQ S.length) ((S.drop (aJ S.length j.half)).take (aQ S.length)) []=recs:=by
 have w:=lP recs;have l:=h.used;have o:aQ S.length=(S.length-2)/2:=rfl;obtain⟨e,k⟩:∃e,(S.drop (aJ S.length j.half)).take (aQ S.length)=(gm j.gen 0 recs).map (ft sum)++e:=by
  refine⟨((S.drop (aJ S.length j.half)).take (aQ S.length)).drop j.used,?_⟩;rw[<- h.row]
  conv=>lhs;rw[<- afH j.used ((S.drop (aJ S.length j.half)).take (aQ S.length))]
  rw[List.take_take,af7 l.2]
 have g:((gm j.gen 0 recs).map (ft sum)).length=j.used:=by rw[aeu,Gz,l.1]
 rw[k];have:=SX (f:=rdC sum) (gen:=j.gen) recs [] ((gm j.gen 0 recs).map (ft sum)) e (aQ S.length) (abO m h.gen (by simp;omega) h.bd) (by
  intro s t d c r q;have n:e[0]?=some s:=(by rw[d];rfl);have a:((S.drop (aJ S.length j.half)).take (aQ S.length))[j.used]?=some s:=(by rw[k,aey ahd,g,afW];exact n);have b:j.used<aQ S.length:=by rcases aeN j.used (aQ S.length)with q|q;exact q;rw[afb (by simp;omega)]at a;cases a
  rw[aeS b,aeX]at a;have u:=h.half;have i:aJ S.length j.half=2+j.half*aQ S.length:=rfl;have p:j.half=0\/j.half=1:=ahd;have:=h.rest _ s ahd (by rcases p with q|q<;>rw[i,q]<;>omega) (.inr (aek _)) a c r;omega) ahd
 simpa using this
theorem Q5(K:∀s,sum s<2^32){S:List Sec}{room:Int}{j:Jst}{bs:List (List UInt8)}(h:adh sum S j)(M:S.length<=8192)(l:(aX sum S room j bs).1=0):
  Qx sum (aX sum S room j bs).2.2 (aX sum S room j bs).2.1 bs/\(aX sum S room j bs).2.2.length=S.length:=by
 unfold aX at l⊢;by_cases w:bs.any (λb=>decide (262144<b.length))=true;rw[if_pos w]at l;cases l;rw[if_neg w]at l⊢;by_cases p:aQ S.length<bm bs\/room<2\/(0<bm bs/\room<((aJ S.length (1-j.half)+bm bs:Nat):Int))\/4294967295<=j.gen;rw[if_pos p]at l;cases l;rw[if_neg p];simp only[not_or,Nat.not_lt]at p;obtain⟨E,N,L,P⟩:=p;have t:∀b∈bs,b.length<=262144:=λb t=>by rcases aeN 262144 b.length with q|q;exact absurd (afP.2 ⟨b,t,decide_eq_true q⟩) w;exact q
 have O:=h.half;have n4:=h.n4;have F:aQ S.length=(S.length-2)/2:=rfl;obtain⟨a,r⟩:=aec (1-j.half);rw[r];have y:a<=1:=ahd;have x:aJ S.length a=2+a*aQ S.length:=rfl;have G:aJ S.length a+aQ S.length<=S.length/\2<=aJ S.length a:=by rw[x];have:a=0\/a=1:=ahd;rcases this with rfl|rfl<;>omega
 obtain⟨sl,m⟩:=aec (ym j);have I:sl=0\/sl=1:=by rw[<- m];unfold ym;split<;>simp
 rw[m];have C:1<=j.gen+1/\j.gen+1<2^32:=ahd;have v:((gm (j.gen+1) 0 bs).map (ft sum)).length=bm bs:=by rw[aeu,Gz]
 have H:=lP bs;have l1:=nr (S:=S) (ss:=(gm (j.gen+1) 0 bs).map (ft sum)) (k:=aJ S.length a) ahd;obtain⟨f,d⟩:=aec (fM S (aJ S.length a) ((gm (j.gen+1) 0 bs).map (ft sum)));rw[d]at l1⊢;have n:=nr (S:=f) (ss:=[yC sum (j.gen+1) a]) (k:=sl) (by simp;omega);have A:∀i,2<=i->(fM f sl [yC sum (j.gen+1) a])[i]?=f[i]?:=λi u=>jh (by simp;omega) (.inr (by simp;omega))
 refine⟨⟨by rw[n];omega,y,C,by simp only;omega,?_,?_,?_,by simp only;rw[n,l1];exact⟨trivial,E⟩,rfl,t,?_⟩,by rw[n,l1]⟩;show(fM f sl _)[((sl:Nat):Int).toNat]?=_;rw[Int.toNat_natCast,LE (by simp;omega) (aek _) ahe,afW];rfl;intro s e g B q;have z:(fM f sl [yC sum (j.gen+1) a])[1-sl]?=some s:=by simpa using e
 rw[jh (by simp;omega) (by simp;omega),<- d,jh ahd (.inl ahd)]at z;have:=h.hd _ s ahd z g B q;simp only;omega;simp only;rw[n,l1];have D:(fM f sl [yC sum (j.gen+1) a]).drop (aJ S.length a)=f.drop (aJ S.length a):=by apply afj;intro i;rw[aeX,aeX,A _ ahd]
 rw[D,<- d,<- v];exact Zb ahd;intro i s u o hr e c J;simp only at hr⊢;rw[n,l1]at hr o;rw[A i u,<- d,jh ahd ahd]at e;have:=h.cel i s u o e c J;omega
theorem Qx.old(f:∀s,sum s<2^32){S:List Sec}{j:Jst}{recs:List (List UInt8)}(h:Qx sum S j recs)(u:S.length<=8192):adh sum S j:=by
 have p:=h.slot;refine⟨h.n4,h.half,.inr h.slot,λi s m e g n q=>?_,λi s m a e c b=>?_⟩;by_cases c:i=j.slot.toNat;rw[c,h.hd]at e;cases e;rw[RK f h.gen h.half]at q;cases q;exact aek _;have:i=1-j.slot.toNat:=ahd;rw[this]at e;exact Nat.le_of_lt (h.oh s e g n q);by_cases r:i<aJ S.length j.half\/aJ S.length j.half+j.used<=i;exact Nat.le_of_lt (h.rest i s m a r e c b);simp only[not_or,Nat.not_lt,Nat.not_le]at r;have v:=lP recs;have t:=h.used;have o:aQ S.length=(S.length-2)/2:=rfl;have l:((S.drop (aJ S.length j.half)).take j.used)[i-aJ S.length j.half]?=some s:=by rw[aeS ahd,aeX,show aJ S.length j.half+(i-aJ S.length j.half)=i by omega];exact e
 rw[h.row,ae8]at l;obtain⟨d,hd,rfl⟩:=aeK.1 l;have k:=LY h.gen recs 0 (by simp;omega) h.bd d (afi hd);rw[VT f k.1]at b;cases b;exact Nat.le_of_eq k.2
theorem abL(H:∀s,sum s<2^32){S:List Sec}{room:Int}{j:Jst}{recs:List (List UInt8)}{b:List UInt8}(h:Qx sum S j recs)(I:S.length<=8192)(a:(io sum S room j b).1=0):
  Qx sum (io sum S room j b).2.2 (io sum S room j b).2.1 (recs++[b])/\(io sum S room j b).2.2.length=S.length:=by
 unfold io at a⊢;by_cases y:262144<b.length;rw[if_pos y]at a;cases a;rw[if_neg y]at a⊢;by_cases v:nq S.length room j<cC b.length;rw[if_pos v]at a;cases a;rw[if_neg v];have J:=GN b.length;have F:=h.used;have E:=h.half;have n4:=h.n4;have u:=h.slot;have B:aQ S.length=(S.length-2)/2:=rfl;have t:j.used+cC b.length<=aQ S.length:=by unfold nq at v;omega
 have w:aJ S.length j.half=2+j.half*aQ S.length:=rfl;have p:aJ S.length j.half+aQ S.length<=S.length/\2<=aJ S.length j.half:=by rw[w];have:j.half=0\/j.half=1:=ahd;rcases this with q|q<;>rw[q]<;>omega
 obtain⟨f,d⟩:=aec (aJ S.length j.half);have D:((vI j.gen j.n b).map (ft sum)).length=cC b.length:=by rw[aeu,lY]
 rw[d]at p⊢;have l1:=nr (S:=S) (ss:=(vI j.gen j.n b).map (ft sum)) (k:=f+j.used) ahd;have m:=h.row;rw[d]at m;refine⟨⟨by rw[l1];omega,E,h.gen,u,?_,?_,?_,?_,by simp[h.n],?_,?_⟩,l1⟩;simp only;rw[jh ahd (.inl ahd)];exact h.hd;intro s e g z q;simp only at e⊢;rw[jh ahd (.inl ahd)]at e;exact h.oh s e g z q;simp only;rw[l1,d,Qu,aeD,<- m,afE,<- h.n];have A:gm j.gen j.n [b]=vI j.gen j.n b:=by simp[gm]
 rw[A];apply afj;intro i;rcases aeN i (j.used+cC b.length)with q|q;rw[aeS q,aeX];rcases aeN i j.used with r|r;rw[jh ahd (.inl ahd),aem (by simp;omega),aeS r,aeX];rw[LE ahd ahd ahd,aey (by simp;omega)];congr 1;simp;omega;rw[afb (by simp;omega),afb (by simp[lY];omega)];simp only;rw[l1];refine⟨?_,t⟩;rw[F.1];simp[bm];intro x l;rcases aen.1 l with l|l;exact h.bd x l;rw[aeG.1 l];omega;intro i s C o hr e c G;simp only at hr⊢;rw[l1]at o;rw[l1,d]at hr;rw[jh ahd ahd]at e;exact h.rest i s C o (by rw[d];omega) e c G
end
section
variable (sum:List UInt8->Nat)
def Gc(a:Nat×Nat×Nat×Int)(i:Nat)(s:Sec):Nat×Nat×Nat×Int:=match rdH sum s with
 |none=>a
 |some (g,h)=>(max a.1 g,if a.2.1<g then(g,h,(i:Int))else a.2)
def vL(S:List Sec):Nat×Nat×Nat×Int:=Gc sum (Gc sum (0,0,1,-1) 0 (S.getD 0 [])) 1 (S.getD 1 [])
def qp(m:Nat)(l:List Sec):Nat:=l.foldl (λm s=>match rdC sum s with|none=>m|some c=>max m c.gen) m
def bB(S:List Sec):Jst×List (List UInt8):=
 (⟨qp sum (vL sum S).1 ((S.drop 2).take (2 * aQ S.length)),(vL sum S).2.2.1,(vL sum S).2.2.2,0,0⟩,
  if 0<=(vL sum S).2.2.2 then gg (rdC sum) (vL sum S).2.1 (aQ S.length) ((S.drop (aJ S.length (vL sum S).2.2.1)).take (aQ S.length)) []else[])
variable {sum}
theorem Pz:∀(l:List Sec) (m:Nat),m<=qp sum m l/\∀s∈l,∀c,rdC sum s=some c->c.gen<=qp sum m l
 |[],m=>⟨aek _,λs h=>by cases h⟩
 | x::l,m=>by
   have e:qp sum m (x::l)=qp sum (match rdC sum x with|none=>m|some c=>max m c.gen) l:=rfl;rw[e];obtain⟨g,f⟩:=Pz l (match rdC sum x with|none=>m|some c=>max m c.gen);cases hx:rdC sum x with
   | none =>
     rw[hx]at g f;simp only at g f⊢;refine⟨g,λs a c b=>?_⟩;rcases aeJ.1 a with rfl|a
     .rw[hx]at b;cases b
     .exact f s a c b
   | some d =>
     rw[hx]at g f;simp only at g f⊢;refine⟨ahd,λs a c b=>?_⟩;rcases aeJ.1 a with rfl|a
     .rw[hx]at b;cases b;omega
     .exact f s a c b
theorem Tl{B:Nat}:∀(l:List Sec) (m:Nat),m<=B->(∀s∈l,∀c,rdC sum s=some c->c.gen<=B)->qp sum m l<=B
 |[],m,h,_=>h
 | x::l,m,h,h2=>by
   have e:qp sum m (x::l)=qp sum (match rdC sum x with|none=>m|some c=>max m c.gen) l:=rfl;rw[e];refine Tl l _ ?_ (λs a=>h2 s (by simp[a]));cases hx:rdC sum x with
   |none=>exact h
   |some c=>have:=h2 x ahe c hx;simp only;omega
theorem abk{S:List Sec}(f:∀(s:Sec) g h,rdH sum s=some (g,h)->h<=1):(vL sum S).2.2.1<=1/\((vL sum S).2.2.2=-1\/(vL sum S).2.2.2=0\/(vL sum S).2.2.2=1)/\∀(i:Nat) (s:Sec),i<2->S[i]?=some s->∀g h,rdH sum s=some (g,h)->g<=(vL sum S).1:=by
 obtain⟨a,k⟩:=aec (S.getD 0 []);obtain⟨b,d⟩:=aec (S.getD 1 []);have key:∀(i:Nat) (s:Sec),i<2->S[i]?=some s->i=0/\s=a\/i=1/\s=b:=by intro i s c e;have:i=0\/i=1:=ahd;rcases this with rfl|rfl;exact .inl ⟨rfl,by rw[<- k,aeA,e];rfl⟩;exact .inr ⟨rfl,by rw[<- d,aeA,e];rfl⟩
 unfold vL;rw[k,d];unfold Gc;rcases ea:rdH sum a with _|⟨n,p⟩<;>rcases eb:rdH sum b with _|⟨m,o⟩<;>simp only;exact⟨ahe,ahe,λi s c e g h q=>by rcases key i s c e with⟨_,rfl⟩|⟨_,rfl⟩<;>simp_all⟩;have j:=f _ _ _ eb;refine⟨?_,?_,λi s c e g h q=>?_⟩;split<;>simp<;>omega;split<;>simp;rcases key i s c e with⟨_,rfl⟩|⟨_,rfl⟩;rw[ea]at q;cases q;rw[eb]at q;cases q;omega;have j:=f _ _ _ ea;refine⟨?_,?_,λi s c e g h q=>?_⟩;split<;>simp<;>omega;split<;>simp;rcases key i s c e with⟨_,rfl⟩|⟨_,rfl⟩;rw[ea]at q;cases q;omega;rw[eb]at q;cases q;have j:=f _ _ _ ea;have l:=f _ _ _ eb;refine⟨?_,?_,λi s c e g h q=>?_⟩;split<;>split<;>simp<;>omega;split<;>split<;>simp;rcases key i s c e with⟨_,rfl⟩|⟨_,rfl⟩;rw[ea]at q;cases q;omega;rw[eb]at q;cases q;omega
theorem Pf{s:Sec}{g h:Nat}(e:rdH sum s=some (g,h)):h<=1/\1<=g:=by unfold rdH at e;split at e;cases e;split at e;cases e;rename_i q;simp only[not_or]at q;simp only[aej,aet]at e;omega
theorem WI{S:List Sec}(h4:4<=S.length):adh sum S (bB sum S).1:=by obtain⟨f,j,k⟩:=abk (S:=S) (λs g h e=>(Pf e).1);have a:=Pz (sum:=sum) ((S.drop 2).take (2*aQ S.length)) (vL sum S).1;refine⟨h4,f,j,λi s b e g h q=>aeR (k i s b e g h q) a.1,λi s b l e c d=>a.2 s ?_ c d⟩;apply afi (i:=i-2);rw[aeS ahd,aeX,show 2+(i-2)=i by omega];exact e
theorem WJ(a:∀s,sum s<2^32){S:List Sec}{j:Jst}{recs:List (List UInt8)}(h:Qx sum S j recs)(o:S.length<=8192):bB sum S=(⟨j.gen,j.half,j.slot,0,0⟩,recs):=by
 have d:=h.slot;have h4:=h.n4;have w:=h.gen;have r:=h.old a o;have hd:=h.hd;have t:vL sum S=(j.gen,j.gen,j.half,j.slot):=by unfold vL Gc;rcases d with e|e;rw[e]at hd;have n:S.getD 0 []=yC sum j.gen j.half:=(by rw[aeA];rw[show(0:Int).toNat=0 from rfl]at hd;rw[hd];rfl);rw[n,RK a h.gen h.half];simp only;rcases e1:rdH sum (S.getD 1 [])with _|⟨g,k⟩;simp only;rw[if_pos ahd,e];simp;simp only;have l:S[1]?=some (S.getD 1 []):=(by rw[aeA,aeF ahd];rfl);have:=h.oh (S.getD 1 []) (by rw[e];exact l) g k e1;rw[if_pos (show 0<j.gen by omega)];simp only;rw[if_neg ahd,e];simp;omega;rw[e]at hd;have n:S.getD 1 []=yC sum j.gen j.half:=(by rw[aeA];rw[show(1:Int).toNat=1 from rfl]at hd;rw[hd];rfl);rw[n,RK a h.gen h.half];simp only;rcases e1:rdH sum (S.getD 0 [])with _|⟨g,k⟩;simp only;rw[if_pos ahd,e];simp;simp only;have l:S[0]?=some (S.getD 0 []):=(by rw[aeA,aeF ahd];rfl);have:=h.oh (S.getD 0 []) (by rw[e];exact l) g k e1;have v:=Pf e1;rw[if_pos (show 0<g by omega)];simp only;rw[if_pos ahd,e];simp;omega
 have p:qp sum j.gen ((S.drop 2).take (2*aQ S.length))=j.gen:=by
  refine Nat.le_antisymm (Tl _ _ (aek _) λs f c u=>?_) (Pz _ _).1;obtain⟨i,b⟩:=afT.1 f;have m:i<2*aQ S.length:=by rcases aeN i (2*aQ S.length)with q|q;exact q;rw[afb (by simp;omega)]at b;cases b
  rw[aeS m,aeX]at b;exact r.cel (2+i) s ahd ahd b c u
 unfold bB;rw[t];simp only;rw[p,if_pos ahd,h.recs a o]
end
end Go.Proofs.YtajkbcmleihaoaaGreatDoor.Av
set_option maxRecDepth 100000
namespace Go.Proofs.YtajkbcmleihaoaaGreatDoor.Av
open Go
variable {s b:List UInt8}{n gen k:Nat}{M:List Blk}{A C:List AV}{σ:Type}
def xx:LSO:=[As 2]
def xw:LSO:=[Aa 3 0,Aa 4 0,A5 5 4,o1 6 (.bin .sub (iv 124) (tm 5)),o1 7 (.call 91 [(.av (.str [0])),(tm 6)]),A9 8 3 7,Aa 0 8]
def xu:LSO:=[Aa 9 0,AK 10 9,Ag 11 92 10,AC 12 11,AE 13 67 12 4,Aa 14 0,A9 15 13 14,Aa 2 15]
def sD:aI:=⟨16,(ag6 xx [] (ag6 xw Cg (ag6 xu Cj .ret))),[(.tmp 2)]⟩
attribute [push_cast] xx xw xu
theorem LR:ahb 66=ahc sD:=ahf
def rF:LSO:=[As 2,Al 3]
def rE:LSO:=[Aa 7 0,o1 8 (.call 83 [(tm 7),(iv 0),(iv 4)]),Aa 6 8,Am 9 6,An 10 6,Aa 4 9,Aa 5 10]
def rD:LSO:=[Aa 11 0,BM 12 11 4,Aa 13 0,BM 14 13 4,AK 15 14,Ag 16 92 15,AC 17 16,Aa 18 4,Bb 19 17 18,Aa 2 12,Aa 3 19]
def lV:aI:=⟨20,(ag6 rF [] (ag6 rE C5 (.seq (.sdreg rD [.pure,(.read 0 0),.pure,(.read 0 0),(.read 0 0),(.read 0 0),.pure,.pure,.pure,.pure] C2) .ret))),[(.tmp 2),(.tmp 3)]⟩
attribute [push_cast] rF rE rD
theorem G2:ahb 82=ahc lV:=ahf
def jM:LSO:=[A1 1 0,As 2]
def jL:LSO:=[Ad 3 0 1,Ac 4 1 3,AE 5 67 4 4,o1 6 (.bin .add (.av (.str [67])) (tm 5)),Ad 7 1 1,Ac 8 1 7,AE 9 67 8 4,A9 10 6 9,Ad 11 2 1,Ac 12 1 11,
 AE 13 67 12 2,A9 14 10 13,Ad 15 3 1,Ac 16 1 15,AE 17 67 16 2,A9 18 14 17,Ad 19 4 1,Ac 20 1 19,A5 21 20,AC 22 21,AE 23 67 22 1,A9 24 18 23,Ad 25 4 1,Ac 26 1 25,A9 27 24 26,
 Ag 28 66 27,Aa 2 28]
def fZ:aI:=⟨29,(ag6 jM [] (.seq (.sdreg jL [.pure,(.read 0 0),(.read 0 0),.pure,.pure,(.read 0 0),(.read 0 0),.pure,.pure,(.read 0 0),(.read 0 0),.pure,.pure,(.read 0 0),(.read 0 0),.pure,.pure,(.read 0 0),(.read 0 0),.pure,(.read 0 0),.pure,.pure,(.read 0 0)] [true,false,false,false,false,false,false,false,false,false,false,false,false,false,false,false,false,false,false,false,false,false,false,false,false,false,false]) .ret)),[(.tmp 2)]⟩
attribute [push_cast] jM jL
theorem vT:ahb 88=ahc fZ:=ahf
def xH:LSO:=[B5 2,Al 3]
def xG:LSO:=[Aa 12 0,Ag 13 82 12,Aa 11 13,Am 14 11,An 15 11,Aa 4 14,Aa 5 15]
def xF:LSO:=[Aa 16 5,A6 17 16,Aa 18 17,.grp none 18 false
 [Ah 19 18 4,B6 20 18 19 0,og 21 18 false (.bin .neq (tm 20) (.av (.int .u8 67)))]
 22 (tm 21)]
def xE:LSO:=[BN 23,Ai 5 2 23,Al 3]
def xD:LSO:=[B5 6]
def xC:LSO:=[Ad 24 0 6,B7 25 24 5 4,Ad 26 1 6,B7 27 26 9 4,Ad 28 2 6,B7 29 28 13 2,Ad 30 3 6,B7 31 30 15 2,
 o1 32 (.bslice false 3 4 [.nilptr,(.int .i64 0),(.int .i64 0),.nilptr,(.int .i64 0),(.int .i64 0),.nilptr,(.int .i64 0),(.int .i64 0),.nilptr,(.int .i64 0),(.int .i64 0)] [(0,(3,(tm 25))),(3,(3,(tm 27))),(6,(3,(tm 29))),(9,(3,(tm 31)))]),
 Af 33 32,Ab 34 0]
def xB:LSO:=[Ap 35 34 33]
def xA:LSO:=[Ak 36 3 32 34,Ay 37 3 36,o1 8 (.alloc [.nilptr,(.int .i64 0),(.int .i64 0)]),Ai 3 8 37]
def xz:List (aj×Kd):=
 [Au 39 0 8,Aw 40 1 39 0 0,Ar 41 0,Au 42 1 8,Aw 43 1 42 0 0,Au 44 2 8,Aw 45 1 44 0 0,od 46 (.call 83 [(tm 41),(tm 43),(tm 45)]) (.read 0 0),Ar 38 46,
 od 47 (.extract (tm 38) 0) .pure,od 48 (.extract (tm 38) 1) .pure,A3 49 40 0 0,
 (⟨none,(.store 1 (tm 49) (tm 47)),none⟩,.eff)]
def uj:List aj :=
 []
def xy:LSO:=[Aj 50 34 1,Aa 34 50]
def uw:LSO:=[Aa 51 0,Bc 52 51 17,Bd 53 52,Aa 9 53]
def uv:LSO:=[Aa 54 9,A8 55 54 110,Aa 56 55,.grp none 56 false
 [A7 57 56 0 6,A4 58 56 1 57,og 59 56 false (.bin .eql (tm 58) (.av (.int .u64 0)))]
 60 (tm 59),Aa 61 60,.grp none 61 false
 [A7 62 61 2 6,A4 63 61 1 62,A7 64 61 3 6,A4 65 61 1 64,og 66 61 false (.bin .geq (tm 63) (tm 65))]
 67 (tm 66),Aa 68 67,.grp none 68 false
 [Ah 69 68 0,Ah 70 68 9,og 71 68 false (.bin .add (iv 18) (tm 70)),og 72 68 false (.slS (tm 69) (some (tm 71)) none),og 73 68 false (.call 84 [(tm 72),(.av (.str [0]))]),
 og 74 68 false (.bin .neq (tm 73) (.av (.str [])))]
 75 (tm 74)]
def uu:LSO:=[BN 76,Ai 5 2 76,Al 3]
def ur:LSO:=[Ad 77 2 6,Ac 78 1 77,Ad 79 3 6,Ac 80 1 79,o1 81 (.bin .sub (tm 80) (.av (.int .u64 1))),Bb 82 78 81,Aa 10 82]
def uq:LSO:=[Aa 83 10,A6 84 83,Aa 85 84,.grp none 85 true
 [Ao 86 85 9,og 87 85 true (.bin .lss (tm 86) (iv 110))]
 88 (tm 87),Aa 89 88,.grp none 89 false
 [Ah 90 89 10,Ah 91 89 90,.grp (some (89,false)) 91 true
 [Ao 92 91 9,AU 93 91 92 0]
 94 (tm 93),Ah 95 89 94,.grp (some (89,false)) 95 true
 [AS 96 95 3 6,AN 97 95 1 96,og 98 95 true (.bin .gtr (tm 97) (.av (.int .u64 1)))]
 99 (tm 98)]
 100 (tm 99)]
def uo:LSO:=[BN 101,Ai 5 2 101,Al 3]
def um:LSO:=[Aa 102 0,Aa 103 9,B8 104 18 103,o1 105 (.slS (tm 102) (some (iv 18)) (some (tm 104))),Ad 106 4 6,Ai 1 106 105]
def ul:LSO:=[Ay 107 5 6,Ai 5 2 107,AA 3]
def ik:aI:=⟨108,(ag6 xH [] (ag6 xG Ck (.seq (ag6 xF Ce (ag8 22 (.sreg xE Cc))) (ag6 xD [] (.seq (ag6 xC CD (ag9 0 (ag6 xB [] (.seq (aha 35 0) (.seq (.block 1 (ag6 xA Cd (.dregM xz uj [false,false,false,false,false,false,false,false,false,false,false,false]))) (.sreg xy Cc)))))) (ag6 uw Ce (.seq (ag6 uv Cj (ag8 75 (.sreg uu Cc))) (.seq (ag6 ur Cg (ag6 uq Ch (ag8 100 (.sreg uo Cc)))) (ag6 um Cy (ag6 ul Cc .ret)))))))))),[(.cell true 5 2),(.tmp 3)]⟩
attribute [push_cast] xH xG xF xE xD xC xB xA xz uj xy uw uv uu ur uq uo um ul
theorem vG:ahb 55=ahc ik:=ahf
def xN:LSO:=[Ab 2 0,Ab 3 0,Al 4]
def xM:LSO:=[Aa 10 0,Ag 11 82 10,Aa 9 11,Am 12 9,An 13 9,Aa 5 12,Aa 6 13]
def xL:LSO:=[Aa 15 0,o1 16 (.call 83 [(tm 15),(iv 5),(iv 4)]),Aa 14 16,Am 17 14,An 18 14,Aa 7 17,Aa 8 18]
def xK:LSO:=[Aa 19 6,A6 20 19,Aa 21 20,.grp none 21 false
 [Ah 22 21 5,B6 23 21 22 0,og 24 21 false (.bin .neq (tm 23) (.av (.int .u8 72)))]
 25 (tm 24),Aa 26 25,.grp none 26 false
 [Ah 27 26 7,og 28 26 false (.bin .eql (tm 27) (.av (.int .u64 0)))]
 29 (tm 28),Aa 30 29,.grp none 30 false
 [Ah 31 30 0,B6 32 30 31 9,og 33 30 false (.bin .gtr (tm 32) (.av (.int .u8 1)))]
 34 (tm 33),Aa 35 34,.grp none 35 false
 [Ah 36 35 0,og 37 35 false (.slS (tm 36) (some (iv 10)) none),og 38 35 false (.call 84 [(tm 37),(.av (.str [0]))]),og 39 35 false (.bin .neq (tm 38) (.av (.str [])))]
 40 (tm 39)]
def xJ:LSO:=[Ab 2 0,Ab 3 0,Al 4]
def xI:LSO:=[Aa 41 7,Bd 42 41,Aa 43 0,Bc 44 43 9,Bd 45 44,Aa 2 42,Aa 3 45,AA 4]
def il:aI:=⟨46,(ag6 xN [] (ag6 xM Ck (ag6 xL C5 (.seq (ag6 xK Cl (ag8 40 (.sreg xJ []))) (.seq (.sdreg xI [.pure,.pure,.pure,(.read 0 0),.pure,.pure] C6) .ret))))),[(.tmp 2),(.tmp 3),(.tmp 4)]⟩
attribute [push_cast] xN xM xL xK xJ xI
theorem vH:ahb 53=ahc il:=ahf
def yd:LSO:=[Ab 2 0]
def yc:LSO:=[Aa 3 0,AH 4 3 0,Aa 5 4,.grp none 5 false
 [Ah 6 5 0,AD 7 5 6 262144]
 8 (tm 7)]
def yb:LSO:=[Ab 2 0]
def xZ:LSO:=[Aa 9 0,Aj 10 9 110,AM 11 10 1,o1 12 (.bin .quo (tm 11) (iv 110)),Bt 13 1 12,Aa 2 13]
def sF:aI:=⟨14,(ag6 yd [] (.seq (ag6 yc Ce (ag8 8 (.sreg yb []))) (ag6 xZ Ch .ret))),[(.tmp 2)]⟩
attribute [push_cast] yd yc yb xZ
theorem LT:ahb 62=ahc sF:=ahf
def i9:LSO:=[Ab 2 0]
def i8:LSO:=[Aa 3 0,Ae 4 3,Ad 5 0 4,Ac 6 1 5,Ag 7 51 6,AM 8 7 2,o1 9 (.bin .quo (tm 8) (iv 2)),Aa 2 9]
def fz:aI:=⟨10,(ag6 i9 [] (ag6 i8 Cj .ret)),[(.tmp 2)]⟩
attribute [push_cast] i9 i8
theorem sM:ahb 54=ahc fz:=ahf
def iJ:LSO:=[Ab 4 0]
def iI:LSO:=[Aa 5 1,Aa 6 0,Ag 7 54 6,o1 8 (.bin .mul (tm 5) (tm 7)),B8 9 2 8,Aa 4 9]
def fj:aI:=⟨10,(ag6 iJ [] (ag6 iI Ch .ret)),[(.tmp 4)]⟩
attribute [push_cast] iJ iI
theorem sG:ahb 56=ahc fj:=ahf
def xY:LSO:=[AJ 2,Aq 3,Ab 4 0]
def xX:LSO:=[Aa 24 0,AB 25 24]
def xW:LSO:=[AJ 2,Aq 3,Ab 4 1]
def xV:LSO:=[Aa 26 0,Ag 27 51 26,AH 28 27 4]
def xT:LSO:=[AJ 2,Aq 3,Ab 4 2]
def xS:LSO:=[Aq 5]
def xR:LSO:=[Aa 29 0,Ag 30 51 29,Ab 31 0]
def xQ:LSO:=[Ap 32 31 30]
def xP:LSO:=[Aa 33 31,Aa 6 33]
def xO:LSO:=[Aa 35 0,Aa 36 6,Ax 37 52 35 36,Aa 34 37,Am 38 34,An 39 34,Aa 7 38,Aa 8 39]
def vm:LSO:=[Aa 40 8,Az 41 40 0]
def vl:LSO:=[Aa 42 8,AJ 2,Aq 3,Aa 4 42]
def vj:LSO:=[Aa 43 5,Aa 44 7,AK 45 44,Be 46 43 45,Aa 5 46]
def vi:LSO:=[Aj 47 31 1,Aa 31 47]
def vh:LSO:=[Aa 48 0,
 o1 49 (.build [.nilptr,(.int .i64 0),(.int .i64 0),(.int .i64 0),(.int .i64 0),(.int .i64 0),(.bool false),(.bool false)] [(0,(1,(tm 48))),(2,(1,(iv 1))),(3,(1,(iv (-1))))]),
 A1 50 49,Aa 9 50]
def vg:LSO:=[Ab 10 0,Ab 11 0]
def vf:LSO:=[Aa 51 5,o1 52 (.slV 1 (tm 51) none (some (iv 2)) none),Af 53 52,Ab 54 0]
def ve:LSO:=[Ap 55 54 53]
def vd:LSO:=[Aa 56 54,Ak 57 1 52 54,Ac 58 1 57,Aa 12 56,Aa 13 58]
def vc:LSO:=[Aa 60 13,Ag 61 53 60,Aa 59 61,Am 62 59,An 63 59,AO 64 59,Aa 14 62,Aa 15 63,Aa 16 64]
def u9:LSO:=[Aa 65 16]
def u0:LSO:=[Aa 66 10,Aa 67 14,o1 68 (.minmax true [(tm 66),(tm 67)]),Aa 10 68]
def uZ:LSO:=[Aa 69 14,Aa 70 11,o1 71 (.bin .gtr (tm 69) (tm 70))]
def uY:LSO:=[Aa 72 9,Aa 73 9,Aa 74 14,Aa 75 15,Aa 76 12,Aa 11 74,Ae 77 72,Ad 78 2 77,Ai 1 78 75,Ae 79 73,Ad 80 3 79,Ai 1 80 76]
def uX:LSO:=[Aj 81 54 1,Aa 54 81]
def uW:LSO:=[Aa 82 5,Aa 83 9,Ag 84 54 83,o1 85 (.bin .mul (iv 2) (tm 84)),B8 86 2 85,o1 87 (.slV 1 (tm 82) (some (iv 2)) (some (tm 86)) none),Af 88 87,Ab 89 0]
def uV:LSO:=[Ap 90 89 88]
def uU:LSO:=[Ak 91 1 87 89,Ac 92 1 91,Aa 18 92]
def uT:LSO:=[Aa 94 18,Ag 95 55 94,Aa 93 95,Am 96 93,An 97 93,B5 19,Ai 5 19 96,Aa 20 97]
def uS:LSO:=[Aa 98 20]
def uR:LSO:=[Aa 99 10,Ad 100 0 19,Ac 101 1 100,Bd 102 101,o1 103 (.minmax true [(tm 99),(tm 102)]),Aa 10 103]
def uQ:LSO:=[Aj 104 89 1,Aa 89 104]
def uP:LSO:=[Aq 21]
def uO:LSO:=[Aa 105 9,Ae 106 105,Ad 107 3 106,Ac 108 1 107,Bf 109 108 0]
def uN:LSO:=[Aa 110 9,Aa 111 9,Ae 112 111,Ad 113 2 112,Ac 114 1 113,Ax 115 56 110 114,Aa 22 115]
def uM:LSO:=[Aa 116 5,Aa 117 22,Aa 118 22,Aa 119 9,Ag 120 54 119,A9 121 118 120,o1 122 (.slV 1 (tm 116) (some (tm 117)) (some (tm 121)) none),Aa 123 11,
 Ax 124 57 122 123,Aa 21 124]
def uL:LSO:=[Aa 125 9,Aa 126 10,Ae 127 125,Ad 128 1 127,Ai 1 128 126]
def uK:LSO:=[Aa 129 9,Aa 130 21,Ax 131 29 129 130,Aa 23 131]
def uJ:LSO:=[Aa 132 23,Az 133 132 0]
def uI:LSO:=[Aa 134 23,AJ 2,Aq 3,Aa 4 134]
def uH:LSO:=[Aa 135 9,Aa 136 21,Aa 2 135,Aa 3 136,Ab 4 0]
def sE:aI:=⟨137,(ag6 xY [] (.seq (ag6 xX Cc (ag8 25 (.sreg xW []))) (.seq (ag6 xV Cd (ag8 28 (.sreg xT []))) (ag6 xS [] (.seq (ag6 xR Ci (ag9 0 (ag6 xQ [] (.seq (aha 32 0) (.seq (.block 1 (ag6 xP Cc (ag6 xO Cq (.seq (ag6 vm Cc (ag8 41 (.sreg vl Co))) (.sreg vj Cf))))) (.sreg vi Cc)))))) (ag6 vh Ce (ag6 vg [] (.seq (ag6 vf Co (ag9 2 (ag6 ve [] (.seq (aha 55 2) (.seq (.block 3 (ag6 vd Cm (ag6 vc Cr (ag6 u9 [] (ag7 65 (ag6 u0 Ce (ag6 uZ Cd (ag7 71 (.sreg uY [false,false,false,false,true,false,false,false,false,false]) .skip))) .skip))))) (.sreg uX Cc)))))) (.seq (ag6 uW C6 (ag9 4 (ag6 uV [] (.seq (aha 90 4) (.seq (.block 5 (ag6 uU Cd (ag6 uT Ck (ag6 uS [] (ag7 98 (.sreg uR Ch) .skip))))) (.sreg uQ Cc)))))) (ag6 uP [] (.seq (ag6 uO Cf (ag7 109 (ag6 uN Cg (.sreg uM Cl)) .skip)) (ag6 uL Cp (.seq (ag6 uK Ce (ag6 uJ Cc (ag8 133 (.sreg uI Co)))) (ag6 uH C7 .ret)))))))))))))),[(.tmp 2),(.tmp 3),(.tmp 4)]⟩
attribute [push_cast] xY xX xW xV xT xS xR xQ xP xO vm vl vj vi vh vg vf ve vd vc u9 u0 uZ uY uX uW uV uU uT uS uR uQ uP uO uN uM uL uK uJ uI uH
theorem LS:ahb 22=ahc sE:=ahf
def mZ:LSO:=[Aq 4]
def mY:LSO:=[Aq 5]
def mX:LSO:=[Aa 11 0,Af 12 11,A8 13 12 0]
def mW:LSO:=[As 6]
def mV:LSO:=[Ab 7 0]
def mU:LSO:=[o1 8 (.mv (.av (.int .u64 1)))]
def mT:LSO:=[Aa 14 7,AC 15 14,Aa 16 8,Ap 17 15 16]
def mS:LSO:=[Aa 20 7,Aa 21 0,Af 22 21,Bb 23 20 22]
def mR:LSO:=[Aa 24 5,Aa 4 24]
def mQ:LSO:=[Aa 26 0,Aa 27 7,Ak 28 1 26 27,Ac 29 1 28,Ag 30 55 29,Aa 25 30,Am 31 25,An 32 25,B5 9,Ai 5 9 31,Aa 10 32]
def lH:LSO:=[Aa 33 10,A6 34 33,Aa 35 34,.grp none 35 false
 [A7 36 35 0 9,A4 37 35 1 36,og 38 35 false (.conv .i64 (tm 37)),Ah 39 35 1,Bu 40 35 38 39]
 41 (tm 40),Aa 42 41,.grp none 42 false
 [A7 43 42 1 9,A4 44 42 1 43,Ah 45 42 5,AI 46 42 45,og 47 42 false (.conv .u64 (tm 46)),Bu 48 42 44 47]
 49 (tm 48),Aa 50 49,.grp none 50 false
 [A7 51 50 2 9,A4 52 50 1 51,Ah 53 50 7,og 54 50 false (.conv .u64 (tm 53)),Bu 55 50 52 54]
 56 (tm 55),Aa 57 56,.grp none 57 false
 [Ah 58 57 7,AD 59 57 58 0,Ah 60 57 59,.grp (some (57,false)) 60 true
 [AS 61 60 3 9,AN 62 60 1 61,Ao 63 60 8,BO 64 60 62 63]
 65 (tm 64)]
 66 (tm 65)]
def lG:LSO:=[Aa 67 5,Aa 4 67]
def lF:LSO:=[Ad 68 3 9,Ac 69 1 68,Aa 8 69]
def lE:LSO:=[Aa 70 6,Ad 71 4 9,Ac 72 1 71,A9 73 70 72,Aa 6 73]
def lD:LSO:=[Aa 18 7,Aj 19 18 1,Aa 7 19]
def lC:LSO:=[Aa 74 5,Aa 75 6,AK 76 75,Be 77 74 76,Aa 5 77]
def lB:LSO:=[Aa 78 0,Aa 79 7,o1 80 (.slV 1 (tm 78) (some (tm 79)) none none),Aa 0 80]
def lz:LSO:=[Aa 81 5,Aa 4 81]
def jF:aI:=⟨82,(ag6 mZ [] (ag6 mY [] (.seq (ag9 0 (.seq (ag6 mX Cd (aha 13 0)) (.block 1 (ag6 mW [] (ag6 mV [] (.seq (ag6 mU [] (ag9 2 (.seq (ag6 mT Ce (aha 17 2)) (.seq (.block 3 (.seq (ag6 mS Ce (ag8 23 (.sreg mR Cc))) (ag6 mQ Cz (.seq (ag6 lH Cl (ag8 66 (.sreg lG Cc))) (ag6 lF Cd (.sreg lE Cf)))))) (.sreg lD Cd))))) (ag6 lC Cf (.sreg lB Ce)))))))) (ag6 lz Cc .ret)))),[(.tmp 4)]⟩
attribute [push_cast] mZ mY mX mW mV mU mT mS mR mQ lH lG lF lE lD lC lB lz
theorem DW:ahb 57=ahc jF:=ahf
def uG:LSO:=[Aq 6]
def uF:LSO:=[Aq 7]
def uE:LSO:=[Aa 11 2,A5 12 11,Ag 13 62 12,Aa 8 13]
def uD:LSO:=[Aa 14 8,Ab 15 0]
def uC:LSO:=[Ap 16 15 14]
def uB:LSO:=[Aa 17 15,Aa 9 17]
def uA:LSO:=[Aa 18 2,A5 19 18,o1 20 (.minmax false [(iv 110),(tm 19)]),Aa 10 20]
def uz:LSO:=[Aa 21 7,Aa 22 0,AC 23 22,Aa 24 1,AC 25 24,Aa 26 9,AC 27 26,Aa 28 8,AC 29 28,Aa 30 2,Aa 31 10,o1 32 (.slS (tm 30) none (some (tm 31))),
 o1 33 (.build [(.int .u64 0),(.int .u64 0),(.int .u64 0),(.int .u64 0),(.str [])] [(0,(1,(tm 23))),(1,(1,(tm 25))),(2,(1,(tm 27))),(3,(1,(tm 29))),(4,(1,(tm 32)))]),Ag 34 88 33,
 AK 35 34,Be 36 21 35,Aa 7 36]
def uy:LSO:=[Aa 37 2,Aa 38 10,B9 39 37 38,Aa 2 39]
def ux:LSO:=[Aj 40 15 1,Aa 15 40]
def rG:LSO:=[Aa 41 7,Aa 6 41]
def nN:aI:=⟨42,(ag6 uG [] (ag6 uF [] (ag6 uE Ce (.seq (ag6 uD [] (ag9 0 (ag6 uC [] (.seq (aha 16 0) (.seq (.block 1 (ag6 uB Cc (ag6 uA Ce (ag6 uz C8 (.sreg uy Ce))))) (.sreg ux Cc)))))) (ag6 rG Cc .ret))))),[(.tmp 6)]⟩
attribute [push_cast] uG uF uE uD uC uB uA uz uy ux rG
theorem Ju:ahb 63=ahc nN:=ahf
def jW:LSO:=[Ab 6 0]
def jV:LSO:=[Aa 11 2,Af 12 11,Ab 13 0]
def jU:LSO:=[Ap 14 13 12]
def jT:LSO:=[Aa 15 13,Ak 16 1 11 13,Ac 17 1 16,Aa 7 15,Aa 8 17]
def jS:LSO:=[Aa 18 0,Ae 19 18,Ad 20 0 19,Ac 21 1 20,Aa 22 1,Aa 23 7,A9 24 22 23,Aa 25 8,AX 26 89 21 24 25,Aa 9 26]
def jR:LSO:=[Aa 27 9,Az 28 27 0]
def jQ:LSO:=[Aa 29 0,Ae 30 29,Ad 31 6 30,o0 (.store 1 (tm 31) (.av (.bool true)))]
def jP:LSO:=[Aa 32 9,Aa 6 32]
def jO:LSO:=[Aj 33 13 1,Aa 13 33]
def jN:LSO:=[Aa 34 0,Ae 35 34,Ad 36 0 35,Ac 37 1 36,Ag 38 90 37,Aa 10 38]
def jc:LSO:=[Aa 39 0,Aa 40 10,Az 41 40 0,Ae 42 39,Ad 43 6 42,Ai 1 43 41]
def ja:LSO:=[Aa 44 10,Aa 6 44]
def gc:aI:=⟨45,(ag6 jW [] (.seq (ag6 jV [] (ag9 0 (ag6 jU [] (.seq (aha 14 0) (.seq (.block 1 (ag6 jT Cm (ag6 jS Cl (ag6 jR Cc (ag7 28 (ag6 jQ Ct (ag6 jP Cc .ret)) .skip))))) (.sreg jO Cc)))))) (ag6 jN Ch (ag6 jc Cy (ag6 ja Cc .ret))))),[(.tmp 6)]⟩
attribute [push_cast] jW jV jU jT jS jR jQ jP jO jN jc ja
theorem vU:ahb 64=ahc gc:=ahf
def iT:LSO:=[Ab 4 0]
def iS:LSO:=[Aa 17 0,AB 18 17,Aa 16 18]
def iR:LSO:=[Ab 4 1]
def iQ:LSO:=[Aa 20 0,Ae 21 20,Ad 22 6 21,Ac 23 1 22,Aa 19 23]
def iP:LSO:=[Ab 4 12]
def iO:LSO:=[Ab 5 0]
def iN:LSO:=[Aa 24 1,Af 25 24,Ab 26 0]
def iM:LSO:=[Ap 27 26 25]
def iL:LSO:=[Ak 28 1 24 26,Ac 29 1 28,Aa 7 29]
def iK:LSO:=[Aa 30 7,A5 31 30,A8 32 31 262144]
def gS:LSO:=[Ab 4 5]
def gR:LSO:=[Aa 33 5,Aa 34 7,A5 35 34,Ag 36 62 35,A9 37 33 36,BP 38 37 8193,Aa 5 38]
def gQ:LSO:=[Aj 39 26 1,Aa 26 39]
def gP:LSO:=[Aa 40 0,Ae 41 40,Ad 42 2 41,Ac 43 1 42,o1 44 (.bin .sub (iv 1) (tm 43)),Aa 8 44]
def gO:LSO:=[Aa 45 0,Aa 46 8,Ax 47 56 45 46,Aa 9 47]
def gN:LSO:=[Aa 48 5,Aa 49 0,Ag 50 54 49,o1 51 (.bin .gtr (tm 48) (tm 50)),Aa 52 51,.grp none 52 false
 [Ah 53 52 0,Bv 54 52 53,A7 55 52 0 54,A4 56 52 1 55,Bw 57 52 65 56,BQ 58 52 57 2]
 59 (tm 58),Aa 60 59,.grp none 60 false
 [Ah 61 60 5,AD 62 60 61 0,Ah 63 60 62,.grp (some (60,false)) 63 true
 [Ao 64 63 0,BA 65 63 64,AS 66 63 0 65,AN 67 63 1 66,og 68 63 true (.call 65 [(tm 67)]),Ao 69 63 9,Ao 70 63 5,og 71 63 true (.bin .add (tm 69) (tm 70)),
 og 72 63 true (.bin .lss (tm 68) (tm 71))]
 73 (tm 72)]
 74 (tm 73),Aa 75 74,.grp none 75 false
 [Ah 76 75 0,Bv 77 75 76,A7 78 75 1 77,A4 79 75 1 78,BR 80 75 79 4294967295]
 81 (tm 80)]
def gM:LSO:=[Ab 4 11]
def gL:LSO:=[Aq 10]
def gK:LSO:=[Aa 82 1,Af 83 82,Ab 84 0]
def gJ:LSO:=[Ap 85 84 83]
def gI:LSO:=[Aa 86 84,Ak 87 1 82 84,Ac 88 1 87,Aa 11 86,Aa 12 88]
def gH:LSO:=[Aa 89 10,Aa 90 0,Ae 91 90,Ad 92 1 91,Ac 93 1 92,Aj 94 93 1,Aa 95 11,Aa 96 12,AX 97 63 94 95 96,Be 98 89 97,Aa 10 98]
def gG:LSO:=[Aj 99 84 1,Aa 84 99]
def gF:LSO:=[Aa 100 0,Aa 101 9,Aa 102 10,AX 103 64 100 101 102,Aa 13 103]
def gE:LSO:=[Aa 104 13,Az 105 104 0]
def gD:LSO:=[Aa 106 13,Aa 4 106]
def gC:LSO:=[Ab 14 0]
def gz:LSO:=[Aa 107 0,Ae 108 107,Ad 109 3 108,Ac 110 1 109,A0 111 110 0]
def gy:LSO:=[Ab 14 1]
def gx:LSO:=[Aa 112 0,Aa 113 14,Aa 114 0,Ae 115 114,Ad 116 1 115,Ac 117 1 116,Aj 118 117 1,AC 119 118,AE 120 67 119 4,
 o1 121 (.bin .add (.av (.str [72])) (tm 120)),Aa 122 8,AC 123 122,AE 124 67 123 1,A9 125 121 124,Ag 126 66 125,AK 127 126,AX 128 64 112 113 127,Aa 15 128]
def gw:LSO:=[Aa 129 15,Az 130 129 0]
def gu:LSO:=[Aa 131 15,Aa 4 131]
def gr:LSO:=[Aa 132 0,Aa 133 0,Aa 134 0,Aa 135 0,Aa 136 0,Aa 137 0,Ae 138 137,Ad 139 1 138,Ac 140 1 139,Aj 141 140 1,Aa 142 8,Aa 143 14,Aa 144 5,Aa 145 1,
 Af 146 145,Ae 147 132,Ad 148 1 147,Ai 1 148 141,Ae 149 133,Ad 150 2 149,Ai 1 150 142,Ae 151 134,Ad 152 3 151,Ai 1 152 143,Ae 153 135,Ad 154 4 153,Ai 1 154 144,Ae 155 136,
 Ad 156 5 155,Ai 1 156 146]
def gq:LSO:=[Ab 4 0]
def fk:aI:=⟨157,(ag6 iT [] (.seq (.block 0 (ag6 iS Cd (ag7 16 (ag6 iR [] .ret) (ag6 iQ Cf (ag8 19 (.sreg iP [])))))) (ag6 iO [] (.seq (ag6 iN [] (ag9 1 (ag6 iM [] (.seq (aha 27 1) (.seq (.block 2 (ag6 iL Cd (.seq (ag6 iK Cd (ag8 32 (.sreg gS []))) (.sreg gR Cg)))) (.sreg gQ Cc)))))) (ag6 gP Ch (ag6 gO Ce (.seq (ag6 gN Cl (ag8 81 (.sreg gM []))) (ag6 gL [] (.seq (ag6 gK [] (ag9 3 (ag6 gJ [] (.seq (aha 85 3) (.seq (.block 4 (ag6 gI Cm (.sreg gH Cu))) (.sreg gG Cc)))))) (.seq (ag6 gF Cf (ag6 gE Cc (ag8 105 (.sreg gD Cc)))) (ag6 gC [] (.seq (ag6 gz Cf (ag7 111 (.sreg gy []) .skip)) (.seq (ag6 gx [true,false,false,false,false,false,false,false,false,false,false,false,false,false,false,false,false,false] (ag6 gw Cc (ag8 130 (.sreg gu Cc)))) (ag6 gr [false,false,false,false,false,false,false,false,false,false,false,false,false,false,false,false,false,false,false,false,false,false,false,false,false] (ag6 gq [] .ret))))))))))))))),[(.tmp 4)]⟩
attribute [push_cast] iT iS iR iQ iP iO iN iM iL iK gS gR gQ gP gO gN gM gL gK gJ gI gH gG gF gE gD gC gz gy gx gw gu gr gq
theorem sH:ahb 29=ahc fk:=ahf
def ib:LSO:=[Ab 4 0]
def ia:LSO:=[Aa 8 0,AB 9 8,Aa 7 9]
def hY:LSO:=[Ab 4 1]
def hG:LSO:=[Aa 11 0,Ae 12 11,Ad 13 6 12,Ac 14 1 13,Aa 10 14]
def gZ:LSO:=[Ab 4 12]
def gX:LSO:=[Aa 16 1,A5 17 16,A8 18 17 262144,Aa 15 18]
def gW:LSO:=[Ab 4 5]
def gV:LSO:=[Aa 20 1,A5 21 20,Ag 22 62 21,Aa 23 0,Ag 24 48 23,o1 25 (.bin .gtr (tm 22) (tm 24)),Aa 19 25]
def gU:LSO:=[Ab 4 11]
def gT:LSO:=[Aa 26 0,Ae 27 26,Ad 28 1 27,Ac 29 1 28,Aa 30 0,Ae 31 30,Ad 32 5 31,Ac 33 1 32,Aa 34 1,AX 35 63 29 33 34,Aa 5 35]
def gl:List (aj×Kd):=
 [Ar 36 0,Ar 37 0,Ar 38 0,A3 39 38 0 0,Au 40 2 39,Aw 41 1 40 0 0,od 42 (.call 56 [(tm 37),(tm 41)]) (.read 0 0),Ar 43 0,A3 44 43 0 0,Au 45 4 44,Aw 46 1 45 0 0,Bg 47 42 46,
 Ar 48 5]
def fE:List aj :=
 [⟨(some 49),(.call 64 [(tm 36),(tm 47),(tm 48)]),none⟩,⟨(some 6),(.mv (tm 49)),none⟩]
def gk:LSO:=[Aa 50 6,Az 51 50 0]
def gj:LSO:=[Aa 52 6,Aa 4 52]
def gi:List (aj×Kd):=
 [Ar 53 0,Ar 54 0,Ar 55 0,A3 56 55 0 0,Au 57 4 56,Aw 58 1 57 0 0,Ar 59 5,BS 60 59 0 0,Bg 61 58 60,Ar 62 0,A3 63 62 0 0,Au 64 5 63,Aw 65 1 64 0 0,
 od 66 (.bin .add (tm 65) (iv 1)) .pure,A3 67 53 0 0,Au 68 4 67,
 (⟨none,(.store 1 (tm 68) (tm 61)),none⟩,.eff)]
def fD:List aj :=
 [⟨(some 69),(.nilchk (tm 54)),none⟩,⟨(some 70),(.faddr 5 (tm 69)),none⟩,⟨none,(.store 1 (tm 70) (tm 66)),none⟩]
def gh:LSO:=[Ab 4 0]
def aV:aI:=⟨71,(ag6 ib [] (.seq (.block 0 (ag6 ia Cd (ag7 7 (ag6 hY [] .ret) (ag6 hG Cf (ag7 10 (ag6 gZ [] .ret) (ag6 gX Ce (ag7 15 (ag6 gW [] .ret) (ag6 gV Cg (ag8 19 (.sreg gU [])))))))))) (.seq (.sdreg gT [.pure,(.read 0 0),.pure,(.read 0 0),.pure,(.read 0 0),.pure,(.read 0 0),.pure] Cu) (.seq (.seq (.dregM gl fE CE) (ag6 gk Cc (ag8 51 (.sreg gj Cc)))) (.seq (.dregM gi fD [false,false,false,false,false,false,false,false,false,false,false,false,false,false,false,false,false,false]) (ag6 gh [] .ret)))))),[(.tmp 4)]⟩
attribute [push_cast] ib ia hY hG gZ gX gW gV gU gT gl fE gk gj gi fD gh
theorem cW:ahb 28=ahc aV:=ahf
def jg:LSO:=[Ab 2 0]
def jf:LSO:=[Aa 3 0,AB 4 3]
def je:LSO:=[Ab 2 0]
def jd:LSO:=[Aa 5 0,Ag 6 54 5,Aa 7 0,Ae 8 7,Ad 9 0 8,Ac 10 1 9,Ag 11 65 10,Aa 12 0,Aa 13 0,Ae 14 13,Ad 15 2 14,Ac 16 1 15,Ax 17 56 12 16,Bl 18 11 17,
 o1 19 (.minmax false [(tm 6),(tm 18)]),Aa 20 0,Ae 21 20,Ad 22 4 21,Ac 23 1 22,Bl 24 19 23,Bt 25 0 24,Aa 2 25]
def fA:aI:=⟨26,(ag6 jg [] (.seq (ag6 jf Cc (ag8 4 (.sreg je []))) (.seq (.sdreg jd [.pure,(.read 0 0),.pure,(.read 0 0),.pure,(.read 0 0),(.read 0 0),.pure,.pure,(.read 0 0),.pure,(.read 0 0),(.read 0 0),.pure,(.read 0 0),.pure,(.read 0 0),.pure,(.read 0 0)] [true,false,false,false,false,false,false,false,false,false,false,false,false,false,false,false,false,false,false,false,false,false]) .ret))),[(.tmp 2)]⟩
attribute [push_cast] jg jf je jd
theorem sN:ahb 48=ahc fA:=ahf
attribute [push_cast] sD lV fZ ik il sF fz fj sE jF nN gc fk aV fA
variable {L:List Blk}{K:aeh}
set_option maxHeartbeats 8000000
set_option maxRecDepth 100000
def nU(r:Int):Int:=IntKind.u32.wrap ((BitVec.ofInt IntKind.u32.bits (if IntKind.u32.signed=true then -1 else IntKind.u32.max) ^^^ BitVec.ofInt IntKind.u32.bits r).toNat:Int)
def ad8(r:Int):Int:=IntKind.u32.wrap ((BitVec.ofInt IntKind.u32.bits (r.fdiv (2^min 1 IntKind.u32.bits)) ^^^ BitVec.ofInt IntKind.u32.bits (IntKind.u32.wrap ((BitVec.ofInt IntKind.u32.bits 3988292384 &&& BitVec.ofInt IntKind.u32.bits (IntKind.u32.wrap (0-IntKind.u32.wrap ((BitVec.ofInt IntKind.u32.bits r &&& BitVec.ofInt IntKind.u32.bits 1).toNat:Int)))).toNat:Int))).toNat:Int)
def itU:Nat->Int->Int
 |0,r=>r
 |n+1,r=>ad8 (itU n r)
def xU(r:Int)(c:UInt8):Int:=IntKind.u32.wrap ((BitVec.ofInt IntKind.u32.bits r ^^^ BitVec.ofInt IntKind.u32.bits (IntKind.u32.wrap (c.toNat:Int))).toNat:Int)
def byU(r:Int)(c:UInt8):Int:=itU 8 (xU r c)
def Vq(s:List UInt8):Int:=nU (s.foldl byU (nU 0))
def aA(s:List UInt8):Nat:=(Vq s).toNat
theorem Yg(n:Nat):0<=IntKind.u32.wrap (n:Int)/\IntKind.u32.wrap (n:Int)<2^32:=by simp only[IntKind.wrap,IntKind.signed,IntKind.bits];simp;omega
theorem Sb(s:List UInt8):aA s<2^32:=by have:=(Yg (BitVec.ofInt IntKind.u32.bits (if IntKind.u32.signed=true then -1 else IntKind.u32.max) ^^^ BitVec.ofInt IntKind.u32.bits (s.foldl byU (nU 0))).toNat).2;unfold aA Vq nU;unfold nU at this;omega
theorem ZP(s:List UInt8):Vq s=(aA s:Int):=by have:=(Yg (BitVec.ofInt IntKind.u32.bits (if IntKind.u32.signed=true then -1 else IntKind.u32.max) ^^^ BitVec.ofInt IntKind.u32.bits (s.foldl byU (nU 0))).toNat).1;unfold aA;have a:0<=Vq s:=this;omega
theorem ZQ{cap:Option Nat}(z:s.length<=1100000)(h:K (.int .u32 (Vq s)) L):aeg 127 [.int .u32 0,.sl [.str s] 1 cap] L K:=by
 unfold Vq at h;replace h:=hid h;refine aef Sl ?_;obtain⟨e,d⟩:=aec (nU 0);rw[d]at h;rw[show IntKind.u32.wrap ((BitVec.ofInt IntKind.u32.bits (if IntKind.u32.signed=true then -1 else IntKind.u32.max) ^^^ BitVec.ofInt IntKind.u32.bits 0).toNat:Int)=e from d];refine ao (λm T' L'=>∃(j:Nat) (r:Int),m=1-j/\j<=1/\Hid (r=if j=0 then e else s.foldl byU e)/\T'=[(15,.int .i64 (j:Int)),(14,.int .i64 1),(13,.sl [.str s] 1 cap),(5,.int .u32 r)]/\L=L') ahh ⟨0,_,rfl,aep _,hid rfl,rfl,rfl⟩ ?_;rintro _ _ _ ⟨j,r,rfl,F,hr,rfl,rfl⟩;by_cases x:j<1;have t:j=0:=ahd;subst t;have g:=hid (show r=e from hr.o);clear hr d;refine wk ?_;refine ao (λm T' L'=>∃(k:Nat) (r:Int),m=s.length-k/\k<=s.length/\Hid (r=(s.take k).foldl byU e)/\T'=[(22,.int .i64 (k:Int)),(21,.int .i64 s.length),(20,.sl (u8s s) s.length none),(5,.int .u32 r),(15,.int .i64 0),(14,.int .i64 1),(13,.sl [.str s] 1 cap)]/\L=L') ahh ⟨0,_,rfl,aep _,hid g.o,rfl,rfl⟩ ?_;rintro _ _ _ ⟨k,p,rfl,D,b,rfl,rfl⟩;by_cases a:k<s.length;have g1:(k:Int)<(s.length:Int):=ahd;have C:=aee k ahd;obtain⟨c,w⟩:=aec (s.getD k 0);have g3:(u8s s).getD k .undef=.int .u8 c.toNat:=by rw[<- w];simp[u8s,a]
 have g4:k<(u8s s).length:=by simpa[u8s]using a
 have n:Hid (s.take (k+1)=s.take k++[c]):=hid (by rw[aeM a,<- w];simp[a]);clear w;refine wk ?_;rw[show IntKind.u32.wrap ((BitVec.ofInt IntKind.u32.bits p ^^^ BitVec.ofInt IntKind.u32.bits (IntKind.u32.wrap (c.toNat:Int))).toNat:Int)=xU p c from rfl];refine ao (λm T' L'=>∃(i:Nat) (r:Int),m=8-i/\i<=8/\Hid (r=itU i (xU p c))/\T'=[(30,.int .i64 (i:Int)),(5,.int .u32 r),(22,.int .i64 (k:Int)),(21,.int .i64 s.length),(20,.sl (u8s s) s.length none),(15,.int .i64 0),(14,.int .i64 1),(13,.sl [.str s] 1 cap)]/\L=L') ahh ⟨0,_,rfl,aep _,hid rfl,rfl,rfl⟩ ?_;rintro _ _ _ ⟨i,y,rfl,E,l,rfl,rfl⟩;by_cases v:i<8;have A:(i:Int)<8:=ahd;have B:=aee i ahd;refine wk ?_;exact ahi ahd ahg ⟨i+1,_,rfl,v,hid (by rw[itU,<- l.o];rfl),rfl,rfl⟩;have u:i=8:=ahd;subst u;have f:Hid (y=(s.take (k+1)).foldl byU e):=hid (by rw[n.o,List.foldl_append,<- b.o,l.o];rfl);clear b l n;refine wk ?_;exact ahi ahd ahg ⟨k+1,_,rfl,a,f,rfl,rfl⟩;have g1:¬(k:Int)<(s.length:Int):=ahd;have f:Hid (p=s.foldl byU e):=hid (by rw[b.o,aeO ahd]);clear b;refine wk ?_;exact ahi ahd ahg ⟨1,_,rfl,aek _,hid f.o,rfl,rfl⟩;have q:j=1:=ahd;subst q;have g:=hid (show r=s.foldl byU e from hr.o);clear hr d;refine wk ?_;refine ag ?_;rw[g.o];exact h.o
theorem TT{cap:Option Nat}(a:s.length<=1100000)(h:K (.int .u32 (aA s:Int)) L):aeg 92 [.sl [.str s] 1 cap] L K:=by have kk1:Hid (Ctr Tryz.prog 127 [.int .u32 0,.sl [.str s] 1 cap] (.int .u32 (Vq s))):=@hid _ (λ{L K} q=>ZQ a q);rw[ZP]at kk1;replace h:=hid h;refine aef Sk ?_;exact ag h.o
theorem acD(k:n<=1000000)(h:K (.str (List.replicate n 0)) L):aeg 91 [.str [0],.int .i64 n] L K :=
 iu Tryz.func91 rfl ahf (λw0 S0 E w vs i d=>by simp only[VRL,VR]at d;obtain⟨_,_,rfl,rfl,_,_,rfl,rfl,rfl⟩:=d;have e:Lib.repeatL [0] n=List.replicate n 0:=(by have:=Lib.repeatL_replicate 0 1 n;simpa using this);have f:(Lib.repeatL [0] n).toArray=Array.replicate n 0:=(by rw[e];simp);exact(Tryz.strings_Repeat ⟨⟨[0]⟩⟩ n w ahd (by show 1*n<=_;omega)).mono λj w' ⟨g,a⟩=>⟨_,g,by simp[VR];exact f,⟨λb c=>a.block b c,a.size,a.os,a.tape,a.output⟩⟩) h
theorem VJ(d:s.length<=1000000)(h:K (.str (Lib.trimB s 0)) L):aeg 84 [.str s,.str [0]] L K :=
 iu Tryz.func84 rfl ahf (λw0 S0 E w vs f a=>by simp only[VRL,VR]at a;obtain⟨_,_,rfl,rfl,_,_,rfl,rfl,rfl⟩:=a;exact(Tryz.strings_Trim_one ⟨⟨s⟩⟩ 0 (by decide) w (by show s.length<=_;omega)).mono λe w' ⟨b,c⟩=>⟨_,b,by simp[VR],by rcases c with rfl|rfl<;>exact⟨λ_ _=>rfl,aek _,rfl,rfl,rfl⟩⟩) h
theorem QZ(s:List UInt8):Lib.trimB s 0=[]↔s.all (· == 0)=true:=by
 have d:∀l:List UInt8,l.dropWhile (· == 0)=[]↔l.all (· == 0)=true:=λl=>by
  induction l with
  |nil=>simp
  | cons a l ih =>
    rw[List.dropWhile_cons];by_cases c:(a == 0)=true
    .rw[if_pos c,ih,afl,c,ae9]
    .rw[if_neg c];simp at c;simp[c]
 unfold Lib.trimB Lib.trimLeftB Lib.trimRightB;rw[d,List.all_reverse];constructor;intro h;rw[<- List.all_reverse];rw[aev]at h⊢;intro x b;by_cases c:x∈s.reverse.dropWhile (· == 0);exact h x c;have:=List.takeWhile_append_dropWhile (p:=(· == 0)) (l:=s.reverse);rw[<- this,aen]at b;rcases b with b|b;exact List.all_takeWhile (p:=(· == 0)) (l:=s.reverse) |> λq=>aev.1 q x b
 exact absurd b c;intro h;rw[aev]at h⊢;exact λx b=>h x (List.mem_reverse.1 ((List.dropWhile_sublist _).subset b))
theorem Yw(m:s.length<=124)(h:K (.str (nX aA s)) L):aeg 66 [.str s] L K:=by
 obtain⟨n,f⟩:∃n:Nat,124-s.length=n:=⟨_,rfl⟩;have g1:(124:Int)-(s.length:Int)=(n:Int):=ahd;unfold nX GZ at h;rw[f]at h;obtain⟨z,d⟩:∃z:List UInt8,List.replicate n 0=z:=⟨_,rfl⟩;have i:z.length=n:=by rw[<- d,af3]
 rw[d]at h;have kk1:Hid (Ctr Tryz.prog 91 [.str [0],.int .i64 n] (.str z)):=@hid _ (λ{L K} q=>acD ahd (by rw[d];exact q));obtain⟨t,e⟩:=aec (s++z);have g:t.length=124:=by rw[<- e,aez];omega
 rw[e]at h;have l:=Sb t;have v:IntKind.i64.wrap (n:Int)=(n:Int):=ac ahd ahd;obtain⟨c,a⟩:=aec (aA t);rw[a]at h l;have kk2:Hid (∀{cap:Option Nat}{L:List Blk}{K:aeh},K (.int .u32 (c:Int)) L->aeg 92 [.sl [.str t] 1 cap] L K):=@hid _ (λ{cap L K} q=>TT ahd (by rw[a];exact q));obtain⟨p,b⟩:=aec (ev c 4);have j:p.length=4:=by rw[<- b,ff]
 rw[b]at h;have r:(p.length:Int)+(t.length:Int)<=9223372036854775807:=ahd;have kk3:Hid (Ctr Tryz.prog 67 [.int .u64 (c:Int),.int .i64 4] (.str p)):=@hid _ (λ{L K} q=>lO (k:=4) ahd ahd ahd (by rw[b];exact q));have g3:IntKind.u64.wrap (c:Int)=(c:Int):=by simp only[IntKind.wrap,IntKind.signed,IntKind.bits];simp;omega
 replace h:=hid h;have u:(s.length:Int)+(z.length:Int)<=9223372036854775807:=ahd;clear a f d b;refine aef LR ?_;exact ag h.o
theorem SO(l:s.length=128)(h:K (.tup [.str (s.drop 4),.bool (decide (bW (s.take 4)=aA (s.drop 4)))]) L):aeg 82 [.str s] L K:=by
 obtain⟨g,e⟩:=aec (bW (s.take 4));obtain⟨t,i⟩:=aec (s.drop 4);have j:t.length=124:=by rw[<- i];simp;omega
 rw[i,e]at h;have k:=Sb t;obtain⟨c,d⟩:=aec (aA t);rw[d]at h k;have kk1:Hid (Ctr Tryz.prog 83 [.str s,.int .i64 0,.int .i64 4] (.tup [.int .u64 (g:Int),.bool true])):=@hid _ (λ{L K} q=>Gd (a:=0) (z:=4) ahd ahd ahd ahd (by rw[agw,e];exact q));have kk2:Hid (∀{cap:Option Nat}{L:List Blk}{K:aeh},K (.int .u32 (c:Int)) L->aeg 92 [.sl [.str t] 1 cap] L K):=@hid _ (λ{cap L K} q=>TT ahd (by rw[d];exact q));have g3:IntKind.u64.wrap (c:Int)=(c:Int):=by simp only[IntKind.wrap,IntKind.signed,IntKind.bits];simp;omega
 have m:List.take 124 t=t:=aeO ahd;obtain⟨b,f⟩:=aec (decide (g=c));have n:decide ((c:Int)=(g:Int))=b:=by rw[<- f];exact decide_eq_decide.2 ahd
 rw[f]at h;replace h:=hid h;clear d f e;refine aef G2 ?_;exact ag h.o
abbrev Gj(c:Cel):List AV:=[.int .u64 (c.gen:Int),.int .u64 (c.seq:Int),.int .u64 (c.part:Int),.int .u64 (c.parts:Int),.str c.data]
theorem Yv{c:Cel}(B:c.gen<2^32)(E:c.seq<2^32)(F:c.part<2^16)(h4:c.parts<2^16)(M:c.data.length<=110)(h:K (.str (ft aA c)) L):aeg 88 [.agg (Gj c)] L K:=by
 obtain⟨gen,seq,part,parts,data⟩:=c;simp only at B E F h4 M;have a:∀(k n:Nat),∃p,ev n k=p/\p.length=k:=λk n=>⟨_,rfl,ff ..⟩
 obtain⟨t,v,l1⟩:=a 4 gen;obtain⟨u,w,S⟩:=a 4 seq;obtain⟨y,r,V⟩:=a 2 part;obtain⟨s,m,W⟩:=a 2 parts;obtain⟨z,x,N⟩:=a 1 data.length;have I:Oq ⟨gen,seq,part,parts,data⟩=((((([67]++t)++u)++y)++s)++z)++data:=by simp only[Oq,v,w,r,m,x,aew,agu,ae6,ae5]
 unfold ft at h;rw[I]at h;have kk1:Hid (Ctr Tryz.prog 67 [.int .u64 (gen:Int),.int .i64 4] (.str t)):=@hid _ (λ{L K} q=>lO (k:=4) ahd ahd ahd (by rw[v];exact q));have kk2:Hid (Ctr Tryz.prog 67 [.int .u64 (seq:Int),.int .i64 4] (.str u)):=@hid _ (λ{L K} q=>lO (k:=4) ahd ahd ahd (by rw[w];exact q));have kk3:Hid (Ctr Tryz.prog 67 [.int .u64 (part:Int),.int .i64 2] (.str y)):=@hid _ (λ{L K} q=>lO (k:=2) ahd ahd ahd (by rw[r];exact q));have kk4:Hid (Ctr Tryz.prog 67 [.int .u64 (parts:Int),.int .i64 2] (.str s)):=@hid _ (λ{L K} q=>lO (k:=2) ahd ahd ahd (by rw[m];exact q));have kk5:Hid (Ctr Tryz.prog 67 [.int .u64 (data.length:Int),.int .i64 1] (.str z)):=@hid _ (λ{L K} q=>lO (k:=1) ahd ahd ahd (by rw[x];exact q));obtain⟨A,d⟩:=aec ([67]++t);obtain⟨C,b⟩:=aec (A++u);obtain⟨H,e⟩:=aec (C++y);obtain⟨D,i⟩:=aec (H++s);obtain⟨G,f⟩:=aec (D++z);obtain⟨l,g⟩:=aec (G++data);have P:A.length=5:=by rw[<- d];simp[l1]
 have T:C.length=9:=by rw[<- b,aez];omega
 have R:H.length=11:=by rw[<- e,aez];omega
 have U:D.length=13:=by rw[<- i,aez];omega
 have Q:G.length=14:=by rw[<- f,aez];omega
 have J:l.length<=124:=by rw[<- g,aez];omega
 rw[d,b,e,i,f,g]at h;have kk6:Hid (Ctr Tryz.prog 66 [.str l] (.str (nX aA l))):=@hid _ (λ{L K} q=>Yw J q);have g3:IntKind.u64.wrap (data.length:Int)=(data.length:Int):=by simp only[IntKind.wrap,IntKind.signed,IntKind.bits];simp;omega
 obtain⟨O,j⟩:=aec (nX aA l);rw[j]at h kk6;replace h:=hid h;clear I v w r m x a j B E F h4;refine aef vT ?_;exact af rfl h.o
theorem UM(e:n<=262144)(h:K (.int .i64 (cC n:Int)) L):aeg 62 [.int .i64 (n:Int)] L K:=by
 have g1:decide ((n:Int)<0\/262144<(n:Int))=false:=decide_eq_false ahd;have c:IntKind.i64.wrap ((n:Int)+110)=(n:Int)+110:=ac ahd ahd;have g3:IntKind.i64.wrap ((n:Int)+110-1)=((n+109:Nat):Int):=by rw[ac ahd ahd];omega
 have g4:IntKind.i64.wrap (((n+109:Nat):Int).tdiv 110)=(((n+109)/110:Nat):Int):=by rw[show((n+109:Nat):Int).tdiv 110=(((n+109)/110:Nat):Int)from rfl];exact ac ahd ahd
 have b:(if(((n+109)/110:Nat):Int)>1 then(((n+109)/110:Nat):Int)else 1)=(cC n:Int):=by unfold cC;split<;>omega
 obtain⟨m,a⟩:=aec (n+109);rw[a]at g3 g4 b;obtain⟨d,hd⟩:=aec (m/110);rw[hd]at g4 b;replace h:=hid h;clear a hd;refine aef LT ?_;exact ag h.o
theorem Zn(E:s.length=128)(h:K (match rdH aA s with|none=>.tup [.int .i64 0,.int .i64 0,.bool false]|some (g,f)=>.tup [.int .i64 (g:Int),.int .i64 (f:Int),.bool true]) L):aeg 53 [.str s] L K:=by
 obtain⟨b,n⟩:=aec (decide (bW (s.take 4)=aA (s.drop 4)));obtain⟨t,j⟩:=aec (s.drop 4);obtain⟨g,i⟩:=aec (bW ((s.drop 5).take 4));have N:g<2^32:=by rw[<- i];have:=OX ((s.drop 5).take 4);rw[show((s.drop 5).take 4).length=4 by simp;omega]at this;omega
 obtain⟨u,B⟩:=aec (s.drop 10);obtain⟨v,p⟩:=aec (Lib.trimB u 0);have J:t.length=124:=by rw[<- j,afu];omega
 have M:u.length=118:=by rw[<- B,afu];omega
 have F:u.take 118=u:=aeO ahd;have kk1:Hid (Ctr Tryz.prog 82 [.str s] (.tup [.str t,.bool b])):=@hid _ (λ{L K} q=>SO E (by rw[n,j];exact q));have kk2:Hid (Ctr Tryz.prog 83 [.str s,.int .i64 5,.int .i64 4] (.tup [.int .u64 (g:Int),.bool true])):=@hid _ (λ{L K} q=>Gd (a:=5) (z:=4) ahd ahd ahd ahd (by rw[i];exact q));have kk3:Hid (Ctr Tryz.prog 84 [.str u,.str [0]] (.str v)):=@hid _ (λ{L K} q=>VJ ahd (by rw[p];exact q));obtain⟨f,G⟩:=aec (s.getD 9 0);obtain⟨e,l⟩:=aec (t.getD 0 0);obtain⟨y,k⟩:=aec (decide ((e.toNat:Int)=72));obtain⟨D,m⟩:=aec (decide ((g:Int)=0));obtain⟨C,w⟩:=aec (decide (1<(f.toNat:Int)));obtain⟨x,r⟩:=aec (decide (v=[]));have A:(match rdH aA s with|none=>AV.tup [.int .i64 0,.int .i64 0,.bool false]|some (g,f)=>.tup [.int .i64 (g:Int),.int .i64 (f:Int),.bool true])=if(!b || !y ||D ||C || !x)=true then .tup [.int .i64 0,.int .i64 0,.bool false]else .tup [.int .i64 (g:Int),.int .i64 (f.toNat:Int),.bool true]:=by unfold rdH DM;rw[j,B];subst k m w r n;have H:(u.all (· == 0)=false)↔¬v=[]:=(by rw[<- p,QZ];simp);have I:((e.toNat:Int)=72)↔e=72:=(by rw[<- agk];show _↔e.toNat=72;omega);rw[j];by_cases a:bW (s.take 4)=aA t;rw[if_pos a];simp only[i,G,l,H,a,I];by_cases c:e≠72\/g=0\/1<f.toNat\/¬v=[];rw[if_pos c];rw[if_pos (by rcases c with c|c|c|c<;>simp[c];omega)];rw[if_neg c];simp only[not_or,agz]at c;rw[if_neg (by simp[c];omega)];simp[if_neg a,a]
 have Q:IntKind.i64.wrap (g:Int)=(g:Int):=ac ahd ahd;have d:=f.toNat_lt;have P:IntKind.i64.wrap (f.toNat:Int)=(f.toNat:Int):=ac ahd ahd;rw[A]at h;clear A n i p d;obtain⟨q,O⟩:=aec ((!b || !y ||D ||C || !x));rw[O]at h;cases q with
 | true =>
   replace h:=hid h;refine aef vH ?_;exact ag h.o
 | false =>
   replace h:=hid h;refine aef vH ?_;exact ag h.o
abbrev TZ:Cel:=⟨0,0,0,0,[]⟩
theorem kJ(s:List UInt8)(a z:Nat):bW ((s.drop a).take z)<256^z:=afs (OX _) (Nat.pow_le_pow_right (by decide) (by simp;omega))
theorem acR{α:Type}{p q:Prop}[Decidable p][Decidable q]{a b c:α}(h:p↔q)(e:b=c):(if p then a else b)=if q then a else c:=by by_cases g:p;rw[if_pos g,if_pos (h.1 g)];rw[if_neg g,if_neg (λx=>g (h.2 x)),e]
def csR(a b c d:Nat):Nat->List AV
 |0=>[.int .u64 0,.int .u64 0,.int .u64 0,.int .u64 0,.str []]
 |1=>[.int .u64 a,.int .u64 0,.int .u64 0,.int .u64 0,.str []]
 |2=>[.int .u64 a,.int .u64 b,.int .u64 0,.int .u64 0,.str []]
 |3=>[.int .u64 a,.int .u64 b,.int .u64 c,.int .u64 0,.str []]
 |_=>[.int .u64 a,.int .u64 b,.int .u64 c,.int .u64 d,.str []]
def BlR(L M:List Blk)(A C:List AV):Prop:=∃X,M=L ++ .cells A :: .cells C::X
theorem BlR.get{L:List Blk}(h:BlR L M A C)(Y:List Blk):(M++Y)[L.length+1]?=some (.cells C):=by obtain⟨X,rfl⟩:=h;rw[aew,aey ahd];simp
theorem BlR.get0{L:List Blk}(h:BlR L M A C)(Y:List Blk):(M++Y)[L.length]?=some (.cells A):=by obtain⟨X,rfl⟩:=h;rw[aew,aey ahd];simp
theorem BlR.put{L:List Blk}(h:BlR L M A C)(Y:List Blk)(D:List AV):BlR L ((M++Y).set (L.length+1) (.cells D)) A D:=by obtain⟨X,rfl⟩:=h;refine⟨X++Y,?_⟩;rw[aew,aeZ _ _ ahd];simp
theorem BlR.res{L:List Blk}(h:BlR L M A C)(b:Blk):∃X,M.set L.length b=L++X:=by obtain⟨X,rfl⟩:=h;exact⟨_,by rw[aeZ _ _ ahd]⟩
theorem BlR.len{L:List Blk}(h:BlR L M A C):L.length+1<M.length:=by obtain⟨X,rfl⟩:=h;simp
theorem OV(hs:s.length=128)(h:K (match rdC aA s with|none=>.tup [.agg (Gj TZ),.bool false]|some c=>.tup [.agg (Gj c),.bool true]) L):aeg 55 [.str s] L K:=by
 obtain⟨b,T⟩:=aec (decide (bW (s.take 4)=aA (s.drop 4)));obtain⟨t,H⟩:=aec (s.drop 4);obtain⟨g,w⟩:=aec (bW ((s.drop 5).take 4));obtain⟨i,p⟩:=aec (bW ((s.drop 9).take 4));obtain⟨n3,l⟩:=aec (bW ((s.drop 13).take 2));obtain⟨n4,r⟩:=aec (bW ((s.drop 15).take 2));have l1:g<2^32:=by rw[<- w];exact kJ s 5 4
 have l2:i<2^32:=by rw[<- p];exact kJ s 9 4
 have l3:n3<2^16:=by rw[<- l];exact kJ s 13 2
 have l4:n4<2^16:=by rw[<- r];exact kJ s 15 2
 obtain⟨f,hf⟩:=aec (s.getD 17 0);obtain⟨B,ap⟩:=aec (t.getD 0 0);obtain⟨n,hn⟩:=aec (f.toNat);have a3:t.length=124:=by rw[<- H,afu];omega
 have kk1:Hid (Ctr Tryz.prog 82 [.str s] (.tup [.str t,.bool b])):=@hid _ (λ{L K} q=>SO hs (by rw[T,H];exact q));have kk2:Hid (Ctr Tryz.prog 83 [.str s,.int .i64 5,.int .i64 4] (.tup [.int .u64 (g:Int),.bool true])):=@hid _ (λ{L K} q=>Gd (a:=5) (z:=4) ahd ahd ahd ahd (by rw[w];exact q));have kk3:Hid (Ctr Tryz.prog 83 [.str s,.int .i64 9,.int .i64 4] (.tup [.int .u64 (i:Int),.bool true])):=@hid _ (λ{L K} q=>Gd (a:=9) (z:=4) ahd ahd ahd ahd (by rw[p];exact q));have kk4:Hid (Ctr Tryz.prog 83 [.str s,.int .i64 13,.int .i64 2] (.tup [.int .u64 (n3:Int),.bool true])):=@hid _ (λ{L K} q=>Gd (a:=13) (z:=2) ahd ahd ahd ahd (by rw[l];exact q));have kk5:Hid (Ctr Tryz.prog 83 [.str s,.int .i64 15,.int .i64 2] (.tup [.int .u64 (n4:Int),.bool true])):=@hid _ (λ{L K} q=>Gd (a:=15) (z:=2) ahd ahd ahd ahd (by rw[r];exact q));obtain⟨u,J⟩:=aec (s.drop (18+n));obtain⟨v,hv⟩:=aec (Lib.trimB u 0);have a5:u.length=110-n:=by rw[<- J,afu];omega
 have kk6:Hid (Ctr Tryz.prog 84 [.str u,.str [0]] (.str v)):=@hid _ (λ{L K} q=>VJ ahd (by rw[hv];exact q));obtain⟨x1,Q⟩:=aec (decide ((B.toNat:Int)=67));obtain⟨x3,ai⟩:=aec (decide ((g:Int)=0));obtain⟨x4,G⟩:=aec (decide ((n4:Int)<=(n3:Int)));obtain⟨x6,R⟩:=aec (decide (v=[]));obtain⟨I,ad⟩:=aec (decide ((n3:Int)=(n4:Int)-1));obtain⟨x8,ab⟩:=aec (decide ((n:Int)<110));obtain⟨x9,W⟩:=aec (decide ((n:Int)=0));obtain⟨y1,an⟩:=aec (decide (1<(n4:Int)));obtain⟨F,D⟩:=aec ((s.drop 18).take n);have hR:rdC aA s=if(!b || !x1)=true then none else if 110<n then none else if(x3 ||x4 || !x6)=true then none else if(!I&&x8 ||I&&x9&&y1)=true then none else some ⟨g,i,n3,n4,F⟩:=by
  unfold rdC DM;rw[H];subst Q ai G R ad ab W an T;have e3:(u.all (· == 0)=false)↔¬v=[]:=(by rw[<- hv,QZ];simp);have e4:((B.toNat:Int)=67)↔B=67:=(by rw[<- agk];show _↔B.toNat=67;omega);by_cases a:bW (s.take 4)=aA t;rw[if_pos a,H];simp only[ap,hf,hn,w,p,l,r,J,D];have U:B≠67↔(!decide (bW (s.take 4)=aA t) || !decide ((B.toNat:Int)=67))=true:=by simp only[ne_eq,ae4,aeU,decide_eq_false_iff_not,a,not_true,false_or,e4]
  by_cases a2:110<n;simp only[a2,true_or,if_true,ite_self];refine acR U ?_;rw[if_neg a2];refine acR ?_ (acR ?_ rfl);rw[e3];have e1:((g:Int)=0)↔g=0:=ahd;have e2:((n4:Int)<=(n3:Int))↔n4<=n3:=ahd;simp only[ae4,aeU,decide_eq_true_eq,decide_eq_false_iff_not,e1,e2,a2,false_or,or_assoc];simp only[ae4,aeq,aeU,decide_eq_true_eq,decide_eq_false_iff_not];omega;rw[if_neg a];have U:(!decide (bW (s.take 4)=aA t) || !decide ((B.toNat:Int)=67))=true:=(by rw[decide_eq_false a];rfl);simp only[H,U,if_true]
 have O:n<256:=by rw[<- hn];exact f.toNat_lt
 have w1:IntKind.i64.wrap (n:Int)=(n:Int):=ac ahd ahd;rw[hR]at h;clear hR T w p l r hv;obtain⟨q,hq⟩:=aec ((!b || !x1));cases q with
 | true =>
   have N:Hid (K (.tup [.agg (Gj TZ),.bool false]) L):=(by rw[hq,if_pos rfl]at h;exact hid h);clear h;refine aef vG ?_;exact af rfl N.o
 | false =>
   rw[hq,if_neg (by decide)]at h;replace h:=hid h;refine aef vG ?_;refine ao (λm T' M=>∃k,m=4-k/\k<=4/\Hid (BlR L M (csR g i n3 n4 0) (csR g i n3 n4 k))/\T'=[(34,.int .i64 (k:Int)),(33,.int .i64 4),(32,.sl [.ptr (L.length+1) 0,.int .i64 5,.int .i64 4,.ptr (L.length+1) 1,.int .i64 9,.int .i64 4,.ptr (L.length+1) 2,.int .i64 13,.int .i64 2,.ptr (L.length+1) 3,.int .i64 15,.int .i64 2] 4 (some 4)),(6,.ptr (L.length+1) 0),(3,.bool false),(2,.ptr L.length 0),(0,.str s)]) ahh ⟨0,rfl,ahd,hid ⟨[],rfl⟩,rfl⟩ ?_;rintro _ _ M ⟨k,rfl,hk,j,rfl⟩;have a6:=j.o.len;have d:=hid j.o.get;by_cases P:k<4
   .have hne:L.length+1≠M.length:=ahd;have C:k=0\/k=1\/k=2\/k=3:=ahd;have a7:∀y:Blk,(M++[y])[M.length]?=some y:=λy=>ahe
    clear hk;rcases C with rfl|rfl|rfl|rfl
    .have x:∀Y:List Blk,(M++Y)[L.length+1]?=some (.cells [.int .u64 0,.int .u64 0,.int .u64 0,.int .u64 0,.str []]):=d.o;clear d;refine wk ?_;exact ahi ahd (CutL (b:=by simp;omega)) ⟨1,rfl,ahd,hid (j.o.put _ _),rfl⟩
    .have x:∀Y:List Blk,(M++Y)[L.length+1]?=some (.cells [.int .u64 g,.int .u64 0,.int .u64 0,.int .u64 0,.str []]):=d.o;clear d;refine wk ?_;exact ahi ahd (CutL (b:=by simp;omega)) ⟨2,rfl,ahd,hid (j.o.put _ _),rfl⟩
    .have x:∀Y:List Blk,(M++Y)[L.length+1]?=some (.cells [.int .u64 g,.int .u64 i,.int .u64 0,.int .u64 0,.str []]):=d.o;clear d;refine wk ?_;exact ahi ahd (CutL (b:=by simp;omega)) ⟨3,rfl,ahd,hid (j.o.put _ _),rfl⟩
    .have x:∀Y:List Blk,(M++Y)[L.length+1]?=some (.cells [.int .u64 g,.int .u64 i,.int .u64 n3,.int .u64 0,.str []]):=d.o;clear d;refine wk ?_;exact ahi ahd (CutL (b:=by simp;omega)) ⟨4,rfl,ahd,hid (j.o.put _ _),rfl⟩
   .have C:k=4:=ahd;subst C;clear hk P;have x:M[L.length+1]?=some (.cells [.int .u64 g,.int .u64 i,.int .u64 n3,.int .u64 n4,.str []]):=(by have:=d.o [];rw[aeL]at this;exact this);have V:M[L.length]?=some (.cells [.int .u64 0,.int .u64 0,.int .u64 0,.int .u64 0,.str []]):=(by have:=j.o.get0 [];rw[aeL]at this;exact this);have a8:∀b:Blk,(M.set L.length b)[L.length]?=some b:=λb=>aeQ ahd
    have a9:∀b:Blk,(M.set (L.length+1) b)[L.length+1]?=some b:=λb=>aeQ ahd
    have a4:∀b:Blk,(M.set (L.length+1) b)[L.length]?=some (.cells [.int .u64 0,.int .u64 0,.int .u64 0,.int .u64 0,.str []]):=λb=>by rw[aeo ahd];exact V
    have a1:∀b c:Blk,((M.set (L.length+1) b).set L.length c)[L.length]?=some c:=λb c=>aeQ (by simp;omega)
    clear d;by_cases c2:110<n
    .have N:Hid (K (.tup [.agg (Gj TZ),.bool false]) L):=(by have h:=h.o;rw[if_pos c2]at h;exact hid h);have g1:decide (110<(n:Int))=true:=decide_eq_true ahd;clear h;refine wk ?_;obtain⟨X,E⟩:=j.o.res (.cells (Gj TZ));have q:=af (L2:=X) (hr:=rfl) N.o;rw[<- E]at q;exact q
    .have g1:decide (110<(n:Int))=false:=decide_eq_false ahd;have h:=h.o;rw[if_neg c2]at h;obtain⟨q2,A⟩:=aec ((x3 ||x4 || !x6));rw[A]at h;have w2:IntKind.i64.wrap (18+(n:Int))=((18+n:Nat):Int):=(by rw[ac ahd ahd];omega);have al:(s.drop (18+n)).take (128-(18+n))=u:=(by rw[J,aeO ahd]);have av:(s.drop 18).take (18+n-18)=F:=(by rw[<- D];congr 1;omega);have w3:18+n<=128:=ahd;obtain⟨e,he⟩:=aec (18+n);rw[he]at w2 al av w3;have w4:18<=e:=ahd;clear J D he;cases q2 with
     | true =>
       rw[if_pos rfl]at h;replace h:=hid h;refine wk ?_;obtain⟨X,E⟩:=j.o.res (.cells (Gj TZ));have q:=af (L2:=X) (hr:=rfl) h.o;rw[<- E]at q;exact q
     | false =>
       rw[if_neg (by decide)]at h;have a0:n3<n4:=by simp only[agm]at A;have:=G.trans A.1.2;simp at this;omega
       have w5:IntKind.u64.wrap ((n4:Int)-1)=(n4:Int)-1:=(by simp only[IntKind.wrap,IntKind.signed,IntKind.bits];simp;omega);obtain⟨q3,S⟩:=aec ((!I&&x8 ||I&&x9&&y1));rw[S]at h;cases q3 with
       | true =>
         rw[if_pos rfl]at h;replace h:=hid h;refine wk ?_;obtain⟨X,E⟩:=j.o.res (.cells (Gj TZ));have q:=af (L2:=X) (hr:=rfl) h.o;rw[<- E]at q;exact q
       | false =>
         rw[if_neg (by decide)]at h;replace h:=hid h;refine wk ?_;have Z:BlR L (M.set (L.length+1) (.cells (Gj ⟨g,i,n3,n4,F⟩))) (csR g i n3 n4 0) (Gj ⟨g,i,n3,n4,F⟩):=by have:=j.o.put [] (Gj ⟨g,i,n3,n4,F⟩);rwa[aeL]at this
         obtain⟨X,E⟩:=Z.res (.cells (Gj ⟨g,i,n3,n4,F⟩));have q:=af (L2:=X) (hr:=rfl) h.o;rw[<- E]at q;exact q
theorem Qb(gen seq parts:Nat):∀(n i:Nat) (b:List UInt8),kM gen seq parts (n+1) i b=kM gen seq parts n i b++[⟨gen,seq,i+n,parts,(b.drop (110*n)).take 110⟩]
 |0,i,b=>rfl
 |n+1,i,b=>by rw[kM,Qb gen seq parts n (i+1) (b.drop 110),kM,ae6,afU,show i+1+n=i+(n+1)by omega,show 110+110*n=110*(n+1)by omega]
theorem Wl{seq:Nat}(E:gen<2^32)(J:seq<2^32)(w:b.length<=262144)(h:K (.sl (((vI gen seq b).map (ft aA)).map AV.str) (cC b.length) none) L):aeg 63 [.int .i64 gen,.int .i64 seq,.str b] L K:=by
 unfold vI at h;obtain⟨p,u⟩:=aec (cC b.length);have kk1:Hid (Ctr Tryz.prog 62 [.int .i64 (b.length:Int)] (.int .i64 (p:Int))):=@hid _ (λ{L K} q=>UM (n:=b.length) w (by rw[u];exact q));have H:p<=2384:=by rw[<- u];unfold cC;omega
 rw[u]at h;have R:IntKind.u64.wrap (gen:Int)=(gen:Int):=by simp only[IntKind.wrap,IntKind.signed,IntKind.bits];simp;omega
 have O:IntKind.u64.wrap (seq:Int)=(seq:Int):=by simp only[IntKind.wrap,IntKind.signed,IntKind.bits];simp;omega
 have Q:IntKind.u64.wrap (p:Int)=(p:Int):=by simp only[IntKind.wrap,IntKind.signed,IntKind.bits];simp;omega
 replace h:=hid h;have F:=hid w;clear u w;refine aef Ju ?_;refine cB (l:=[]) (n:=0) 7 1 rfl (aeW 1).symm ?_;refine ao (λm T' L'=>∃(k:Nat) (C:List AV) (r:List UInt8) (X:List Blk),m=p-k/\k<=p/\Hid (b.drop (110*k)=r)/\Hid (C=((kM gen seq p k 0 b).map (ft aA)).map AV.str)/\T'=[(15,.int .i64 (k:Int)),(14,.int .i64 p),(8,.int .i64 p),(7,.gsl C k L.length 1),(0,.int .i64 gen),(1,.int .i64 seq),(2,.str r)]/\L'=L++(.spare k 1::X)) ahh ⟨0,[],b,[],rfl,aep _,hid rfl,hid rfl,rfl,ahe⟩ ?_;rintro _ _ _ ⟨k,C,r,X,rfl,G,hr,t,rfl,rfl⟩;by_cases i:k<p;have g1:(k:Int)<(p:Int):=ahd;have P:=aee k ahd;have M:IntKind.u64.wrap (k:Int)=(k:Int):=by simp only[IntKind.wrap,IntKind.signed,IntKind.bits];simp;omega
 obtain⟨q,e⟩:=aec (min r.length 110);have S:(if(r.length:Int)<110 then(r.length:Int)else 110)=(q:Int):=by rw[<- e];split<;>omega
 have N:q<=r.length:=ahd;obtain⟨d,hd⟩:=aec (r.take q);obtain⟨y,a⟩:=aec (r.drop q);have D:(r.drop q).take (r.length-q)=y:=by rw[a,aeO (by rw[<- a];simp)]
 have f:r.take 110=d:=by rw[<- hd,<- e];by_cases c:110<=r.length;rw[Nat.min_eq_right c];rw[af7 ahd,aeO ahd,aeO (aek _)]
 have s:r.drop 110=y:=by rw[<- a,<- e];by_cases c:110<=r.length;rw[Nat.min_eq_right c];rw[af7 ahd,afI ahd,afI (aek _)]
 obtain⟨B,g⟩:=aec (ft aA ⟨gen,seq,k,p,d⟩);have j:d.length<=110:=by rw[<- f];simp;omega
 have kk2:Hid (Ctr Tryz.prog 88 [.agg [.int .u64 (gen:Int),.int .u64 (seq:Int),.int .u64 (k:Int),.int .u64 (p:Int),.str d]] (.str B)):=@hid _ (λ{L K} q=>Yv (c:=⟨gen,seq,k,p,d⟩) E J (by show k<2^16;omega) (by show p<2^16;omega) j (by rw[g];exact q));have v:Hid (C++[.str B]=((kM gen seq p (k+1) 0 b).map (ft aA)).map AV.str):=hid (by rw[Qb,aeD,aeD,<- t.o,hr.o,f,afE];show _=C++[AV.str (ft aA ⟨gen,seq,k,p,d⟩)];rw[g])
 have A:Hid (b.drop (110*(k+1))=y):=hid (by rw[<- s,<- hr.o,afU];congr 1);clear t g j hr a f s e;refine wk ?_;refine ahi ahd ahg ⟨k+1,_,_,_,rfl,i,A,v,rfl,rfl⟩;have z:k=p:=ahd;subst z;have g1:¬(k:Int)<(k:Int):=ahd;have x:=t.o;have I:=ji ((kM gen seq k k 0 b).map (ft aA));subst x;clear t hr G i;refine wk ?_;refine aB ?_;simp only[AV.frz,I];refine af ?_ h.o;simp only[AV.refs,jI]
theorem aay{ws:List WtE}{ck:Nat}(h:OE ws n ck){i:Nat}(H:i<n)(s:List UInt8):OE (JI ws ck i s).1 n (JI ws ck i s).2/\∀(S:List Sec) (j:Nat),sL S (JI ws ck i s).1 j=if j=i then s else sL S ws j:=by
 unfold JI;rcases RF ws i with⟨a,b⟩|⟨m,a,b⟩;rw[a];have z:∀e∈ws,e.1≠(i:Int):=λe d q=>by have:=afr.1 b e d;simp[q]at this
 refine⟨⟨?_,?_,λe d=>?_,λe d=>?_⟩,λS j=>?_⟩;rw[aeD,afQ];refine⟨h.keys,ahe,λx p y w q=>?_⟩;simp only[aex,afh,aeG]at w;obtain⟨e,d,rfl⟩:=ael.1 p;exact z e d (q.trans w);rw[aeD,afQ];refine⟨h.born,ahe,λx p y w q=>?_⟩;simp only[aex,afh,aeG]at w;obtain⟨e,d,rfl⟩:=ael.1 p;have:=h.lt e d;omega;rcases aen.1 d with d|d;have:=h.lt e d;show e.2.2<ck+1;omega;rw[aeG]at d;subst d;exact Nat.lt_succ_self _;rcases aen.1 d with d|d;exact h.rng e d;rw[aeG]at d;subst d;show 0<=(i:Int)/\(i:Int)<n;omega;unfold sL;rw[List.find?_append];by_cases c:j=i;subst c;rw[b,if_pos rfl];simp;rw[if_neg c];cases ws.find? (λe=>decide (e.1=(j:Int)))with
 |some e=>rfl
 | none =>
   have l:¬(i:Int)=(j:Int):=ahd;simp[l]
 .rw [a];rw [agA] at a;obtain ⟨k,G,D⟩:=a;have A:ws.getD m default=ws[m]:=(by simp [k]);have o:ws[m].1=(i:Int):=(by simpa using G);have E:(ws.set m ((i:Int),s,(ws.getD m default).2.2)).map (·.1)=ws.map (·.1):=by
   rw[List.map_set];show(ws.map (·.1)).set m (i:Int)=_;rw[<- o];apply afj;intro t;by_cases c:t=m
   .subst c;rw[aeQ (by simpa using k)];simp[k]
   .rw[aeo (Ne.symm c)]
  have F:(ws.set m ((i:Int),s,(ws.getD m default).2.2)).map (·.2.2)=ws.map (·.2.2):=by
   rw[List.map_set];show(ws.map (·.2.2)).set m (ws.getD m default).2.2=_;rw[A];apply afj;intro t;by_cases c:t=m
   .subst c;rw[aeQ (by simpa using k)];simp[k]
   .rw[aeo (Ne.symm c)]
  have B:∀e∈ws.set m ((i:Int),s,(ws.getD m default).2.2),∃f∈ws,f.1=e.1/\f.2.2=e.2.2:=λe d=>by
   rcases List.mem_or_eq_of_mem_set d with d|d
   .exact⟨e,d,rfl,rfl⟩
   .exact⟨ws[m],afx k,by rw[d];exact o,by rw[d,A]⟩
  refine⟨⟨by rw[E];exact h.keys,by rw[F];exact h.born,λe d=>?_,λe d=>?_⟩,λS j=>?_⟩
  .obtain⟨f,g,r,u⟩:=B e d;rw[<- u];exact h.lt f g
  .obtain⟨f,g,r,u⟩:=B e d;rw[<- r];exact h.rng f g
  .obtain⟨v,hv⟩:=aec ((ws.getD m default).2.2);show sL S (ws.set m ((i:Int),s,(ws.getD m default).2.2)) j=_;rw[hv];have key:∀(W:List WtE) (m:Nat),(∃e,W[m]?=some e/\e.1=(i:Int))->(∀t,t<m->∀e,W[t]?=some e->e.1≠(i:Int))->sL S (W.set m ((i:Int),s,v)) j=if j=i then s else sL S W j:=by
    intro W;induction W with
    |nil=>rintro m ⟨e,q,_⟩;simp at q
    | cons x W ih =>
      rintro m ⟨e,g,r⟩ u;unfold sL at ih⊢;cases m with
      | zero =>
        simp only[afc,aej]at g;subst g;rw[List.set_cons_zero,afo,afo,r];by_cases c:j=i
        .subst c;simp
        .have l:¬(i:Int)=(j:Int):=ahd;simp[c,l]
      | succ m =>
        rw[List.set_cons_succ,afo,afo];have p:=u 0 (Nat.succ_pos _) x rfl;by_cases l:x.1=(j:Int)
        .have c:¬j=i:=λe=>p (by rw[l,e])
         simp[l,c]
        .simp only[decide_eq_false l];exact ih m ⟨e,g,r⟩ (λt C f d=>u (t+1) ahd f d)
   refine key ws m ⟨_,by simp[k],o⟩ λt C e d=>?_
   have:=D t C;obtain⟨I,rfl⟩:=aei.1 d;simpa using this
theorem OE.nil(n ck:Nat):OE [] n ck:=⟨agd,agd,(λ_ a=>by cases a),(λ_ a=>by cases a)⟩
theorem ZO(S:List Sec)(j:Nat):sL S [] j=S.getD j []:=rfl
theorem Xf{S ss:List Sec}{a:Nat}(h:a+ss.length<=S.length)(b:k<ss.length)(j:Nat):(fM S a (ss.take (k+1))).getD j []=if j=a+k then ss.getD k []else(fM S a (ss.take k)).getD j []:=by
 have l1:(ss.take (k+1)).length=k+1:=by simp;omega
 have l0:(ss.take k).length=k:=by simp;omega
 rw[aeA,aeA,aeA];by_cases c:j=a+k;rw[if_pos c,LE ahd ahd ahd,aeS ahd,show j-a=k by omega];rw[if_neg c];by_cases d:a<=j/\j<a+k;rw[LE ahd ahd ahd,LE ahd ahd ahd,aeS ahd,aeS ahd];rw[jh ahd ahd,jh ahd ahd]
theorem abd{S ss:List Sec}{a:Nat}{ws:List WtE}(h:a+ss.length<=S.length)(c:∀j,sL S ws j=(fM S a ss).getD j []):(List.range S.length).map (sL S ws)=fM S a ss:=by
 apply afj;intro i;by_cases b:i<S.length;rw[ae8,List.getElem?_range b,aeC,c,aeA];have:i<(fM S a ss).length:=by rw[nr h];exact b
 simp[this];rw[afb (by simp;omega),afb (by rw[nr h];omega)]
abbrev j8(dp:Nat)(j:Jst)(cl:Bool):List AV:=[.ptr dp 0,.int .i64 j.gen,.int .i64 j.half,.int .i64 j.slot,.int .i64 j.used,.int .i64 j.n,.bool cl,.bool false]
theorem UA{L:List Blk}{i:Nat}{b:Blk}(h:L[i]?=some b):L.set i b=L:=by apply afj;intro k;by_cases c:k=i;rw[c,aeQ (aei.1 h).1,h];rw[aeo (Ne.symm c)]
section
variable {L:List Blk}{jp dp lp wp ck:Nat}{cp:Option Nat}{lim:Int}{x y z:AV}{S:List Sec}{j:Jst}{cl:Bool}
theorem LI(f:L[jp]?=some (.cells (j8 dp j cl)))(hd:L[dp]?=some (.cells (fy lp wp S.length cp lim false 0 x y z)))(e:2<=S.length)(c:S.length<=8192){K:aeh}(h:K (.int .i64 (aQ S.length:Nat)) L):aeg 54 [.ptr jp 0] L K:=by
 have kk1:Hid (∀{K:aeh},K (.int .i64 (S.length:Int)) L->aeg 51 [.ptr dp 0] L K):=@hid _ (λ{K} q=>Wi hd q);obtain⟨n,a⟩:=aec (S.length);obtain⟨m,d⟩:=aec (n-2);have g3:IntKind.i64.wrap ((n:Int)-2)=(m:Int):=by rw[ac ahd ahd];omega
 have g4:IntKind.i64.wrap ((m:Int).tdiv 2)=(aQ n:Int):=by rw[show(m:Int).tdiv 2=((m/2:Nat):Int)from rfl,ac ahd ahd];unfold aQ;omega
 obtain⟨s,b⟩:=aec (aQ n);rw[b]at g4;rw[a]at kk1;rw[a,b]at h;replace h:=hid h;clear hd d b e c a;refine aef sM ?_;exact ag h.o
theorem LK(g:L[jp]?=some (.cells (j8 dp j cl)))(hd:L[dp]?=some (.cells (fy lp wp S.length cp lim false 0 x y z)))(f:2<=S.length)(a:S.length<=8192){b:Nat}(k:b<=1){K:aeh}(h:K (.int .i64 (aJ S.length b:Nat)) L):aeg 56 [.ptr jp 0,.int .i64 (b:Int)] L K:=by
 obtain⟨n,c⟩:=aec (aQ S.length);have kk1:Hid (∀{K:aeh},K (.int .i64 (n:Int)) L->aeg 54 [.ptr jp 0] L K):=@hid _ (λ{K} q=>LI g hd f a (by rw[c];exact q));have i:n<=8192:=by rw[<- c];unfold aQ;omega
 have e:b*n<=8192:=by rcases(by omega:b=0\/b=1)with rfl|rfl<;>omega
 unfold aJ at h;rw[c]at h;obtain⟨m,d⟩:=aec (b*n);rw[d]at h e;have g3:IntKind.i64.wrap ((b:Int)*(n:Int))=(m:Int):=by rw[show(b:Int)*(n:Int)=((b*n:Nat):Int)from by simp,d,ac ahd ahd]
 have g4:IntKind.i64.wrap (2+(m:Int))=((2+m:Nat):Int):=by rw[ac ahd ahd];omega
 replace h:=hid h;clear hd g d c f a;refine aef sG ?_;exact ag h.o
theorem RZ(U:L[jp]?=some (.cells (j8 dp j false)))(hd:L[dp]?=some (.cells (fy lp wp S.length cp lim false 0 x y z)))(hl:L[lp]?=some (.cells (S.map AV.str)))(hw:L[wp]?=some (.map [] ck))(n1:dp≠lp)(n2:dp≠wp)(n3:lp≠wp)(n4:jp≠lp)(n5:jp≠wp)(ab:S.length<=8192){a:Nat}{ss:List Sec}{c:Option Nat}(B:∀s∈ss,s.length=128)(A:a+ss.length<=S.length)(p:0<ss.length->((a+ss.length:Nat):Int)<=lim){K:aeh}(h:∀M d,M[lp]?=some (.cells ((fM S a ss).map AV.str))->M[wp]?=some (.map [] d)->(∀j,j≠lp->j≠wp->j<L.length->M[j]?=L[j]?)->L.length<=M.length->K (.int .i64 0) M):
  aeg 64 [.ptr jp 0,.int .i64 (a:Int),.sl (ss.map AV.str) ss.length c] L K:=by
 have a6:=hid (aei.1 hd).1;have an:=hid (aei.1 hw).1;have a5:=hid (aei.1 hl).1;have Z:=hid (aei.1 U).1;replace h:=hid h;have O:=hid ab;have u:=hid p;have r:=hid A;have D:=hid B;have Y:=hid hw;have av:=hid hl;have X:=hid hd;have ai:=hid U;obtain⟨N,t⟩:=aec (ss.map AV.str);have a0:N.length=ss.length:=by rw[<- t];simp
 have I:Hid (∀i,i<ss.length->N.getD i .undef=.str (ss.getD i [])):=hid (λi h2=>by rw[<- t,aeA,aeA];simp[h2])
 rw[t];have ap:∀b:Blk,(L.set wp b)[jp]?=some (.cells (j8 dp j false)):=λb=>by rw[aeo (Ne.symm n5)];exact U
 clear p A B hl hd hw U t;refine aef vU ?_;refine ao (λm T' L'=>∃(k:Nat) (ws:List WtE) (d:Nat),m=ss.length-k/\k<=ss.length/\Hid (OE ws S.length d/\∀j,sL S ws j=(fM S a (ss.take k)).getD j [])/\T'=[(13,.int .i64 (k:Int)),(12,.int .i64 ss.length),(11,.sl N ss.length c),(6,.int .i64 0),(0,.ptr jp 0),(1,.int .i64 (a:Int)),(2,.sl N ss.length c)]/\L'=L.set wp (.map (ws.map wtA) d)) ahh ⟨0,[],ck,rfl,aep _,hid ⟨OE.nil _ _,λj=>by simp[ZO,fM]⟩,rfl,(UA Y.o).symm⟩ ?_;rintro _ _ _ ⟨k,ws,d,rfl,hk,R,rfl,rfl⟩;have v:Hid ((L.set wp (.map (ws.map wtA) d))[dp]?=some (.cells (fy lp wp S.length cp lim false 0 x y z))):=hid (by rw[aeo (Ne.symm n2)];exact X.o);have g:Hid ((L.set wp (.map (ws.map wtA) d))[lp]?=some (.cells (S.map AV.str))):=hid (by rw[aeo (Ne.symm n3)];exact av.o);have w:Hid ((L.set wp (.map (ws.map wtA) d))[wp]?=some (.map (ws.map wtA) d)):=hid (aeQ an.o);by_cases l:k<ss.length;have hf:=r.o;have g1:(k:Int)<(ss.length:Int):=ahd;have g2:=aee k ahd;have g3:IntKind.i64.wrap ((a:Int)+(k:Int))=((a+k:Nat):Int):=by rw[ac ahd ahd];omega
 have a4:k<N.length:=ahd;have e1:=I.o k l;obtain⟨s,Q⟩:=aec (ss.getD k []);rw[Q]at e1;have G:s.length=128:=D.o s (by rw[<- Q];simp[l]);obtain⟨n,f⟩:=R.o;have T:=aay n (i:=a+k) ahd s;obtain⟨⟨E,H⟩,C⟩:∃q,JI ws d ((a+k:Nat):Int) s=q:=⟨_,rfl⟩;have kk1:Hid (∀{K:aeh},K (.int .i64 0) (L.set wp (.map (E.map wtA) H))->aeg 89 [.ptr dp 0,.int .i64 ((a+k:Nat):Int),.str s] (L.set wp (.map (ws.map wtA) d)) K):=@hid _ (λ{K} q=>ZE v.o g.o w.o (Ne.symm n2) G ahd (by have:=u.o ahd;omega) (by rw[C,agn];exact q));rw[C]at T;have V:Hid (OE E S.length H/\∀j,sL S E j=(fM S a (ss.take (k+1))).getD j []):=hid ⟨T.1,λj=>by rw[T.2,Xf hf l,Q,f]⟩;clear R n f T C Q hf v g w;refine wk ?_;exact ahi ahd ahg ⟨k+1,_,_,rfl,l,V,rfl,rfl⟩;have ad:k=ss.length:=ahd;subst ad;have g1:¬(ss.length:Int)<(ss.length:Int):=ahd;obtain⟨n,f⟩:=R.o;rw[aeI]at f;clear l hk;refine wk ?_;refine ZI v.o g.o w.o n n1 n2 n3 O.o (λM W m2 m3 m4=>?_);rw[abd r.o f]at W;have J:L.length<=M.length:=by simpa using m4
 have F:∀i,i≠lp->i≠wp->i<L.length->M[i]?=L[i]?:=λi a1 a2 a3=>by rw[m3 i a1 a2 (by simpa using a3),aeo (Ne.symm a2)]
 have al:M[jp]?=some (.cells (j8 dp j false)):=by rw[F jp n4 n5 Z.o];exact ai.o
 have P:∀b,M[jp]?=some b->M.set jp b=M:=λb e=>UA e
 have hM:M.set jp (.cells (j8 dp j false))=M:=UA al;have h2:=hid (h.o M d W m2 F J);clear P R n f W m2 m3 F m4 J h v g w ap I;refine wk ?_;exact ag h2.o
end
variable {L:List Blk}{K:aeh}
set_option maxHeartbeats 8000000
set_option maxRecDepth 100000
theorem YP{c:Cel}(h:rdC aA s=some c):c.gen<2^32/\c.seq<2^32/\c.part<2^16/\c.parts<2^16/\c.data.length<=110:=by unfold rdC at h;split at h;cases h;split at h;cases h;split at h;cases h;split at h;cases h;cases h;rename_i q _;simp only[not_or]at q;exact⟨kJ s 5 4,kJ s 9 4,kJ s 13 2,kJ s 15 2,by simp only[afg];omega⟩
theorem WV{f:σ->Option Cel}{R:List σ}{a:List (List UInt8)}(h:jJ f gen a.length R 0 1 []=none):gg f gen n R a=a:=by
 cases n with
 |zero=>rfl
 | succ n =>
   cases R with
   |nil=>rfl
   |cons s r=>rw[gg,h]
theorem WU{f:σ->Option Cel}{R c:List σ}{a:List (List UInt8)}(g:R≠[])(e:R.length<=n)(h:jJ f gen a.length R 0 1 []=some (b,c)):∃d,n=d+1/\gg f gen n R a=gg f gen d c (a++[b]):=by
 cases R with
 |nil=>exact absurd rfl g
 | cons s r =>
   cases n with
   |zero=>simp at e
   |succ n=>exact⟨n,rfl,by rw[gg,h]⟩
theorem WW{f:σ->Option Cel}{seq p:Nat}{r:List σ}(h:p<=k):jJ f gen seq r k p b=some (b,r):=by
 cases r with
 |nil=>rw[jJ,if_pos h]
 |cons s r=>rw[jJ,if_pos h]
theorem OJ(h:n<2^62):IntKind.u64.wrap (n:Int)=(n:Int):=by simp only[IntKind.wrap,IntKind.signed,IntKind.bits];simp;omega
theorem We(h:n<2^62):IntKind.i64.wrap (n:Int)=(n:Int):=ac ahd ahd
theorem UE{R:List Sec}(J:∀s∈R,s.length=128)(hg:gen<2^32)(hn:R.length<=n)(hR:R.length<=8192)(h:K (.sl ((gg (rdC aA) gen n R []).map AV.str) (gg (rdC aA) gen n R []).length none) L):
  aeg 57 [.sl (R.map AV.str) R.length none,.int .i64 (gen:Int)] L K:=by
 obtain⟨F,hF⟩:=aec (gg (rdC aA) gen n R []);rw[hF]at h;replace h:=hid h;have ab:=hid hF;have w:=hid J;clear hF J;refine aef DW ?_;refine cB (l:=[]) (n:=0) 5 1 rfl (aeW 1).symm ?_;refine ao (λm T' L'=>∃(g:List Sec) (T:Nat) (b:List (List UInt8)) (C M:List AV) (on f:Nat) (X:List Blk),m=f/\Hid (g.length=f/\f<=T/\(∀s∈g,s.length=128)/\gg (rdC aA) gen T g b=F/\C=b.map AV.str/\M=g.map AV.str/\b.length=on)/\on+f<=8192/\T'=[(5,.gsl C on L.length 1),(4,.sl [] 0 (some 0)),(0,.sl M f none),(1,.int .i64 (gen:Int))]/\L'=L++(.spare on 1::X)) ahh ⟨R,n,[],[],_,0,_,[],rfl,hid ⟨rfl,hn,w.o,ab.o,rfl,rfl,rfl⟩,by simpa using hR,rfl,ahe⟩ ?_;clear hn ab w hR;rintro m _ _ ⟨g,T,b,C,M,on,f,X,hm,j,ho,rfl,rfl⟩;subst m;by_cases an:0<f;have g1:(0:Int)<(f:Int):=ahd;refine wk ?_;refine ao (λm T' L'=>∃(k p:Nat) (body:List UInt8) (Y:List Blk),m=f+1-k/\k<=f/\p<65536/\body.length<=110*k/\(k=0->p=1)/\Hid (jJ (rdC aA) gen on (g.drop k) k p body=jJ (rdC aA) gen on g 0 1 [])/\T'=[(8,.int .u64 (p:Int)),(7,.int .i64 (k:Int)),(6,.str body),(5,.gsl C on L.length 1),(4,.sl [] 0 (some 0)),(0,.sl M f none),(1,.int .i64 (gen:Int))]/\L'=L++(.spare on 1::(X++Y))) ahh ⟨0,1,[],[],rfl,aep _,by decide,aep _,λ_=>rfl,hid rfl,rfl,ahe⟩ ?_;rintro m _ _ ⟨k,p,body,Y,hm,hk,hp,a4,v,u,rfl,rfl⟩;subst m;have w1:=OJ (n:=k) ahd;by_cases a5:k<p;have g2:(k:Int)<(p:Int):=ahd;have a:Hid (jJ (rdC aA) gen on (g.drop k) k p body=none->K (.sl C on none) L):=hid (λe=>by obtain⟨B,P,O,A,G,N,y⟩:=j.o;rw[u.o,<- y]at e;rw[WV e]at A;have:=h.o;rw[<- A,y,<- G]at this;exact this)
 have r:Hid (AV.frzL C=C/\AV.refsL (λi=>decide (i<L.length)) C=true):=hid (by obtain⟨B,P,O,A,G,N,y⟩:=j.o;rw[G];exact⟨ji _,jI _ _⟩)
 by_cases E:k=f;have x:=hid (a.o (by obtain⟨B,P,O,A,G,N,y⟩:=j.o;rw[afI ahd,jJ,if_neg ahd]))
 subst E;clear j u a v h;refine wk ?_;refine aB ?_;simp only[AV.frz,r.o.1];refine af ?_ x.o;simp only[AV.refs,r.o.2];obtain⟨s,I⟩:=aec (g.getD k []);have t:k<g.length:=by have:=j.o.1;omega
 have H:g.drop k=s::g.drop (k+1):=by rw[ae3 t,<- I];simp[t]
 have e1:M.getD k .undef=.str s:=by rw[j.o.2.2.2.2.2.1,<- I,aeA,aeA];simp[t]
 have a2:k<M.length:=by rw[j.o.2.2.2.2.2.1,aeu];exact t
 have d:s.length=128:=j.o.2.2.1 s (by rw[<- I];simp[t]);have g3:decide ((k:Int)=(f:Int))=false:=decide_eq_false ahd;have g4:(k:Int)<(f:Int):=ahd;have g5:IntKind.i64.wrap ((k:Int)+1)=((k+1:Nat):Int):=by rw[ac ahd ahd];omega
 rw[H,jJ,if_neg ahd]at a u;cases hc:rdC aA s with
 | none =>
   have kk1:Hid (Ctr Tryz.prog 55 [.str s] (.tup [.agg (Gj TZ),.bool false])):=@hid _ (λ{L K} q=>OV d (by rw[hc];exact q));rw[hc]at a;have x:=hid (a.o rfl);clear j u a v h E hc I H d;refine wk ?_;refine aB ?_;simp only[AV.frz,r.o.1];refine af ?_ x.o;simp only[AV.refs,r.o.2]
 | some c =>
   obtain⟨l1,l2,l3,l4,l5⟩:=YP hc;obtain⟨S,cs,cn,Z,cd⟩:=c;dsimp only at l1 l2 l3 l4 l5;have kk1:Hid (Ctr Tryz.prog 55 [.str s] (.tup [.agg (Gj ⟨S,cs,cn,Z,cd⟩),.bool true])):=@hid _ (λ{L K} q=>OV d (by rw[hc];exact q));rw[hc]at a u;dsimp only at a u;obtain⟨y1,ap⟩:=aec (decide ((S:Int)=(gen:Int)));obtain⟨y2,ai⟩:=aec (decide ((cs:Int)=(on:Int)));obtain⟨y3,al⟩:=aec (decide ((cn:Int)=(k:Int)));obtain⟨z,hz⟩:=aec (decide (0<(k:Int)));obtain⟨y4,a0⟩:=aec (decide ((Z:Int)=(p:Int)));obtain⟨q,hq⟩:=aec ((!y1 || !y2 || !y3 ||(z && !y4)));have D:(S≠gen\/cs≠on\/cn≠k\/(0<k/\Z≠p))↔q=true:=by rw[<- hq,<- ap,<- ai,<- al,<- hz,<- a0];simp only[ae4,aeq,aeU,decide_eq_true_eq,decide_eq_false_iff_not];omega
   have w2:=We (n:=S) ahd;have w3:=OJ (n:=on) ahd;cases q with
   | true =>
     rw[if_pos (D.2 rfl)]at a;have x:=hid (a.o rfl);clear j u a v h E hc I H d D;refine wk ?_;refine aB ?_;simp only[AV.frz,r.o.1];refine af ?_ x.o;simp only[AV.refs,r.o.2]
   | false =>
     rw[if_neg (λe=>by have:=D.1 e;cases this)]at u;clear a E hc I H d D h j;have g6:(body.length:Int)+(cd.length:Int)<=9223372036854775807:=ahd;refine wk ?_;exact ahi ahd ahg ⟨k+1,Z,_,Y++[.cells (Gj ⟨S,cs,cn,Z,cd⟩)],rfl,ahd,l4,by simp;omega,λe=>ahd,u,rfl,ahe⟩
 have a3:1<=k:=by by_cases h0:k=0;have:=v h0;omega;omega
 have g2:¬(k:Int)<(p:Int):=ahd;obtain⟨W,U⟩:=aec ((M.drop k).take (f-k));have ad:Hid (∃Q,(g.drop k).length=f-k/\f-k<=Q/\(∀s∈g.drop k,s.length=128)/\gg (rdC aA) gen Q (g.drop k) (b++[body])=F/\C++[.str body]=(b++[body]).map AV.str/\W=(g.drop k).map AV.str/\(b++[body]).length=on+1):=hid (by obtain⟨B,P,O,A,G,N,y⟩:=j.o;have e:jJ (rdC aA) gen b.length g 0 1 []=some (body,g.drop k):=(by rw[y,<- u.o,WW ahd]);obtain⟨Q,q1,q2⟩:=WU (n:=T) (by intro e;rw[e]at B;simp at B;omega) ahd e;refine⟨Q,by simp;omega,ahd,λs I=>O s (afM I),by rw[<- q2];exact A,by rw[G];simp,?_,by simp;omega⟩;rw[<- U,N,<- agC,aeO (by simp;omega)])
 have g6:k<=f:=hk;have g7:(0:Int)<=(k:Int):=ahd;clear j u v h;refine wk ?_;obtain⟨Q,av⟩:=ad.o;exact ahi ahd ahg ⟨g.drop k,Q,b++[body],_,W,on+1,f-k,_,rfl,hid av,ahd,rfl,rfl⟩;have a1:f=0:=ahd;subst a1;have V:F=b:=by obtain⟨B,P,O,A,G,N,y⟩:=j.o;rw[<- A,ae2.1 B];cases T<;>rfl
 obtain⟨B,P,O,A,G,N,y⟩:=j.o;have e5:=ji b;rw[V,y]at h;subst G;clear j B P O A N y V an ho;refine wk ?_;refine aB ?_;simp only[AV.frz,e5];refine af ?_ h.o;simp only[AV.refs,jI]
theorem UL{bs:List (List UInt8)}(a:k<bs.length):bm (bs.take (k+1))=bm (bs.take k)+cC (bs.getD k []).length:=by unfold bm;rw[aeM a,aeD,List.sum_append];simp[a]
theorem Y3(bs:List (List UInt8))(k:Nat):bm (bs.take k)<=bm bs:=by
 have:bm bs=bm (bs.take k)+bm (bs.drop k):=by unfold bm;rw[<- List.sum_append,<- aeD,afH]
 omega
theorem XS{bs:List (List UInt8)}(a:k<bs.length):gm gen 0 (bs.take (k+1))=gm gen 0 (bs.take k)++vI gen k (bs.getD k []):=by rw[aeM a,Qu];simp[gm,a,af7 (Nat.le_of_lt a)]
theorem JR(c:Cel)(h:c.data.length<=110):(ft aA c).length=128:=Q3 (by rw[ZV];omega)
theorem SN(g h:Nat):(yC aA g h).length=128:=Q3 (by simp[hdB,ff])
section
variable {L:List Blk}{jp dp lp wp ck:Nat}{cp:Option Nat}{lim:Int}{x y z:AV}{S:List Sec}{j:Jst}
theorem Tw(hj:L[jp]?=some (.cells (j8 dp j false)))(hd:L[dp]?=some (.cells (fy lp wp S.length cp lim false 0 x y z)))(hl:L[lp]?=some (.cells (S.map AV.str)))(hw:L[wp]?=some (.map [] ck))(n1:dp≠lp)(n2:dp≠wp)(n3:lp≠wp)(n4:jp≠lp)(n5:jp≠wp)(n6:jp≠dp)(Q:S.length<=8192)(h4:4<=S.length)(hh:j.half<=1)(cm:lim<=9000){bs:List (List UInt8)}{c:Option Nat}(hb:bs.length<=1000000){K:aeh}(h:∀M b7,M[jp]?=some (.cells (j8 dp (aX aA S (if(S.length:Int)<lim then(S.length:Int)else lim) j bs).2.1 false))->M[lp]?=some (.cells ((aX aA S (if(S.length:Int)<lim then(S.length:Int)else lim) j bs).2.2.map AV.str))->M[wp]?=some (.map [] b7)->(∀i,i≠jp->i≠lp->i≠wp->i<L.length->M[i]?=L[i]?)->L.length<=M.length->K (.int .i64 (aX aA S (if(S.length:Int)<lim then(S.length:Int)else lim) j bs).1) M):
  aeg 29 [.ptr jp 0,.sl (bs.map AV.str) bs.length c] L K:=by
 obtain⟨rm,V⟩:=aec ((if(S.length:Int)<lim then(S.length:Int)else lim));rw[V]at h;have av:=hid hj;have cq:=hid hd;have b0:=hid hl;have bn:=hid hw;replace h:=hid h;obtain⟨AL,a7⟩:=aec (bs.map AV.str);have ch:AL.length=bs.length:=by rw[<- a7];simp
 have w:Hid (∀i,i<bs.length->AL.getD i .undef=.str (bs.getD i [])):=hid (λi h2=>by rw[<- a7,aeA,aeA];simp[h2])
 rw[a7];obtain⟨n,hn⟩:=aec (bs.length);rw[hn]at ch w hb;rw[hn];clear hl hw a7;refine aef sH ?_;refine ao (λm T' L'=>∃(k nd:Nat),m=n-k/\k<=n/\Hid (nd=min (bm (bs.take k)) 8193/\∀b∈bs.take k,b.length<=262144)/\T'=[(26,.int .i64 (k:Int)),(25,.int .i64 (n:Int)),(24,.sl AL n c),(5,.int .i64 (nd:Int)),(19,.bool false),(16,.bool false),(4,.int .i64 0),(0,.ptr jp 0),(1,.sl AL n c)]/\L=L') ahh ⟨0,0,rfl,aep _,hid ⟨rfl,ahe⟩,rfl,rfl⟩ ?_;rintro m _ _ ⟨k,nd,hm,hk,hI,rfl,rfl⟩;subst m;by_cases f:k<n;have g1:(k:Int)<(n:Int):=ahd;have g2:IntKind.i64.wrap ((k:Int)+1)=((k+1:Nat):Int):=by rw[ac ahd ahd];omega
 have c1:k<AL.length:=ahd;have e1:=w.o k f;obtain⟨b,B⟩:=aec (bs.getD k []);rw[B]at e1;have R:b∈bs:=by rw[<- B];simp[hn,f]
 by_cases b3:262144<b.length;have g3:(262144:Int)<(b.length:Int):=ahd;have e:aX aA S rm j bs=(5,j,S):=by unfold aX;rw[if_pos (afP.2 ⟨b,R,decide_eq_true b3⟩)]
 have h2:Hid (K (.int .i64 5) L):=hid (by have:=h.o L ck (by rw[e];exact av.o) (by rw[e];exact b0.o) bn.o (λ_ _ _ _ _=>rfl) (aek _);rw[e]at this;exact this)
 clear h hI e R w;refine wk ?_;exact ag h2.o;have g3:¬(262144:Int)<(b.length:Int):=ahd;obtain⟨p,hp⟩:=aec (cC b.length);have kk1:Hid (Ctr Tryz.prog 62 [.int .i64 (b.length:Int)] (.int .i64 (p:Int))):=@hid _ (λ{L K} q=>UM (n:=b.length) ahd (by rw[hp];exact q));have ai:p<=2384:=by rw[<- hp];unfold cC;omega
 have g:nd<=8193:=by rw[hI.o.1];omega
 have g4:IntKind.i64.wrap ((nd:Int)+(p:Int))=((nd+p:Nat):Int):=by rw[ac ahd ahd];omega
 obtain⟨bx,T⟩:=aec (min (nd+p) 8193);have g5:(if(8193:Int)<((nd+p:Nat):Int)then(8193:Int)else((nd+p:Nat):Int))=(bx:Int):=by rw[<- T];split<;>omega
 have a6:Hid (bx=min (bm (bs.take (k+1))) 8193/\∀b∈bs.take (k+1),b.length<=262144):=hid ⟨by rw[UL ahd,B,hp,<- T,hI.o.1];omega,λb' H=>by rw[aeM ahd]at H;rcases aen.1 H with H|H;exact hI.o.2 b' H;rw[aeG]at H;have:b'=b:=(by rw[H,<- B];simp[hn,f]);rw[this];omega⟩
 obtain⟨np,b1⟩:=aec (nd+p);rw[b1]at g4 g5;clear hI hp T R h w b1;refine wk ?_;exact ahi ahd ahg ⟨k+1,bx,rfl,f,a6,rfl,rfl⟩;have ct:k=n:=ahd;subst ct;have g1:¬(k:Int)<(k:Int):=ahd;obtain⟨i1,i2⟩:=hI.o;rw[<- hn,aeI]at i1 i2;have d1:rm<=lim:=by rw[<- V];split<;>omega
 have cl:aQ S.length<=4095:=by unfold aQ;omega
 obtain⟨v,bd⟩:=aec (1-j.half);have b6:v<=1:=ahd;have g2:IntKind.i64.wrap (1-(j.half:Int))=(v:Int):=by rw[ac ahd ahd];omega
 have J:aJ S.length v+aQ S.length<=S.length:=by unfold aJ aQ;rcases(by omega:v=0\/v=1)with rfl|rfl<;>omega
 obtain⟨sz,Z⟩:=aec (aQ S.length);obtain⟨F,U⟩:=aec (aJ S.length v);rw[Z]at cl J;rw[U]at J;have kk1:Hid (∀{K:aeh},K (.int .i64 (sz:Int)) L->aeg 54 [.ptr jp 0] L K):=@hid _ (λ{K} q=>LI hj hd ahd Q (by rw[Z];exact q));have kk2:Hid (∀{K:aeh},K (.int .i64 (F:Int)) L->aeg 56 [.ptr jp 0,.int .i64 (v:Int)] L K):=@hid _ (λ{K} q=>LK hj hd ahd Q b6 (by rw[U];exact q));have kk3:Hid (∀{K:aeh},K (.int .i64 rm) L->aeg 65 [.ptr dp 0] L K):=@hid _ (λ{K} q=>Sa hd (by rw[V];exact q));have c6:nd<=8193:=ahd;obtain⟨fn,bk⟩:=aec (F+nd);have g3:IntKind.i64.wrap ((F:Int)+(nd:Int))=(fn:Int):=by rw[ac ahd ahd];omega
 obtain⟨x1,b2⟩:=aec (decide ((sz:Int)<(nd:Int)));obtain⟨x2,cf⟩:=aec (decide (rm<2));obtain⟨x3,b5⟩:=aec (decide (0<(nd:Int)));obtain⟨x4,b4⟩:=aec (decide (rm<(fn:Int)));obtain⟨x5,cg⟩:=aec (decide (4294967295<=(j.gen:Int)));obtain⟨q,hq⟩:=aec ((x1 ||x2 ||(x3&&x4) ||x5));have Y:q=true↔(sz<bm bs\/rm<2\/(0<bm bs/\rm<((F+bm bs:Nat):Int))\/4294967295<=j.gen):=by rw[<- hq,<- b2,<- cf,<- b5,<- b4,<- cg];simp only[ae4,aeq,decide_eq_true_eq];by_cases c:bm bs<=8193;rw[i1,af7 c];omega;rw[i1,Nat.min_eq_right ahd];omega
 have bb:bs.any (λb=>decide (262144<b.length))=false:=by rw[afY];intro b hb;have:=i2 b hb;simp;omega
 have hR:aX aA S rm j bs=if q=true then(11,j,S)else(0,⟨j.gen+1,v,ym j,bm bs,bs.length⟩,fM (fM S F ((gm (j.gen+1) 0 bs).map (ft aA))) (ym j) [yC aA (j.gen+1) v]):=by unfold aX;rw[bb,if_neg (by decide),bd,U,Z];by_cases e:q=true;rw[if_pos (Y.1 e),if_pos e];rw[if_neg (λc=>e (Y.2 c)),if_neg e]
 rw[hR]at h;clear hI f hk hR bb;cases q with
 | true =>
   rw[if_pos rfl]at h;have h2:Hid (K (.int .i64 11) L):=hid (h.o L ck av.o b0.o bn.o (λ_ _ _ _ _=>rfl) (aek _));clear h Y i1 i2 w Z U bd V Q h4 hh cm J bk;refine wk ?_;exact ag h2.o
 | false =>
   rw[if_neg (by decide)]at h;have cb:¬(sz<bm bs\/rm<2\/(0<bm bs/\rm<((F+bm bs:Nat):Int))\/4294967295<=j.gen):=λc=>by have:=Y.2 c;cases this
   have g:nd=bm bs:=ahd;have r:=hid cb;replace g:=hid g;replace bk:=hid bk;clear Y cb i1;have ad:Hid (∀X:List Blk,(L++X)[jp]?=some (.cells (j8 dp j false))):=hid (λX=>aed hj);have a':Hid (∀X:List Blk,(L++X)[dp]?=some (.cells (fy lp wp S.length cp lim false 0 x y z))):=hid (λX=>aed hd);have bl:Hid (∀X:List Blk,(L++X)[lp]?=some (.cells (S.map AV.str))):=hid (λX=>aed b0.o);have bo:Hid (∀X:List Blk,(L++X)[wp]?=some (.map [] ck)):=hid (λX=>aed bn.o);refine wk ?_;clear kk1 kk2 kk3 hj hd;have c7:j.gen<4294967295:=(by have:=r.o;omega);have dk:k<=nd:=(by have:=lP bs;have:=g.o;omega);have c8:nd<=sz:=(by have:=r.o;have:=g.o;omega);obtain⟨E,c4⟩:=aec (j.gen+1);have g4:IntKind.i64.wrap ((j.gen:Int)+1)=(E:Int):=(by rw[ac ahd ahd];omega);have al:E<2^32:=ahd;rw[c4]at h;refine cB (l:=[]) (n:=0) 10 1 rfl (aeW 1).symm ?_;refine ao (λm T' L'=>∃(i W:Nat) (C:List AV) (X:List Blk),m=k-i/\i<=k/\Hid (C=((gm E 0 (bs.take i)).map (ft aA)).map AV.str/\W=(gm E 0 (bs.take i)).length)/\T'=[(84,.int .i64 (i:Int)),(83,.int .i64 (k:Int)),(82,.sl AL k c),(10,.gsl C W L.length 1),(9,.int .i64 (F:Int)),(8,.int .i64 (v:Int)),(5,.int .i64 (nd:Int)),(4,.int .i64 0),(0,.ptr jp 0),(1,.sl AL k c)]/\L'=L++(.spare W 1::X)) ahh ⟨0,0,[],[],rfl,aep _,hid ⟨rfl,rfl⟩,rfl,ahe⟩ ?_;rintro m _ _ ⟨i,W,C,X,hm,hi,hC,rfl,rfl⟩;subst m;by_cases f:i<k
   .have g5:(i:Int)<(k:Int):=ahd;have g6:IntKind.i64.wrap ((i:Int)+1)=((i+1:Nat):Int):=(by rw[ac ahd ahd];omega);have c1:i<AL.length:=ahd;have e1:=w.o i f;obtain⟨b,B⟩:=aec (bs.getD i []);rw[B]at e1;have cs:b.length<=262144:=i2 b (by rw[<- B];simp[hn,f]);obtain⟨dn,a0⟩:=aec (cC b.length);obtain⟨D,hD⟩:=aec (((vI E i b).map (ft aA)).map AV.str);have kk1:Hid (Ctr Tryz.prog 63 [.int .i64 (E:Int),.int .i64 (i:Int),.str b] (.sl D dn none)):=@hid _ (λ{L K} q=>Wl al ahd cs (by rw[a0,hD];exact q));have e2:=ad.o (.spare W 1::X);have a6:Hid (C++D=((gm E 0 (bs.take (i+1))).map (ft aA)).map AV.str/\W+dn=(gm E 0 (bs.take (i+1))).length):=hid (by rw[XS ahd,B,aeD,aeD,hD,<- hC.o.1,aez,lY,a0,<- hC.o.2];exact⟨rfl,rfl⟩)
    have d0:D.length=dn:=(by rw[<- hD,aeu,aeu,lY,a0]);have dt:D.all AV.one=true:=(by rw[<- hD];exact YZ _);have c':AV.frzL D=D:=(by rw[<- hD];exact ji _);have c9:W+dn<=4095:=by have v:=a6.o.2;rw[Gz]at v;have h2:=Y3 bs (i+1);have h3:=g.o;omega
    have g7:(W+dn)*16<=140737488355328:=ahd;have g8:W+dn<=140737488355328:=ahd;clear hC hD a0 ad a' bl bo h i2 w r;refine wk ?_;exact ahi ahd ahg ⟨i+1,_,_,_,rfl,f,a6,rfl,rfl⟩
   .have hie:i=k:=ahd;subst hie;have g5:¬(i:Int)<(i:Int):=ahd;obtain⟨O,a8⟩:=aec ((gm E 0 bs).map (ft aA));have c3:C=O.map AV.str/\W=O.length/\W=nd:=by have q:=hC.o;rw[<- hn,aeI,a8]at q;exact⟨q.1,by rw[q.2,<- a8];simp,by rw[q.2,Gz,g.o]⟩
    rw[a8]at h;clear hC f;obtain⟨rfl,q2,q3⟩:=c3;subst q2;have cx:O.length=nd:=q3;have c0:ym j<=1:=(by unfold ym;split<;>omega);refine wk ?_;refine dT ?_;rw[show AV.frzL [.ptr jp 0,.int .i64 (F:Int),.gsl (O.map AV.str) nd L.length 1]=[.ptr jp 0,.int .i64 (F:Int),.sl (O.map AV.str) O.length none]by rw[<- cx];simp only[AV.frzL,AV.frz,ji]];have P:∀s∈O,s.length=128:=λs hs=>by rw[<- a8]at hs;obtain⟨c,hc,rfl⟩:=ael.1 hs;exact JR c (LY ⟨ahd,al⟩ bs 0 ahd i2 c hc).1.len
    refine RZ (ad.o _) (a'.o _) (bl.o _) (bo.o _) n1 n2 n3 n4 n5 Q P ahd (λhp=>by have:=r.o;have:=g.o;omega) (λM b7 m1 m2 m3 m4=>?_);have an:M[jp]?=some (.cells (j8 dp j false)):=(by rw[m3 jp n4 n5 (by simp;have:=(aei.1 av.o).1;omega)];exact ad.o _);have ci:M[dp]?=some (.cells (fy lp wp (fM S F O).length cp lim false 0 x y z)):=(by rw[nr ahd,m3 dp n1 n2 (by simp;have:=(aei.1 cq.o).1;omega)];exact a'.o _);obtain⟨p1,ai⟩:=aec (ev E 4);obtain⟨p2,a5⟩:=aec (ev v 1);have l1:p1.length=4:=(by rw[<- ai,ff]);have l2:p2.length=1:=(by rw[<- a5,ff]);obtain⟨q1,ca⟩:=aec ([72]++p1);obtain⟨q2,cd⟩:=aec (q1++p2);have l3:q1.length=5:=(by rw[<- ca];simp[l1]);have l4:q2.length=6:=(by rw[<- cd,aez];omega);obtain⟨sc,a9⟩:=aec (yC aA E v);have a_:nX aA q2=sc:=(by rw[<- a9,yC,hdB,ai,a5,<- cd,<- ca];rfl);have b_:sc.length=128:=(by rw[<- a9];exact SN _ _);have kk1:Hid (Ctr Tryz.prog 67 [.int .u64 (E:Int),.int .i64 4] (.str p1)):=@hid _ (λ{L K} q=>lO (n:=E) (k:=4) ahd ahd ahd (by rw[ai];exact q));have kk2:Hid (Ctr Tryz.prog 67 [.int .u64 (v:Int),.int .i64 1] (.str p2)):=@hid _ (λ{L K} q=>lO (n:=v) (k:=1) ahd ahd ahd (by rw[a5];exact q));have kk3:Hid (Ctr Tryz.prog 66 [.str q2] (.str sc)):=@hid _ (λ{L K} q=>Yw ahd (by rw[a_];exact q));have w1:=OJ (n:=E) ahd;have w2:=OJ (n:=v) ahd;have d:((ym j+1:Nat):Int)<=lim:=(by have:=r.o;omega);have u:ym j+1<=(fM S F O).length:=(by rw[nr ahd];omega);have ab:(fM S F O).length<=8192:=by rw[nr ahd];exact Q
    have key:∀hd:Nat,ym j=hd->∀(t:List Blk) (G:Nat),t[lp]?=some (.cells ((fM (fM S F O) hd [sc]).map AV.str))->t[wp]?=some (.map [] G)->(∀j,j≠lp->j≠wp->j<M.length->t[j]?=M[j]?)->M.length<=t.length->t[jp]?=some (.cells (j8 dp j false))/\K (.int .i64 0) (t.set jp (.cells (j8 dp ⟨E,v,hd,nd,i⟩ false))):=λhd e t G r1 r2 r3 r4=>by have c_:=(aei.1 av.o).1;have ds:L.length<=M.length:=(by simp at m4;omega);have ap:t[jp]?=some (.cells (j8 dp j false)):=(by rw[r3 jp n4 n5 ahd];exact an);refine⟨ap,?_⟩;rw[e,hn,<- g.o,a9]at h;refine h.o _ G (aeQ ahd) (by rw[aeo n4];exact r1) (by rw[aeo n5];exact r2) (λa a1 a2 a3 a4=>?_) (by simp;omega);rw[aeo (Ne.symm a1),r3 a a2 a3 ahd,m3 a a2 a3 (by simp;omega),aem a4]
    replace key:=hid key;have N:=hid (And.intro m1 m2);have I:=hid ci;clear m1 m2 m3 m4 h ai a5 a9 a_ P ad a' bl bo g r w i2 hq b2 cf b5 b4 cg ci J U Z bd V;by_cases co:j.slot=0
    .have hhd:ym j=1:=if_pos co;rw[hhd]at d u;refine wk ?_;refine RZ (a:=1) (ss:=[sc]) (S:=fM S F O) an I.o N.o.1 N.o.2 n1 n2 n3 n4 n5 ab (λs hs=>by rw[aeG]at hs;rw[hs];exact b_) u (λ_=>d) (λt G r1 r2 r3 r4=>?_);obtain⟨ap,hK⟩:=key.o 1 hhd t G r1 r2 r3 r4;have A:=(aei.1 ap).1;have cy:∀b:Blk,(t.set jp b)[jp]?=some b:=λb=>aeQ A
     have c5:∀b c:Blk,((t.set jp b).set jp c)[jp]?=some c:=λb c=>aeQ (by simp;exact A)
     have c2:∀b c:Blk,(t.set jp b).set jp c=t.set jp c:=λb c=>agn _
     replace hK:=hid hK;clear key r1 r2 r3 r4 an I N kk1 kk2 kk3;refine wk ?_;exact ag hK.o
    .have hhd:ym j=0:=if_neg co;rw[hhd]at d u;refine wk ?_;refine RZ (a:=0) (ss:=[sc]) (S:=fM S F O) an I.o N.o.1 N.o.2 n1 n2 n3 n4 n5 ab (λs hs=>by rw[aeG]at hs;rw[hs];exact b_) u (λ_=>d) (λt G r1 r2 r3 r4=>?_);obtain⟨ap,hK⟩:=key.o 0 hhd t G r1 r2 r3 r4;have A:=(aei.1 ap).1;have cy:∀b:Blk,(t.set jp b)[jp]?=some b:=λb=>aeQ A
     have c5:∀b c:Blk,((t.set jp b).set jp c)[jp]?=some c:=λb c=>aeQ (by simp;exact A)
     have c2:∀b c:Blk,(t.set jp b).set jp c=t.set jp c:=λb c=>agn _
     replace hK:=hid hK;clear key r1 r2 r3 r4 an I N kk1 kk2 kk3;refine wk ?_;exact ag hK.o
end
set_option maxHeartbeats 8000000
set_option maxRecDepth 100000
section
variable {L:List Blk}{jp dp lp wp ck:Nat}{cp:Option Nat}{lim:Int}{x y z:AV}{S:List Sec}{j:Jst}
theorem abi(s:L[jp]?=some (.cells (j8 dp j false)))(hd:L[dp]?=some (.cells (fy lp wp S.length cp lim false 0 x y z)))(p:2<=S.length)(g:S.length<=8192)(v:j.half<=1)(B:j.used<=10000)(w:0<=lim)(t:lim<=9000){K:aeh}(h:K (.int .i64 (nq S.length (if(S.length:Int)<lim then(S.length:Int)else lim) j)) L):aeg 48 [.ptr jp 0] L K:=by
 obtain⟨rm,d⟩:=aec ((if(S.length:Int)<lim then(S.length:Int)else lim));have A:0<=rm/\rm<=9000:=by rw[<- d];split<;>omega
 obtain⟨sz,b⟩:=aec (aQ S.length);obtain⟨i,c⟩:=aec (aJ S.length j.half);have n:sz<=4095:=by rw[<- b];unfold aQ;omega
 have r:i<=9000:=by rw[<- c];unfold aJ;rw[b];rcases(by omega:j.half=0\/j.half=1)with e|e<;>rw[e]<;>omega
 have kk1:Hid (∀{K:aeh},K (.int .i64 (sz:Int)) L->aeg 54 [.ptr jp 0] L K):=@hid _ (λ{K} q=>LI s hd p g (by rw[b];exact q));have kk2:Hid (∀{K:aeh},K (.int .i64 (i:Int)) L->aeg 56 [.ptr jp 0,.int .i64 (j.half:Int)] L K):=@hid _ (λ{K} q=>LK s hd p g v (by rw[c];exact q));have kk3:Hid (∀{K:aeh},K (.int .i64 rm) L->aeg 65 [.ptr dp 0] L K):=@hid _ (λ{K} q=>Sa hd (by rw[d];exact q));unfold nq at h;rw[d,b,c]at h;obtain⟨a,l⟩:=aec (rm-(i:Int));have g1:IntKind.i64.wrap (rm-(i:Int))=a:=by rw[l];exact ac ahd ahd
 rw[l]at h;obtain⟨m,k⟩:=aec (min (sz:Int) a);have C:(if a<(sz:Int)then a else(sz:Int))=m:=by rw[<- k];split<;>omega
 rw[k]at h;obtain⟨u,f⟩:=aec (m-(j.used:Int));have g3:IntKind.i64.wrap (m-(j.used:Int))=u:=by rw[f];exact ac ahd ahd
 rw[f]at h;have g4:(if u>0 then u else 0)=max 0 u:=by split<;>omega
 rw[<- g4]at h;replace h:=hid h;clear hd d b c k f l g4;refine aef sN ?_;exact ag h.o
theorem Xk(P:L[jp]?=some (.cells (j8 dp j false)))(hd:L[dp]?=some (.cells (fy lp wp S.length cp lim false 0 x y z)))(hl:L[lp]?=some (.cells (S.map AV.str)))(hw:L[wp]?=some (.map [] ck))(n1:dp≠lp)(n2:dp≠wp)(n3:lp≠wp)(n4:jp≠lp)(V:jp≠wp)(n6:jp≠dp)(D:S.length<=8192)(h4:4<=S.length)(hh:j.half<=1)(hu:j.used<=10000)(U:0<=lim)(O:lim<=9000)(A:1<=j.gen/\j.gen<2^32)(a5:j.n<=10000){b:List UInt8}{K:aeh}(h:∀M l,M[jp]?=some (.cells (j8 dp (io aA S (if(S.length:Int)<lim then(S.length:Int)else lim) j b).2.1 false))->M[lp]?=some (.cells ((io aA S (if(S.length:Int)<lim then(S.length:Int)else lim) j b).2.2.map AV.str))->M[wp]?=some (.map [] l)->(∀i,i≠jp->i≠lp->i≠wp->i<L.length->M[i]?=L[i]?)->L.length<=M.length->K (.int .i64 (io aA S (if(S.length:Int)<lim then(S.length:Int)else lim) j b).1) M):
  aeg 28 [.ptr jp 0,.str b] L K:=by
 obtain⟨rm,u⟩:=aec ((if(S.length:Int)<lim then(S.length:Int)else lim));rw[u]at h;have t:=hid P;have ad:=hid hd;have H:=hid hl;have C:=hid hw;clear hl hw;by_cases g:262144<b.length;have g1:(262144:Int)<(b.length:Int):=ahd;have e:io aA S rm j b=(5,j,S):=if_pos g;have Y:Hid (K (.int .i64 5) L):=hid (by have:=h L ck (by rw[e];exact t.o) (by rw[e];exact H.o) C.o (λ_ _ _ _ _=>rfl) (aek _);rw[e]at this;exact this)
 clear h e hd;refine aef cW ?_;exact ag Y.o;have g1:¬(262144:Int)<(b.length:Int):=ahd;obtain⟨p,w⟩:=aec (cC b.length);have ai:p<=2384:=by rw[<- w];unfold cC;omega
 have an:1<=p:=by rw[<- w];unfold cC;omega
 obtain⟨T,d⟩:=aec (nq S.length rm j);have kk1:Hid (Ctr Tryz.prog 62 [.int .i64 (b.length:Int)] (.int .i64 (p:Int))):=@hid _ (λ{L K} q=>UM (n:=b.length) ahd (by rw[w];exact q));have kk2:Hid (∀{K:aeh},K (.int .i64 T) L->aeg 48 [.ptr jp 0] L K):=@hid _ (λ{K} q=>abi P hd ahd D hh hu U O (by rw[u,d];exact q));by_cases v:T<(p:Int);have e:io aA S rm j b=(11,j,S):=by unfold io;rw[if_neg g,d,w,if_pos v]
 have Y:Hid (K (.int .i64 11) L):=hid (by have:=h L ck (by rw[e];exact t.o) (by rw[e];exact H.o) C.o (λ_ _ _ _ _=>rfl) (aek _);rw[e]at this;exact this)
 clear h e hd w d u;refine aef cW ?_;exact ag Y.o;have G:(j.used:Int)+p<=aQ S.length/\(aJ S.length j.half:Int)+j.used+p<=rm:=by unfold nq at d;omega
 have ap:rm<=lim:=by rw[<- u];split<;>omega
 obtain⟨I,r⟩:=aec ((vI j.gen j.n b).map (ft aA));have N:I.length=p:=by rw[<- r,aeu,lY,w]
 have J:aJ S.length j.half+aQ S.length<=S.length:=by unfold aJ aQ;rcases(by omega:j.half=0\/j.half=1)with e|e<;>rw[e]<;>omega
 obtain⟨Q,F⟩:=aec (aJ S.length j.half);have e:io aA S rm j b=(0,{j with used:=j.used+p,n:=j.n+1},fM S (Q+j.used) I):=by unfold io;rw[if_neg g,d,w,if_neg v,r,F]
 rw[e]at h;rw[F]at J G;have kk3:Hid (∀{K:aeh},K (.int .i64 (Q:Int)) L->aeg 56 [.ptr jp 0,.int .i64 (j.half:Int)] L K):=@hid _ (λ{K} q=>LK P hd ahd D hh (by rw[F];exact q));obtain⟨W,B⟩:=aec (I.map AV.str);have kk4:Hid (Ctr Tryz.prog 63 [.int .i64 (j.gen:Int),.int .i64 (j.n:Int),.str b] (.sl W p none)):=@hid _ (λ{L K} q=>Wl A.2 ahd ahd (by rw[w,r,B];exact q));obtain⟨m,E⟩:=aec (Q+j.used);have g3:IntKind.i64.wrap ((Q:Int)+(j.used:Int))=(m:Int):=by rw[ac ahd ahd];omega
 have g4:IntKind.i64.wrap ((j.used:Int)+(p:Int))=((j.used+p:Nat):Int):=by rw[ac ahd ahd];omega
 have g5:IntKind.i64.wrap ((j.n:Int)+1)=((j.n+1:Nat):Int):=by rw[ac ahd ahd];omega
 have g6:¬T<(p:Int):=v;have ab:W.length=p:=by rw[<- B,aeu,N]
 rw[E]at h;have f:∀s∈I,s.length=128:=λs Z=>by rw[<- r]at Z;obtain⟨c,hc,rfl⟩:=ael.1 Z;exact JR c (Qn A ahd ahd c hc).len
 have kL:Hid (∀{K:aeh},(∀(M:List Blk) (l:Nat),M[lp]?=some (.cells ((fM S m I).map AV.str))->M[wp]?=some (.map [] l)->(∀j,j≠lp->j≠wp->j<L.length->M[j]?=L[j]?)->L.length<=M.length->K (.int .i64 0) M)->aeg 64 [.ptr jp 0,.int .i64 (m:Int),.sl W p none] L K):=@hid _ (λ{K} q=>by have:=RZ (c:=none) P hd H.o C.o n1 n2 n3 n4 V D (a:=m) (ss:=I) f ahd (λ_=>ahd) (K:=K) q;rw[B,N]at this;exact this)
 replace h:=hid h;replace E:=hid E;replace G:=hid G;clear e d v;refine aef cW ?_;refine kL.o λM l m1 m2 R m4=>?_
 have X:M[jp]?=some (.cells (j8 dp j false)):=by rw[R jp n4 V (aei.1 t.o).1];exact t.o
 have k:=(aei.1 X).1;have hK:=hid (h.o (M.set jp (.cells (j8 dp ⟨j.gen,j.half,j.slot,j.used+p,j.n+1⟩ false))) l (aeQ k) (by rw[aeo n4];exact m1) (by rw[aeo V];exact m2) (λi a1 a2 a3 a4=>by rw[aeo (Ne.symm a1)];exact R i a2 a3 a4) (by simp;exact m4));have av:∀b:Blk,(M.set jp b)[jp]?=some b:=λb=>aeQ k
 have a0:∀b c:Blk,((M.set jp b).set jp c)[jp]?=some c:=λb c=>aeQ (by simp;exact k)
 have al:∀b c:Blk,(M.set jp b).set jp c=M.set jp c:=λb c=>agn _
 clear h kL m1 m2 R m4 kk1 kk2 kk3 kk4 P hd f;refine wk ?_;exact ag hK.o
end
end Go.Proofs.YtajkbcmleihaoaaGreatDoor.Av
