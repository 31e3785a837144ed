/- Joined texts of the walk, made small by a program. -/
import Derived.Test.YtajkbcmleihaoaaGreatDoorZk8
import Derived.Test.YtajkbcmleihaoaaGreatDoorZk4
import Derived.Test.YtajkbcmleihaoaaGreatDoorRows
import Derived.KernelRfl
import Derived.Test.YtajkbcmleihaoaaGreatDoorZk5
import Derived.Test.YtajkbcmleihaoaaGreatDoorZk6
set_option linter.unusedSimpArgs false
set_option linter.unusedVariables false
namespace Go.Proofs.YtajkbcmleihaoaaGreatDoor.Av
open Go
abbrev Sec:=List UInt8
structure Jst where
 gen:Nat
 half:Nat
 slot:Int
 used:Nat
 n:Nat
def aQ(N:Nat):Nat:=(N-2)/2
def aK(N half:Nat):Nat:=2+half*aQ N
def fK(S:List Sec)(k:Nat)(ss:List Sec):List Sec:=S.take k++(ss++S.drop (k+ss.length))
def bj(bs:List (List UInt8)):Nat:=(bs.map λb=>cw b.length).sum
theorem mZ{S ss:List Sec}{k:Nat}(h:k+ss.length<=S.length):(fK S k ss).length=S.length:=by simp[fK];omega
theorem JB{S ss:List Sec}{k i:Nat}(h:k+ss.length<=S.length)(b:k<=i)(a:i<k+ss.length):(fK S k ss)[i]?=ss[i-k]?:=by unfold fK;rw[abN (by simp;omega),acv,adm aeu,abC aeu]
theorem jn{S ss:List Sec}{k i:Nat}(h:k+ss.length<=S.length)(a:i<k\/k+ss.length<=i):(fK S k ss)[i]?=S[i]?:=by unfold fK;rcases a with a|a;rw[abC (by simp;omega),acf a];rw[abN (by simp;omega),acv,adm aeu,abN aeu,aci];congr 1;omega
theorem Wv{S ss:List Sec}{k:Nat}(h:k+ss.length<=S.length):((fK S k ss).drop k).take ss.length=ss:=by unfold fK;rw[List.drop_left' (by simp;omega),List.take_left]
section
variable (sum:List UInt8->Nat)
def xw(j:Jst):Nat:=if j.slot=0 then 1 else 0
def aX(S:List Sec)(room:Int)(j:Jst)(bs:List (List UInt8)):Int×Jst×List Sec :=
 if bs.any (λb=>decide (262144<b.length))=true then(5,j,S)else
 if aQ S.length<bj bs\/room<2\/(0<bj bs/\room<((aK S.length (1-j.half)+bj bs:Nat):Int))\/4294967295<=j.gen then(11,j,S)else
 (0,⟨j.gen+1,1-j.half,xw j,bj bs,bs.length⟩,fK (fK S (aK S.length (1-j.half)) ((gq (j.gen+1) 0 bs).map (fq sum))) (xw j) [xJ sum (j.gen+1) (1-j.half)])
def uX(N:Nat)(room:Int)(j:Jst):Int:=max 0 (min (aQ N:Int) (room-aK N j.half)-j.used)
def iB(S:List Sec)(room:Int)(j:Jst)(b:List UInt8):Int×Jst×List Sec :=
 if 262144<b.length then(5,j,S)else
 if uX S.length room j<cw b.length then(11,j,S)else
 (0,{j with used:=j.used+cw b.length,n:=j.n+1},fK S (aK S.length j.half+j.used) ((vc j.gen j.n b).map (fq sum)))
structure aas(S:List Sec)(j:Jst):Prop where
 n4:4<=S.length
 half:j.half<=1
 slot:j.slot=-1\/j.slot=0\/j.slot=1
 hd:∀(i:Nat) (s:Sec),i<2->S[i]?=some s->∀g h,rdH sum s=some (g,h)->g<=j.gen
 cel:∀(i:Nat) (s:Sec),2<=i->i<2+2*aQ S.length->S[i]?=some s->∀c,rdC sum s=some c->c.gen<=j.gen
structure Ok(S:List Sec)(j:Jst)(recs:List (List UInt8)):Prop where
 n4:4<=S.length
 half:j.half<=1
 gen:1<=j.gen/\j.gen<2^32
 slot:j.slot=0\/j.slot=1
 hd:S[j.slot.toNat]?=some (xJ sum j.gen j.half)
 oh:∀(s:Sec),S[1-j.slot.toNat]?=some s->∀g h,rdH sum s=some (g,h)->g<j.gen
 row:((S.drop (aK S.length j.half)).take j.used)=(gq j.gen 0 recs).map (fq sum)
 used:j.used=bj recs/\j.used<=aQ S.length
 n:j.n=recs.length
 bd:∀b∈recs,b.length<=262144
 rest:∀(i:Nat) (s:Sec),2<=i->i<2+2*aQ S.length->i<aK S.length j.half\/aK S.length j.half+j.used<=i->S[i]?=some s->∀c,rdC sum s=some c->c.gen<j.gen
variable {sum}
theorem ED(gen:Nat):∀(bs:List (List UInt8)) (k:Nat),(gq gen k bs).length=bj bs
 |[],_=>rfl
 |b::bs,k=>by rw[gq,abP,l6,ED gen bs];simp[bj]
theorem Oh(gen:Nat):∀(bs cs:List (List UInt8)) (k:Nat),gq gen k (bs++cs)=gq gen k bs++gq gen (k+bs.length) cs
 |[],cs,k=>by simp[gq]
 |b::bs,cs,k=>by rw[acp,gq,gq,Oh gen bs,abK,abU,show k+1+bs.length=k+(bs.length+1)by omega]
theorem JS{gen:Nat}(d:1<=gen/\gen<2^32):∀(bs:List (List UInt8)) (k:Nat),k+bs.length<=2^32->(∀b∈bs,b.length<=262144)->∀c∈gq gen k bs,T6 c/\c.gen=gen
 |[],_,_,_,c,a=>by cases a
 | b::bs,k,hk,hb,c,a=>by
   rw[abU]at hk;rw[gq,abD]at a;rcases a with a|a
   .refine⟨Oa d aeu (hb b aev) c a,?_⟩;have:∀(n i:Nat) (b:List UInt8) (p:Nat),∀c∈kO gen k p n i b,c.gen=gen:=by
     intro n;induction n with
     |zero=>intro i b p c a;cases a
     | succ n ih =>
       intro i b p c a;rw[kO,abY]at a;rcases a with rfl|a
       .rfl
       .exact ih _ _ _ c a
    exact this _ _ _ _ c a
   .exact JS d bs (k+1) aeu (λx e=>hb x (by simp[e])) c a
theorem Y3(a:∀s,sum s<2^32){gen:Nat}(d:1<=gen/\gen<2^32){bs:List (List UInt8)}{k:Nat}(g:k+bs.length<=2^32)(e:∀b∈bs,b.length<=262144):((gq gen k bs).map (fq sum)).map (rdC sum)=(gq gen k bs).map some:=by
 rw[abW];refine acB λc f=>?_
 exact Tp a (JS d bs k g e c f).1
theorem lQ:∀bs:List (List UInt8),bs.length<=bj bs
 |[]=>abA _
 |b::bs=>by have c:=lQ bs;have a:=J8 b.length;simp only[bj,abO,adC,abU]at *;omega
theorem Ok.recs(p:∀s,sum s<2^32){S:List Sec}{j:Jst}{recs:List (List UInt8)}(h:Ok sum S j recs)(u:S.length<=8192):gg (rdC sum) j.gen (aQ S.length) ((S.drop (aK S.length j.half)).take (aQ S.length)) []=recs:=by
 have v:=lQ recs;have l:=h.used;have r:aQ S.length=(S.length-2)/2:=rfl;obtain⟨e,k⟩:∃e,(S.drop (aK S.length j.half)).take (aQ S.length)=(gq j.gen 0 recs).map (fq sum)++e:=by
  refine⟨((S.drop (aK S.length j.half)).take (aQ S.length)).drop j.used,?_⟩;rw[<- h.row]
  conv=>lhs;rw[<- ac4 j.used ((S.drop (aK S.length j.half)).take (aQ S.length))]
  rw[List.take_take,adm l.2]
 have g:((gq j.gen 0 recs).map (fq sum)).length=j.used:=by rw[abM,ED,l.1]
 rw[k];have:=Qx (f:=rdC sum) (gen:=j.gen) recs [] ((gq j.gen 0 recs).map (fq sum)) e (aQ S.length) (Y3 p h.gen (by simp;omega) h.bd) (by
  intro s t b c o q;have m:e[0]?=some s:=(by rw[b];rfl);have a:((S.drop (aK S.length j.half)).take (aQ S.length))[j.used]?=some s:=(by rw[k,abN aeu,g,adb];exact m);have i:j.used<aQ S.length:=by rcases ab5 j.used (aQ S.length)with q|q;exact q;rw[acx (by simp;omega)]at a;cases a
  rw[acf i,aci]at a;have w:=h.half;have d:aK S.length j.half=2+j.half*aQ S.length:=rfl;have n:j.half=0\/j.half=1:=aeu;have:=h.rest _ s aeu (by rcases n with q|q<;>rw[d,q]<;>omega) (.inr (abA _)) a c o;omega) aeu
 simpa using this
theorem OW(P:∀s,sum s<2^32){S:List Sec}{room:Int}{j:Jst}{bs:List (List UInt8)}(h:aas sum S j)(K:S.length<=8192)(l:(aX sum S room j bs).1=0):
  Ok sum (aX sum S room j bs).2.2 (aX sum S room j bs).2.1 bs/\(aX sum S room j bs).2.2.length=S.length:=by
 unfold aX at l⊢;by_cases x:bs.any (λb=>decide (262144<b.length))=true;rw[if_pos x]at l;cases l;rw[if_neg x]at l⊢;by_cases p:aQ S.length<bj bs\/room<2\/(0<bj bs/\room<((aK S.length (1-j.half)+bj bs:Nat):Int))\/4294967295<=j.gen;rw[if_pos p]at l;cases l;rw[if_neg p];simp only[not_or,Nat.not_lt]at p;obtain⟨J,L,N,M⟩:=p;have u:∀b∈bs,b.length<=262144:=λb u=>by rcases ab5 262144 b.length with q|q;exact absurd (ac5.2 ⟨b,u,decide_eq_true q⟩) x;exact q
 have O:=h.half;have n4:=h.n4;have I:aQ S.length=(S.length-2)/2:=rfl;obtain⟨a,r⟩:=abr (1-j.half);rw[r];have v:a<=1:=aeu;have w:aK S.length a=2+a*aQ S.length:=rfl;have G:aK S.length a+aQ S.length<=S.length/\2<=aK S.length a:=by rw[w];have:a=0\/a=1:=aeu;rcases this with rfl|rfl<;>omega
 obtain⟨sl,m⟩:=abr (xw j);have E:sl=0\/sl=1:=by rw[<- m];unfold xw;split<;>simp
 rw[m];have B:1<=j.gen+1/\j.gen+1<2^32:=aeu;have t:((gq (j.gen+1) 0 bs).map (fq sum)).length=bj bs:=by rw[abM,ED]
 have F:=lQ bs;have l1:=mZ (S:=S) (ss:=(gq (j.gen+1) 0 bs).map (fq sum)) (k:=aK S.length a) aeu;obtain⟨f,d⟩:=abr (fK S (aK S.length a) ((gq (j.gen+1) 0 bs).map (fq sum)));rw[d]at l1⊢;have n:=mZ (S:=f) (ss:=[xJ sum (j.gen+1) a]) (k:=sl) (by simp;omega);have A:∀i,2<=i->(fK f sl [xJ sum (j.gen+1) a])[i]?=f[i]?:=λi y=>jn (by simp;omega) (.inr (by simp;omega))
 refine⟨⟨by rw[n];omega,v,B,by simp only;omega,?_,?_,?_,by simp only;rw[n,l1];exact⟨trivial,J⟩,rfl,u,?_⟩,by rw[n,l1]⟩;show(fK f sl _)[((sl:Nat):Int).toNat]?=_;rw[Int.toNat_natCast,JB (by simp;omega) (abA _) aev,adb];rfl;intro s e g H q;have z:(fK f sl [xJ sum (j.gen+1) a])[1-sl]?=some s:=by simpa using e
 rw[jn (by simp;omega) (by simp;omega),<- d,jn aeu (.inl aeu)]at z;have:=h.hd _ s aeu z g H q;simp only;omega;simp only;rw[n,l1];have D:(fK f sl [xJ sum (j.gen+1) a]).drop (aK S.length a)=f.drop (aK S.length a):=by apply acz;intro i;rw[aci,aci,A _ aeu]
 rw[D,<- d,<- t];exact Wv aeu;intro i s y o hr e c C;simp only at hr⊢;rw[n,l1]at hr o;rw[A i y,<- d,jn aeu aeu]at e;have:=h.cel i s y o e c C;omega
theorem Ok.old(l:∀s,sum s<2^32){S:List Sec}{j:Jst}{recs:List (List UInt8)}(h:Ok sum S j recs)(t:S.length<=8192):aas sum S j:=by
 have n:=h.slot;refine⟨h.n4,h.half,.inr h.slot,λi s m e g o q=>?_,λi s m b e c a=>?_⟩;by_cases c:i=j.slot.toNat;rw[c,h.hd]at e;cases e;rw[Pz l h.gen h.half]at q;cases q;exact abA _;have:i=1-j.slot.toNat:=aeu;rw[this]at e;exact Nat.le_of_lt (h.oh s e g o q);by_cases r:i<aK S.length j.half\/aK S.length j.half+j.used<=i;exact Nat.le_of_lt (h.rest i s m b r e c a);simp only[not_or,Nat.not_lt,Nat.not_le]at r;have v:=lQ recs;have u:=h.used;have p:aQ S.length=(S.length-2)/2:=rfl;have k:((S.drop (aK S.length j.half)).take j.used)[i-aK S.length j.half]?=some s:=by rw[acf aeu,aci,show aK S.length j.half+(i-aK S.length j.half)=i by omega];exact e
 rw[h.row,acy]at k;obtain⟨d,hd,rfl⟩:=abZ.1 k;have f:=JS h.gen recs 0 (by simp;omega) h.bd d (acC hd);rw[Tp l f.1]at a;cases a;exact Nat.le_of_eq f.2
theorem YZ(J:∀s,sum s<2^32){S:List Sec}{room:Int}{j:Jst}{recs:List (List UInt8)}{b:List UInt8}(h:Ok sum S j recs)(H:S.length<=8192)(a:(iB sum S room j b).1=0):
  Ok sum (iB sum S room j b).2.2 (iB sum S room j b).2.1 (recs++[b])/\(iB sum S room j b).2.2.length=S.length:=by
 unfold iB at a⊢;by_cases y:262144<b.length;rw[if_pos y]at a;cases a;rw[if_neg y]at a⊢;by_cases t:uX S.length room j<cw b.length;rw[if_pos t]at a;cases a;rw[if_neg t];have I:=J8 b.length;have B:=h.used;have D:=h.half;have n4:=h.n4;have p:=h.slot;have G:aQ S.length=(S.length-2)/2:=rfl;have w:j.used+cw b.length<=aQ S.length:=by unfold uX at t;omega
 have u:aK S.length j.half=2+j.half*aQ S.length:=rfl;have v:aK S.length j.half+aQ S.length<=S.length/\2<=aK S.length j.half:=by rw[u];have:j.half=0\/j.half=1:=aeu;rcases this with q|q<;>rw[q]<;>omega
 obtain⟨f,o⟩:=abr (aK S.length j.half);have A:((vc j.gen j.n b).map (fq sum)).length=cw b.length:=by rw[abM,l6]
 rw[o]at v⊢;have l1:=mZ (S:=S) (ss:=(vc j.gen j.n b).map (fq sum)) (k:=f+j.used) aeu;have d:=h.row;rw[o]at d;refine⟨⟨by rw[l1];omega,D,h.gen,p,?_,?_,?_,?_,by simp[h.n],?_,?_⟩,l1⟩;simp only;rw[jn aeu (.inl aeu)];exact h.hd;intro s e g F q;simp only at e⊢;rw[jn aeu (.inl aeu)]at e;exact h.oh s e g F q;simp only;rw[l1,o,Oh,abS,<- d,acS,<- h.n];have C:gq j.gen j.n [b]=vc j.gen j.n b:=by simp[gq]
 rw[C];apply acz;intro i;rcases ab5 i (j.used+cw b.length)with q|q;rw[acf q,aci];rcases ab5 i j.used with r|r;rw[jn aeu (.inl aeu),abC (by simp;omega),acf r,aci];rw[JB aeu aeu aeu,abN (by simp;omega)];congr 1;simp;omega;rw[acx (by simp;omega),acx (by simp[l6];omega)];simp only;rw[l1];refine⟨?_,w⟩;rw[B.1];simp[bj];intro x m;rcases abD.1 m with m|m;exact h.bd x m;rw[abV.1 m];omega;intro i s E l hr e c z;simp only at hr⊢;rw[l1]at l;rw[l1,o]at hr;rw[jn aeu aeu]at e;exact h.rest i s E l (by rw[o];omega) e c z
end
section
variable (sum:List UInt8->Nat)
def Ej(a:Nat×Nat×Nat×Int)(i:Nat)(s:Sec):Nat×Nat×Nat×Int:=match rdH sum s with
 |none=>a
 |some (g,h)=>(max a.1 g,if a.2.1<g then(g,h,(i:Int))else a.2)
def vg(S:List Sec):Nat×Nat×Nat×Int:=Ej sum (Ej sum (0,0,1,-1) 0 (S.getD 0 [])) 1 (S.getD 1 [])
def pS(m:Nat)(l:List Sec):Nat:=l.foldl (λm s=>match rdC sum s with|none=>m|some c=>max m c.gen) m
def bB(S:List Sec):Jst×List (List UInt8):=
 (⟨pS sum (vg sum S).1 ((S.drop 2).take (2 * aQ S.length)),(vg sum S).2.2.1,(vg sum S).2.2.2,0,0⟩,
  if 0<=(vg sum S).2.2.2 then gg (rdC sum) (vg sum S).2.1 (aQ S.length) ((S.drop (aK S.length (vg sum S).2.2.1)).take (aQ S.length)) []else[])
variable {sum}
theorem Nc:∀(l:List Sec) (m:Nat),m<=pS sum m l/\∀s∈l,∀c,rdC sum s=some c->c.gen<=pS sum m l
 |[],m=>⟨abA _,λs h=>by cases h⟩
 | x::l,m=>by
   have e:pS sum m (x::l)=pS sum (match rdC sum x with|none=>m|some c=>max m c.gen) l:=rfl;rw[e];obtain⟨g,f⟩:=Nc l (match rdC sum x with|none=>m|some c=>max m c.gen);cases hx:rdC sum x with
   | none =>
     rw[hx]at g f;simp only at g f⊢;refine⟨g,λs a c b=>?_⟩;rcases abY.1 a with rfl|a
     .rw[hx]at b;cases b
     .exact f s a c b
   | some d =>
     rw[hx]at g f;simp only at g f⊢;refine⟨aeu,λs a c b=>?_⟩;rcases abY.1 a with rfl|a
     .rw[hx]at b;cases b;omega
     .exact f s a c b
theorem QN{B:Nat}:∀(l:List Sec) (m:Nat),m<=B->(∀s∈l,∀c,rdC sum s=some c->c.gen<=B)->pS sum m l<=B
 |[],m,h,_=>h
 | x::l,m,h,h2=>by
   have e:pS sum m (x::l)=pS sum (match rdC sum x with|none=>m|some c=>max m c.gen) l:=rfl;rw[e];refine QN l _ ?_ (λs a=>h2 s (by simp[a]));cases hx:rdC sum x with
   |none=>exact h
   |some c=>have:=h2 x aev c hx;simp only;omega
theorem Yz{S:List Sec}(f:∀(s:Sec) g h,rdH sum s=some (g,h)->h<=1):(vg sum S).2.2.1<=1/\((vg sum S).2.2.2=-1\/(vg sum S).2.2.2=0\/(vg sum S).2.2.2=1)/\∀(i:Nat) (s:Sec),i<2->S[i]?=some s->∀g h,rdH sum s=some (g,h)->g<=(vg sum S).1:=by
 obtain⟨a,k⟩:=abr (S.getD 0 []);obtain⟨b,d⟩:=abr (S.getD 1 []);have key:∀(i:Nat) (s:Sec),i<2->S[i]?=some s->i=0/\s=a\/i=1/\s=b:=by intro i s c e;have:i=0\/i=1:=aeu;rcases this with rfl|rfl;exact .inl ⟨rfl,by rw[<- k,abR,e];rfl⟩;exact .inr ⟨rfl,by rw[<- d,abR,e];rfl⟩
 unfold vg;rw[k,d];unfold Ej;rcases ea:rdH sum a with _|⟨n,o⟩<;>rcases eb:rdH sum b with _|⟨p,m⟩<;>simp only;exact⟨aev,aev,λi s c e g h q=>by rcases key i s c e with⟨_,rfl⟩|⟨_,rfl⟩<;>simp_all⟩;have j:=f _ _ _ eb;refine⟨?_,?_,λi s c e g h q=>?_⟩;split<;>simp<;>omega;split<;>simp;rcases key i s c e with⟨_,rfl⟩|⟨_,rfl⟩;rw[ea]at q;cases q;rw[eb]at q;cases q;omega;have j:=f _ _ _ ea;refine⟨?_,?_,λi s c e g h q=>?_⟩;split<;>simp<;>omega;split<;>simp;rcases key i s c e with⟨_,rfl⟩|⟨_,rfl⟩;rw[ea]at q;cases q;omega;rw[eb]at q;cases q;have j:=f _ _ _ ea;have l:=f _ _ _ eb;refine⟨?_,?_,λi s c e g h q=>?_⟩;split<;>split<;>simp<;>omega;split<;>split<;>simp;rcases key i s c e with⟨_,rfl⟩|⟨_,rfl⟩;rw[ea]at q;cases q;omega;rw[eb]at q;cases q;omega
theorem MM{s:Sec}{g h:Nat}(e:rdH sum s=some (g,h)):h<=1/\1<=g:=by unfold rdH at e;split at e;cases e;split at e;cases e;rename_i q;simp only[not_or]at q;simp only[abz,abI]at e;omega
theorem Uh{S:List Sec}(h4:4<=S.length):aas sum S (bB sum S).1:=by obtain⟨j,k,l⟩:=Yz (S:=S) (λs g h e=>(MM e).1);have b:=Nc (sum:=sum) ((S.drop 2).take (2*aQ S.length)) (vg sum S).1;refine⟨h4,j,k,λi s a e g h q=>aca (l i s a e g h q) b.1,λi s a d e c f=>b.2 s ?_ c f⟩;apply acC (i:=i-2);rw[acf aeu,aci,show 2+(i-2)=i by omega];exact e
theorem Ui(a:∀s,sum s<2^32){S:List Sec}{j:Jst}{recs:List (List UInt8)}(h:Ok sum S j recs)(o:S.length<=8192):bB sum S=(⟨j.gen,j.half,j.slot,0,0⟩,recs):=by
 have l:=h.slot;have h4:=h.n4;have v:=h.gen;have p:=h.old a o;have hd:=h.hd;have t:vg sum S=(j.gen,j.gen,j.half,j.slot):=by unfold vg Ej;rcases l with e|e;rw[e]at hd;have n:S.getD 0 []=xJ sum j.gen j.half:=(by rw[abR];rw[show(0:Int).toNat=0 from rfl]at hd;rw[hd];rfl);rw[n,Pz a h.gen h.half];simp only;rcases e1:rdH sum (S.getD 1 [])with _|⟨g,k⟩;simp only;rw[if_pos aeu,e];simp;simp only;have f:S[1]?=some (S.getD 1 []):=(by rw[abR,ab0 aeu];rfl);have:=h.oh (S.getD 1 []) (by rw[e];exact f) g k e1;rw[if_pos (show 0<j.gen by omega)];simp only;rw[if_neg aeu,e];simp;omega;rw[e]at hd;have n:S.getD 1 []=xJ sum j.gen j.half:=(by rw[abR];rw[show(1:Int).toNat=1 from rfl]at hd;rw[hd];rfl);rw[n,Pz a h.gen h.half];simp only;rcases e1:rdH sum (S.getD 0 [])with _|⟨g,k⟩;simp only;rw[if_pos aeu,e];simp;simp only;have f:S[0]?=some (S.getD 0 []):=(by rw[abR,ab0 aeu];rfl);have:=h.oh (S.getD 0 []) (by rw[e];exact f) g k e1;have w:=MM e1;rw[if_pos (show 0<g by omega)];simp only;rw[if_pos aeu,e];simp;omega
 have u:pS sum j.gen ((S.drop 2).take (2*aQ S.length))=j.gen:=by
  refine Nat.le_antisymm (QN _ _ (abA _) λs d c r=>?_) (Nc _ _).1;obtain⟨i,b⟩:=ac9.1 d;have m:i<2*aQ S.length:=by rcases ab5 i (2*aQ S.length)with q|q;exact q;rw[acx (by simp;omega)]at b;cases b
  rw[acf m,aci]at b;exact p.cel (2+i) s aeu aeu b c r
 unfold bB;rw[t];simp only;rw[u,if_pos aeu,h.recs a o]
end
end Go.Proofs.YtajkbcmleihaoaaGreatDoor.Av
set_option maxRecDepth 100000
namespace Go.Proofs.YtajkbcmleihaoaaGreatDoor.Av
open Go
variable {s b:List UInt8}{n gen k:Nat}{M:List Blk}{A C:List AV}{σ:Type}
def wF:LSO:=[Ar 2]
def wD:LSO:=[Aa 3 0,Aa 4 0,A4 5 4,o1 6 (.bin .sub (iv 124) (tm 5)),o1 7 (.call 91 [(.av (.str [0])),(tm 6)]),A7 8 3 7,Aa 0 8]
def wC:LSO:=[Aa 9 0,AK 10 9,Af 11 92 10,AA 12 11,AE 13 67 12 4,Aa 14 0,A7 15 13 14,Aa 2 15]
def rZ:aI:=⟨16,(aen wF [] (aen wD BY (aen wC Cb .ret))),[(.tmp 2)]⟩
attribute [push_cast] wF wD wC
theorem JM:aes 66=aet rZ:=aew
def ri:LSO:=[Ar 2,As 3]
def rh:LSO:=[Aa 7 0,o1 8 (.call 83 [(tm 7),(iv 0),(iv 4)]),Aa 6 8,Al 9 6,Am 10 6,Aa 4 9,Aa 5 10]
def rg:LSO:=[Aa 11 0,BF 12 11 4,Aa 13 0,BF 14 13 4,AK 15 14,Af 16 92 15,AA 17 16,Aa 18 4,AZ 19 17 18,Aa 2 12,Aa 3 19]
def lX:aI:=⟨20,(aen ri [] (aen rh C1 (.seq (.sdreg rg [.pure,(.read 0 0),.pure,(.read 0 0),(.read 0 0),(.read 0 0),.pure,.pure,.pure,.pure] Cw) .ret))),[(.tmp 2),(.tmp 3)]⟩
attribute [push_cast] ri rh rg
theorem E7:aes 82=aet lX:=aew
def jP:LSO:=[A3 1 0,Ar 2]
def jO:LSO:=[Ad 3 0 1,Ac 4 1 3,AE 5 67 4 4,o1 6 (.bin .add (.av (.str [67])) (tm 5)),Ad 7 1 1,Ac 8 1 7,AE 9 67 8 4,A7 10 6 9,Ad 11 2 1,Ac 12 1 11,
 AE 13 67 12 2,A7 14 10 13,Ad 15 3 1,Ac 16 1 15,AE 17 67 16 2,A7 18 14 17,Ad 19 4 1,Ac 20 1 19,A4 21 20,AA 22 21,AE 23 67 22 1,A7 24 18 23,Ad 25 4 1,Ac 26 1 25,A7 27 24 26,
 Af 28 66 27,Aa 2 28]
def fZ:aI:=⟨29,(aen jP [] (.seq (.sdreg jO [.pure,(.read 0 0),(.read 0 0),.pure,.pure,(.read 0 0),(.read 0 0),.pure,.pure,(.read 0 0),(.read 0 0),.pure,.pure,(.read 0 0),(.read 0 0),.pure,.pure,(.read 0 0),(.read 0 0),.pure,(.read 0 0),.pure,.pure,(.read 0 0)] [true,false,false,false,false,false,false,false,false,false,false,false,false,false,false,false,false,false,false,false,false,false,false,false,false,false,false]) .ret)),[(.tmp 2)]⟩
attribute [push_cast] jP jO
theorem vp:aes 88=aet fZ:=aew
def wP:LSO:=[Bx 2,As 3]
def wO:LSO:=[Aa 12 0,Af 13 82 12,Aa 11 13,Al 14 11,Am 15 11,Aa 4 14,Aa 5 15]
def wN:LSO:=[Aa 16 5,A5 17 16,Aa 18 17,.grp none 18 false
 [Ai 19 18 4,By 20 18 19 0,og 21 18 false (.bin .neq (tm 20) (.av (.int .u8 67)))]
 22 (tm 21)]
def wM:LSO:=[BG 23,Ag 5 2 23,As 3]
def wL:LSO:=[Bx 6]
def wK:LSO:=[Ad 24 0 6,Bz 25 24 5 4,Ad 26 1 6,Bz 27 26 9 4,Ad 28 2 6,Bz 29 28 13 2,Ad 30 3 6,Bz 31 30 15 2,
 o1 32 (.bslice false 3 4 [.nilptr,(.int .i64 0),(.int .i64 0),.nilptr,(.int .i64 0),(.int .i64 0),.nilptr,(.int .i64 0),(.int .i64 0),.nilptr,(.int .i64 0),(.int .i64 0)] [(0,(3,(tm 25))),(3,(3,(tm 27))),(6,(3,(tm 29))),(9,(3,(tm 31)))]),
 Ah 33 32,Ab 34 0]
def wJ:LSO:=[Au 35 34 33]
def wI:LSO:=[Aw 36 3 32 34,A0 37 3 36,o1 8 (.alloc [.nilptr,(.int .i64 0),(.int .i64 0)]),Ag 3 8 37]
def wH:List (aj×Kd):=
 [Ap 39 0 8,Aq 40 1 39 0 0,An 41 0,Ap 42 1 8,Aq 43 1 42 0 0,Ap 44 2 8,Aq 45 1 44 0 0,od 46 (.call 83 [(tm 41),(tm 43),(tm 45)]) (.read 0 0),An 38 46,
 od 47 (.extract (tm 38) 0) .pure,od 48 (.extract (tm 38) 1) .pure,A1 49 40 0 0,
 (⟨none,(.store 1 (tm 49) (tm 47)),none⟩,.eff)]
def tJ:List aj :=
 []
def wG:LSO:=[Aj 50 34 1,Aa 34 50]
def tR:LSO:=[Aa 51 0,Ba 52 51 17,Bb 53 52,Aa 9 53]
def tQ:LSO:=[Aa 54 9,AB 55 54 110,Aa 56 55,.grp none 56 false
 [A9 57 56 0 6,A8 58 56 1 57,og 59 56 false (.bin .eql (tm 58) (.av (.int .u64 0)))]
 60 (tm 59),Aa 61 60,.grp none 61 false
 [A9 62 61 2 6,A8 63 61 1 62,A9 64 61 3 6,A8 65 61 1 64,og 66 61 false (.bin .geq (tm 63) (tm 65))]
 67 (tm 66),Aa 68 67,.grp none 68 false
 [Ai 69 68 0,Ai 70 68 9,og 71 68 false (.bin .add (iv 18) (tm 70)),og 72 68 false (.slS (tm 69) (some (tm 71)) none),og 73 68 false (.call 84 [(tm 72),(.av (.str [0]))]),
 og 74 68 false (.bin .neq (tm 73) (.av (.str [])))]
 75 (tm 74)]
def tP:LSO:=[BG 76,Ag 5 2 76,As 3]
def tO:LSO:=[Ad 77 2 6,Ac 78 1 77,Ad 79 3 6,Ac 80 1 79,o1 81 (.bin .sub (tm 80) (.av (.int .u64 1))),AZ 82 78 81,Aa 10 82]
def tN:LSO:=[Aa 83 10,A5 84 83,Aa 85 84,.grp none 85 true
 [Ak 86 85 9,og 87 85 true (.bin .lss (tm 86) (iv 110))]
 88 (tm 87),Aa 89 88,.grp none 89 false
 [Ai 90 89 10,Ai 91 89 90,.grp (some (89,false)) 91 true
 [Ak 92 91 9,AC 93 91 92 0]
 94 (tm 93),Ai 95 89 94,.grp (some (89,false)) 95 true
 [AT 96 95 3 6,AO 97 95 1 96,og 98 95 true (.bin .gtr (tm 97) (.av (.int .u64 1)))]
 99 (tm 98)]
 100 (tm 99)]
def tM:LSO:=[BG 101,Ag 5 2 101,As 3]
def tL:LSO:=[Aa 102 0,Aa 103 9,B0 104 18 103,o1 105 (.slS (tm 102) (some (iv 18)) (some (tm 104))),Ad 106 4 6,Ag 1 106 105]
def tK:LSO:=[A0 107 5 6,Ag 5 2 107,AJ 3]
def ix:aI:=⟨108,(aen wP [] (aen wO Cd (.seq (aen wN BW (aep 22 (.sreg wM BU))) (aen wL [] (.seq (aen wK C2 (aeq 0 (aen wJ [] (.seq (aer 35 0) (.seq (.block 1 (aen wI BV (.dregM wH tJ [false,false,false,false,false,false,false,false,false,false,false,false]))) (.sreg wG BU)))))) (aen tR BW (.seq (aen tQ Cb (aep 75 (.sreg tP BU))) (.seq (aen tO BY (aen tN BZ (aep 100 (.sreg tM BU)))) (aen tL Ct (aen tK BU .ret)))))))))),[(.cell true 5 2),(.tmp 3)]⟩
attribute [push_cast] wP wO wN wM wL wK wJ wI wH tJ wG tR tQ tP tO tN tM tL tK
theorem uZ:aes 55=aet ix:=aew
def wV:LSO:=[Ab 2 0,Ab 3 0,As 4]
def wU:LSO:=[Aa 10 0,Af 11 82 10,Aa 9 11,Al 12 9,Am 13 9,Aa 5 12,Aa 6 13]
def wT:LSO:=[Aa 15 0,o1 16 (.call 83 [(tm 15),(iv 5),(iv 4)]),Aa 14 16,Al 17 14,Am 18 14,Aa 7 17,Aa 8 18]
def wS:LSO:=[Aa 19 6,A5 20 19,Aa 21 20,.grp none 21 false
 [Ai 22 21 5,By 23 21 22 0,og 24 21 false (.bin .neq (tm 23) (.av (.int .u8 72)))]
 25 (tm 24),Aa 26 25,.grp none 26 false
 [Ai 27 26 7,og 28 26 false (.bin .eql (tm 27) (.av (.int .u64 0)))]
 29 (tm 28),Aa 30 29,.grp none 30 false
 [Ai 31 30 0,By 32 30 31 9,og 33 30 false (.bin .gtr (tm 32) (.av (.int .u8 1)))]
 34 (tm 33),Aa 35 34,.grp none 35 false
 [Ai 36 35 0,og 37 35 false (.slS (tm 36) (some (iv 10)) none),og 38 35 false (.call 84 [(tm 37),(.av (.str [0]))]),og 39 35 false (.bin .neq (tm 38) (.av (.str [])))]
 40 (tm 39)]
def wR:LSO:=[Ab 2 0,Ab 3 0,As 4]
def wQ:LSO:=[Aa 41 7,Bb 42 41,Aa 43 0,Ba 44 43 9,Bb 45 44,Aa 2 42,Aa 3 45,AJ 4]
def iy:aI:=⟨46,(aen wV [] (aen wU Cd (aen wT C1 (.seq (aen wS Cc (aep 40 (.sreg wR []))) (.seq (.sdreg wQ [.pure,.pure,.pure,(.read 0 0),.pure,.pure] Cx) .ret))))),[(.tmp 2),(.tmp 3),(.tmp 4)]⟩
attribute [push_cast] wV wU wT wS wR wQ
theorem u0:aes 53=aet iy:=aew
def xk:LSO:=[Ab 2 0]
def xj:LSO:=[Aa 3 0,AF 4 3 0,Aa 5 4,.grp none 5 false
 [Ai 6 5 0,AI 7 5 6 262144]
 8 (tm 7)]
def xh:LSO:=[Ab 2 0]
def xg:LSO:=[Aa 9 0,Aj 10 9 110,AM 11 10 1,o1 12 (.bin .quo (tm 11) (iv 110)),B3 13 1 12,Aa 2 13]
def sa:aI:=⟨14,(aen xk [] (.seq (aen xj BW (aep 8 (.sreg xh []))) (aen xg BZ .ret))),[(.tmp 2)]⟩
attribute [push_cast] xk xj xh xg
theorem JN:aes 62=aet sa:=aew
def jg:LSO:=[Ab 2 0]
def jf:LSO:=[Aa 3 0,Ae 4 3,Ad 5 0 4,Ac 6 1 5,Af 7 51 6,AM 8 7 2,o1 9 (.bin .quo (tm 8) (iv 2)),Aa 2 9]
def fx:aI:=⟨10,(aen jg [] (aen jf Cb .ret)),[(.tmp 2)]⟩
attribute [push_cast] jg jf
theorem sq:aes 54=aet fx:=aew
def iR:LSO:=[Ab 4 0]
def iQ:LSO:=[Aa 5 1,Aa 6 0,Af 7 54 6,o1 8 (.bin .mul (tm 5) (tm 7)),B0 9 2 8,Aa 4 9]
def fi:aI:=⟨10,(aen iR [] (aen iQ BZ .ret)),[(.tmp 4)]⟩
attribute [push_cast] iR iQ
theorem sb:aes 56=aet fi:=aew
def xf:LSO:=[AH 2,Ao 3,Ab 4 0]
def xe:LSO:=[Aa 24 0,A6 25 24]
def xd:LSO:=[AH 2,Ao 3,Ab 4 1]
def xc:LSO:=[Aa 26 0,Af 27 51 26,AF 28 27 4]
def xb:LSO:=[AH 2,Ao 3,Ab 4 2]
def xa:LSO:=[Ao 5]
def wZ:LSO:=[Aa 29 0,Af 30 51 29,Ab 31 0]
def wY:LSO:=[Au 32 31 30]
def wX:LSO:=[Aa 33 31,Aa 6 33]
def wW:LSO:=[Aa 35 0,Aa 36 6,Ay 37 52 35 36,Aa 34 37,Al 38 34,Am 39 34,Aa 7 38,Aa 8 39]
def uG:LSO:=[Aa 40 8,Ax 41 40 0]
def uF:LSO:=[Aa 42 8,AH 2,Ao 3,Aa 4 42]
def uE:LSO:=[Aa 43 5,Aa 44 7,AK 45 44,Bc 46 43 45,Aa 5 46]
def uD:LSO:=[Aj 47 31 1,Aa 31 47]
def uC:LSO:=[Aa 48 0,
 o1 49 (.build [.nilptr,(.int .i64 0),(.int .i64 0),(.int .i64 0),(.int .i64 0),(.int .i64 0),(.bool false),(.bool false)] [(0,(1,(tm 48))),(2,(1,(iv 1))),(3,(1,(iv (-1))))]),
 A3 50 49,Aa 9 50]
def uB:LSO:=[Ab 10 0,Ab 11 0]
def uA:LSO:=[Aa 51 5,o1 52 (.slV 1 (tm 51) none (some (iv 2)) none),Ah 53 52,Ab 54 0]
def uz:LSO:=[Au 55 54 53]
def uy:LSO:=[Aa 56 54,Aw 57 1 52 54,Ac 58 1 57,Aa 12 56,Aa 13 58]
def ux:LSO:=[Aa 60 13,Af 61 53 60,Aa 59 61,Al 62 59,Am 63 59,AP 64 59,Aa 14 62,Aa 15 63,Aa 16 64]
def uw:LSO:=[Aa 65 16]
def uv:LSO:=[Aa 66 10,Aa 67 14,o1 68 (.minmax true [(tm 66),(tm 67)]),Aa 10 68]
def uu:LSO:=[Aa 69 14,Aa 70 11,o1 71 (.bin .gtr (tm 69) (tm 70))]
def ut:LSO:=[Aa 72 9,Aa 73 9,Aa 74 14,Aa 75 15,Aa 76 12,Aa 11 74,Ae 77 72,Ad 78 2 77,Ag 1 78 75,Ae 79 73,Ad 80 3 79,Ag 1 80 76]
def ur:LSO:=[Aj 81 54 1,Aa 54 81]
def uq:LSO:=[Aa 82 5,Aa 83 9,Af 84 54 83,o1 85 (.bin .mul (iv 2) (tm 84)),B0 86 2 85,o1 87 (.slV 1 (tm 82) (some (iv 2)) (some (tm 86)) none),Ah 88 87,Ab 89 0]
def uo:LSO:=[Au 90 89 88]
def um:LSO:=[Aw 91 1 87 89,Ac 92 1 91,Aa 18 92]
def ul:LSO:=[Aa 94 18,Af 95 55 94,Aa 93 95,Al 96 93,Am 97 93,Bx 19,Ag 5 19 96,Aa 20 97]
def uk:LSO:=[Aa 98 20]
def uj:LSO:=[Aa 99 10,Ad 100 0 19,Ac 101 1 100,Bb 102 101,o1 103 (.minmax true [(tm 99),(tm 102)]),Aa 10 103]
def ui:LSO:=[Aj 104 89 1,Aa 89 104]
def uh:LSO:=[Ao 21]
def ug:LSO:=[Aa 105 9,Ae 106 105,Ad 107 3 106,Ac 108 1 107,Bd 109 108 0]
def uf:LSO:=[Aa 110 9,Aa 111 9,Ae 112 111,Ad 113 2 112,Ac 114 1 113,Ay 115 56 110 114,Aa 22 115]
def ue:LSO:=[Aa 116 5,Aa 117 22,Aa 118 22,Aa 119 9,Af 120 54 119,A7 121 118 120,o1 122 (.slV 1 (tm 116) (some (tm 117)) (some (tm 121)) none),Aa 123 11,
 Ay 124 57 122 123,Aa 21 124]
def ud:LSO:=[Aa 125 9,Aa 126 10,Ae 127 125,Ad 128 1 127,Ag 1 128 126]
def uc:LSO:=[Aa 129 9,Aa 130 21,Ay 131 29 129 130,Aa 23 131]
def ub:LSO:=[Aa 132 23,Ax 133 132 0]
def ua:LSO:=[Aa 134 23,AH 2,Ao 3,Aa 4 134]
def t8:LSO:=[Aa 135 9,Aa 136 21,Aa 2 135,Aa 3 136,Ab 4 0]
def iz:aI:=⟨137,(aen xf [] (.seq (aen xe BU (aep 25 (.sreg xd []))) (.seq (aen xc BV (aep 28 (.sreg xb []))) (aen xa [] (.seq (aen wZ Ca (aeq 0 (aen wY [] (.seq (aer 32 0) (.seq (.block 1 (aen wX BU (aen wW Ch (.seq (aen uG BU (aep 41 (.sreg uF Cf))) (.sreg uE BX))))) (.sreg uD BU)))))) (aen uC BW (aen uB [] (.seq (aen uA Cf (aeq 2 (aen uz [] (.seq (aer 55 2) (.seq (.block 3 (aen uy Ce (aen ux Ci (aen uw [] (aeo 65 (aen uv BW (aen uu BV (aeo 71 (.sreg ut [false,false,false,false,true,false,false,false,false,false]) .skip))) .skip))))) (.sreg ur BU)))))) (.seq (aen uq Cx (aeq 4 (aen uo [] (.seq (aer 90 4) (.seq (.block 5 (aen um BV (aen ul Cd (aen uk [] (aeo 98 (.sreg uj BZ) .skip))))) (.sreg ui BU)))))) (aen uh [] (.seq (aen ug BX (aeo 109 (aen uf BY (.sreg ue Cc)) .skip)) (aen ud Cg (.seq (aen uc BW (aen ub BU (aep 133 (.sreg ua Cf)))) (aen t8 Cy .ret)))))))))))))),[(.tmp 2),(.tmp 3),(.tmp 4)]⟩
attribute [push_cast] xf xe xd xc xb xa wZ wY wX wW uG uF uE uD uC uB uA uz uy ux uw uv uu ut ur uq uo um ul uk uj ui uh ug uf ue ud uc ub ua t8
theorem u9:aes 22=aet iz:=aew
def mP:LSO:=[Ao 4]
def mO:LSO:=[Ao 5]
def mN:LSO:=[Aa 11 0,Ah 12 11,AB 13 12 0]
def mM:LSO:=[Ar 6]
def mL:LSO:=[Ab 7 0]
def mK:LSO:=[o1 8 (.mv (.av (.int .u64 1)))]
def mJ:LSO:=[Aa 14 7,AA 15 14,Aa 16 8,Au 17 15 16]
def mI:LSO:=[Aa 20 7,Aa 21 0,Ah 22 21,AZ 23 20 22]
def mH:LSO:=[Aa 24 5,Aa 4 24]
def mG:LSO:=[Aa 26 0,Aa 27 7,Aw 28 1 26 27,Ac 29 1 28,Af 30 55 29,Aa 25 30,Al 31 25,Am 32 25,Bx 9,Ag 5 9 31,Aa 10 32]
def lI:LSO:=[Aa 33 10,A5 34 33,Aa 35 34,.grp none 35 false
 [A9 36 35 0 9,A8 37 35 1 36,og 38 35 false (.conv .i64 (tm 37)),Ai 39 35 1,B4 40 35 38 39]
 41 (tm 40),Aa 42 41,.grp none 42 false
 [A9 43 42 1 9,A8 44 42 1 43,Ai 45 42 5,AS 46 42 45,og 47 42 false (.conv .u64 (tm 46)),B4 48 42 44 47]
 49 (tm 48),Aa 50 49,.grp none 50 false
 [A9 51 50 2 9,A8 52 50 1 51,Ai 53 50 7,og 54 50 false (.conv .u64 (tm 53)),B4 55 50 52 54]
 56 (tm 55),Aa 57 56,.grp none 57 false
 [Ai 58 57 7,AI 59 57 58 0,Ai 60 57 59,.grp (some (57,false)) 60 true
 [AT 61 60 3 9,AO 62 60 1 61,Ak 63 60 8,og 64 60 true (.bin .neq (tm 62) (tm 63))]
 65 (tm 64)]
 66 (tm 65)]
def lH:LSO:=[Aa 67 5,Aa 4 67]
def lG:LSO:=[Ad 68 3 9,Ac 69 1 68,Aa 8 69]
def lF:LSO:=[Aa 70 6,Ad 71 4 9,Ac 72 1 71,A7 73 70 72,Aa 6 73]
def lE:LSO:=[Aa 18 7,Aj 19 18 1,Aa 7 19]
def lD:LSO:=[Aa 74 5,Aa 75 6,AK 76 75,Bc 77 74 76,Aa 5 77]
def lC:LSO:=[Aa 78 0,Aa 79 7,o1 80 (.slV 1 (tm 78) (some (tm 79)) none none),Aa 0 80]
def lB:LSO:=[Aa 81 5,Aa 4 81]
def jK:aI:=⟨82,(aen mP [] (aen mO [] (.seq (aeq 0 (.seq (aen mN BV (aer 13 0)) (.block 1 (aen mM [] (aen mL [] (.seq (aen mK [] (aeq 2 (.seq (aen mJ BW (aer 17 2)) (.seq (.block 3 (.seq (aen mI BW (aep 23 (.sreg mH BU))) (aen mG Cm (.seq (aen lI Cc (aep 66 (.sreg lH BU))) (aen lG BV (.sreg lF BX)))))) (.sreg lE BV))))) (aen lD BX (.sreg lC BW)))))))) (aen lB BU .ret)))),[(.tmp 4)]⟩
attribute [push_cast] mP mO mN mM mL mK mJ mI mH mG lI lH lG lF lE lD lC lB
theorem zZ:aes 57=aet jK:=aew
def t7:LSO:=[Ao 6]
def t6:LSO:=[Ao 7]
def tZ:LSO:=[Aa 11 2,A4 12 11,Af 13 62 12,Aa 8 13]
def tY:LSO:=[Aa 14 8,Ab 15 0]
def tX:LSO:=[Au 16 15 14]
def tW:LSO:=[Aa 17 15,Aa 9 17]
def tV:LSO:=[Aa 18 2,A4 19 18,o1 20 (.minmax false [(iv 110),(tm 19)]),Aa 10 20]
def tU:LSO:=[Aa 21 7,Aa 22 0,AA 23 22,Aa 24 1,AA 25 24,Aa 26 9,AA 27 26,Aa 28 8,AA 29 28,Aa 30 2,Aa 31 10,o1 32 (.slS (tm 30) none (some (tm 31))),
 o1 33 (.build [(.int .u64 0),(.int .u64 0),(.int .u64 0),(.int .u64 0),(.str [])] [(0,(1,(tm 23))),(1,(1,(tm 25))),(2,(1,(tm 27))),(3,(1,(tm 29))),(4,(1,(tm 32)))]),Af 34 88 33,
 AK 35 34,Bc 36 21 35,Aa 7 36]
def tT:LSO:=[Aa 37 2,Aa 38 10,B5 39 37 38,Aa 2 39]
def tS:LSO:=[Aj 40 15 1,Aa 15 40]
def rj:LSO:=[Aa 41 7,Aa 6 41]
def nA:aI:=⟨42,(aen t7 [] (aen t6 [] (aen tZ BW (.seq (aen tY [] (aeq 0 (aen tX [] (.seq (aer 16 0) (.seq (.block 1 (aen tW BU (aen tV BW (aen tU C3 (.sreg tT BW))))) (.sreg tS BU)))))) (aen rj BU .ret))))),[(.tmp 6)]⟩
attribute [push_cast] t7 t6 tZ tY tX tW tV tU tT tS rj
theorem Hs:aes 63=aet nA:=aew
def jZ:LSO:=[Ab 6 0]
def jY:LSO:=[Aa 11 2,Ah 12 11,Ab 13 0]
def jX:LSO:=[Au 14 13 12]
def jW:LSO:=[Aa 15 13,Aw 16 1 11 13,Ac 17 1 16,Aa 7 15,Aa 8 17]
def jV:LSO:=[Aa 18 0,Ae 19 18,Ad 20 0 19,Ac 21 1 20,Aa 22 1,Aa 23 7,A7 24 22 23,Aa 25 8,AU 26 89 21 24 25,Aa 9 26]
def jU:LSO:=[Aa 27 9,Ax 28 27 0]
def jT:LSO:=[Aa 29 0,Ae 30 29,Ad 31 6 30,o0 (.store 1 (tm 31) (.av (.bool true)))]
def jS:LSO:=[Aa 32 9,Aa 6 32]
def jR:LSO:=[Aj 33 13 1,Aa 13 33]
def jQ:LSO:=[Aa 34 0,Ae 35 34,Ad 36 0 35,Ac 37 1 36,Af 38 90 37,Aa 10 38]
def ji:LSO:=[Aa 39 0,Aa 40 10,Ax 41 40 0,Ae 42 39,Ad 43 6 42,Ag 1 43 41]
def jh:LSO:=[Aa 44 10,Aa 6 44]
def gc:aI:=⟨45,(aen jZ [] (.seq (aen jY [] (aeq 0 (aen jX [] (.seq (aer 14 0) (.seq (.block 1 (aen jW Ce (aen jV Cc (aen jU BU (aeo 28 (aen jT Ck (aen jS BU .ret)) .skip))))) (.sreg jR BU)))))) (aen jQ BZ (aen ji Ct (aen jh BU .ret))))),[(.tmp 6)]⟩
attribute [push_cast] jZ jY jX jW jV jU jT jS jR jQ ji jh
theorem vq:aes 64=aet gc:=aew
def i9:LSO:=[Ab 4 0]
def i8:LSO:=[Aa 17 0,A6 18 17,Aa 16 18]
def iZ:LSO:=[Ab 4 1]
def iY:LSO:=[Aa 20 0,Ae 21 20,Ad 22 6 21,Ac 23 1 22,Aa 19 23]
def iX:LSO:=[Ab 4 12]
def iW:LSO:=[Ab 5 0]
def iV:LSO:=[Aa 24 1,Ah 25 24,Ab 26 0]
def iU:LSO:=[Au 27 26 25]
def iT:LSO:=[Aw 28 1 24 26,Ac 29 1 28,Aa 7 29]
def iS:LSO:=[Aa 30 7,A4 31 30,AB 32 31 262144]
def hY:LSO:=[Ab 4 5]
def hU:LSO:=[Aa 33 5,Aa 34 7,A4 35 34,Af 36 62 35,A7 37 33 36,o1 38 (.minmax false [(tm 37),(iv 8193)]),Aa 5 38]
def hP:LSO:=[Aj 39 26 1,Aa 26 39]
def hG:LSO:=[Aa 40 0,Ae 41 40,Ad 42 2 41,Ac 43 1 42,o1 44 (.bin .sub (iv 1) (tm 43)),Aa 8 44]
def gZ:LSO:=[Aa 45 0,Aa 46 8,Ay 47 56 45 46,Aa 9 47]
def gX:LSO:=[Aa 48 5,Aa 49 0,Af 50 54 49,o1 51 (.bin .gtr (tm 48) (tm 50)),Aa 52 51,.grp none 52 false
 [Ai 53 52 0,Bp 54 52 53,A9 55 52 0 54,A8 56 52 1 55,og 57 52 false (.call 65 [(tm 56)]),BH 58 52 57 2]
 59 (tm 58),Aa 60 59,.grp none 60 false
 [Ai 61 60 5,AI 62 60 61 0,Ai 63 60 62,.grp (some (60,false)) 63 true
 [Ak 64 63 0,B6 65 63 64,AT 66 63 0 65,AO 67 63 1 66,Bq 68 63 65 67,Ak 69 63 9,Ak 70 63 5,og 71 63 true (.bin .add (tm 69) (tm 70)),og 72 63 true (.bin .lss (tm 68) (tm 71))]
 73 (tm 72)]
 74 (tm 73),Aa 75 74,.grp none 75 false
 [Ai 76 75 0,Bp 77 75 76,A9 78 75 1 77,A8 79 75 1 78,BI 80 75 79 4294967295]
 81 (tm 80)]
def gW:LSO:=[Ab 4 11]
def gV:LSO:=[Ao 10]
def gU:LSO:=[Aa 82 1,Ah 83 82,Ab 84 0]
def gT:LSO:=[Au 85 84 83]
def gS:LSO:=[Aa 86 84,Aw 87 1 82 84,Ac 88 1 87,Aa 11 86,Aa 12 88]
def gR:LSO:=[Aa 89 10,Aa 90 0,Ae 91 90,Ad 92 1 91,Ac 93 1 92,Aj 94 93 1,Aa 95 11,Aa 96 12,AU 97 63 94 95 96,Bc 98 89 97,Aa 10 98]
def gQ:LSO:=[Aj 99 84 1,Aa 84 99]
def gP:LSO:=[Aa 100 0,Aa 101 9,Aa 102 10,AU 103 64 100 101 102,Aa 13 103]
def gO:LSO:=[Aa 104 13,Ax 105 104 0]
def gN:LSO:=[Aa 106 13,Aa 4 106]
def gM:LSO:=[Ab 14 0]
def gL:LSO:=[Aa 107 0,Ae 108 107,Ad 109 3 108,Ac 110 1 109,Az 111 110 0]
def gK:LSO:=[Ab 14 1]
def gJ:LSO:=[Aa 112 0,Aa 113 14,Aa 114 0,Ae 115 114,Ad 116 1 115,Ac 117 1 116,Aj 118 117 1,AA 119 118,AE 120 67 119 4,
 o1 121 (.bin .add (.av (.str [72])) (tm 120)),Aa 122 8,AA 123 122,AE 124 67 123 1,A7 125 121 124,Af 126 66 125,AK 127 126,AU 128 64 112 113 127,Aa 15 128]
def gI:LSO:=[Aa 129 15,Ax 130 129 0]
def gH:LSO:=[Aa 131 15,Aa 4 131]
def gG:LSO:=[Aa 132 0,Aa 133 0,Aa 134 0,Aa 135 0,Aa 136 0,Aa 137 0,Ae 138 137,Ad 139 1 138,Ac 140 1 139,Aj 141 140 1,Aa 142 8,Aa 143 14,Aa 144 5,Aa 145 1,
 Ah 146 145,Ae 147 132,Ad 148 1 147,Ag 1 148 141,Ae 149 133,Ad 150 2 149,Ag 1 150 142,Ae 151 134,Ad 152 3 151,Ag 1 152 143,Ae 153 135,Ad 154 4 153,Ag 1 154 144,Ae 155 136,
 Ad 156 5 155,Ag 1 156 146]
def gF:LSO:=[Ab 4 0]
def fj:aI:=⟨157,(aen i9 [] (.seq (.block 0 (aen i8 BV (aeo 16 (aen iZ [] .ret) (aen iY BX (aep 19 (.sreg iX [])))))) (aen iW [] (.seq (aen iV [] (aeq 1 (aen iU [] (.seq (aer 27 1) (.seq (.block 2 (aen iT BV (.seq (aen iS BV (aep 32 (.sreg hY []))) (.sreg hU BY)))) (.sreg hP BU)))))) (aen hG BZ (aen gZ BW (.seq (aen gX Cc (aep 81 (.sreg gW []))) (aen gV [] (.seq (aen gU [] (aeq 3 (aen gT [] (.seq (aer 85 3) (.seq (.block 4 (aen gS Ce (.sreg gR Co))) (.sreg gQ BU)))))) (.seq (aen gP BX (aen gO BU (aep 105 (.sreg gN BU)))) (aen gM [] (.seq (aen gL BX (aeo 111 (.sreg gK []) .skip)) (.seq (aen gJ [true,false,false,false,false,false,false,false,false,false,false,false,false,false,false,false,false,false] (aen gI BU (aep 130 (.sreg gH BU)))) (aen gG [false,false,false,false,false,false,false,false,false,false,false,false,false,false,false,false,false,false,false,false,false,false,false,false,false] (aen gF [] .ret))))))))))))))),[(.tmp 4)]⟩
attribute [push_cast] i9 i8 iZ iY iX iW iV iU iT iS hY hU hP hG gZ gX gW gV gU gT gS gR gQ gP gO gN gM gL gK gJ gI gH gG gF
theorem se:aes 29=aet fj:=aew
def im:LSO:=[Ab 4 0]
def il:LSO:=[Aa 8 0,A6 9 8,Aa 7 9]
def ik:LSO:=[Ab 4 1]
def ij:LSO:=[Aa 11 0,Ae 12 11,Ad 13 6 12,Ac 14 1 13,Aa 10 14]
def ii:LSO:=[Ab 4 12]
def ig:LSO:=[Aa 16 1,A4 17 16,AB 18 17 262144,Aa 15 18]
def ie:LSO:=[Ab 4 5]
def ic:LSO:=[Aa 20 1,A4 21 20,Af 22 62 21,Aa 23 0,Af 24 48 23,o1 25 (.bin .gtr (tm 22) (tm 24)),Aa 19 25]
def ib:LSO:=[Ab 4 11]
def ia:LSO:=[Aa 26 0,Ae 27 26,Ad 28 1 27,Ac 29 1 28,Aa 30 0,Ae 31 30,Ad 32 5 31,Ac 33 1 32,Aa 34 1,AU 35 63 29 33 34,Aa 5 35]
def gm:List (aj×Kd):=
 [An 36 0,An 37 0,An 38 0,A1 39 38 0 0,Ap 40 2 39,Aq 41 1 40 0 0,od 42 (.call 56 [(tm 37),(tm 41)]) (.read 0 0),An 43 0,A1 44 43 0 0,Ap 45 4 44,Aq 46 1 45 0 0,Be 47 42 46,
 An 48 5]
def fC:List aj :=
 [⟨(some 49),(.call 64 [(tm 36),(tm 47),(tm 48)]),none⟩,⟨(some 6),(.mv (tm 49)),none⟩]
def gl:LSO:=[Aa 50 6,Ax 51 50 0]
def gk:LSO:=[Aa 52 6,Aa 4 52]
def gj:List (aj×Kd):=
 [An 53 0,An 54 0,An 55 0,A1 56 55 0 0,Ap 57 4 56,Aq 58 1 57 0 0,An 59 5,BJ 60 59 0 0,Be 61 58 60,An 62 0,A1 63 62 0 0,Ap 64 5 63,Aq 65 1 64 0 0,
 od 66 (.bin .add (tm 65) (iv 1)) .pure,A1 67 53 0 0,Ap 68 4 67,
 (⟨none,(.store 1 (tm 68) (tm 61)),none⟩,.eff)]
def fB:List aj :=
 [⟨(some 69),(.nilchk (tm 54)),none⟩,⟨(some 70),(.faddr 5 (tm 69)),none⟩,⟨none,(.store 1 (tm 70) (tm 66)),none⟩]
def gi:LSO:=[Ab 4 0]
def aV:aI:=⟨71,(aen im [] (.seq (.block 0 (aen il BV (aeo 7 (aen ik [] .ret) (aen ij BX (aeo 10 (aen ii [] .ret) (aen ig BW (aeo 15 (aen ie [] .ret) (aen ic BY (aep 19 (.sreg ib [])))))))))) (.seq (.sdreg ia [.pure,(.read 0 0),.pure,(.read 0 0),.pure,(.read 0 0),.pure,(.read 0 0),.pure] Co) (.seq (.seq (.dregM gm fC [true,false,false,false,false,false,false,false,false,false,false,false,false,false,false]) (aen gl BU (aep 51 (.sreg gk BU)))) (.seq (.dregM gj fB [false,false,false,false,false,false,false,false,false,false,false,false,false,false,false,false,false,false]) (aen gi [] .ret)))))),[(.tmp 4)]⟩
attribute [push_cast] im il ik ij ii ig ie ic ib ia gm fC gl gk gj fB gi
theorem cV:aes 28=aet aV:=aew
def jm:LSO:=[Ab 2 0]
def jl:LSO:=[Aa 3 0,A6 4 3]
def jk:LSO:=[Ab 2 0]
def jj:LSO:=[Aa 5 0,Af 6 54 5,Aa 7 0,Ae 8 7,Ad 9 0 8,Ac 10 1 9,Af 11 65 10,Aa 12 0,Aa 13 0,Ae 14 13,Ad 15 2 14,Ac 16 1 15,Ay 17 56 12 16,Bi 18 11 17,
 o1 19 (.minmax false [(tm 6),(tm 18)]),Aa 20 0,Ae 21 20,Ad 22 4 21,Ac 23 1 22,Bi 24 19 23,B3 25 0 24,Aa 2 25]
def fy:aI:=⟨26,(aen jm [] (.seq (aen jl BU (aep 4 (.sreg jk []))) (.seq (.sdreg jj [.pure,(.read 0 0),.pure,(.read 0 0),.pure,(.read 0 0),(.read 0 0),.pure,.pure,(.read 0 0),.pure,(.read 0 0),(.read 0 0),.pure,(.read 0 0),.pure,(.read 0 0),.pure,(.read 0 0)] [true,false,false,false,false,false,false,false,false,false,false,false,false,false,false,false,false,false,false,false,false,false]) .ret))),[(.tmp 2)]⟩
attribute [push_cast] jm jl jk jj
theorem su:aes 48=aet fy:=aew
attribute [push_cast] rZ lX fZ ix iy sa fx fi iz jK nA gc fj aV fy
variable {L:List Blk}{K:abx}
set_option maxHeartbeats 8000000
set_option maxRecDepth 100000
def nU(r:Int):Int:=IntKind.u32.wrap ((BitVec.ofInt IntKind.u32.bits (if IntKind.u32.signed=true then -1 else IntKind.u32.max) ^^^ BitVec.ofInt IntKind.u32.bits r).toNat:Int)
def abm(r:Int):Int:=IntKind.u32.wrap ((BitVec.ofInt IntKind.u32.bits (r.fdiv (2^min 1 IntKind.u32.bits)) ^^^ BitVec.ofInt IntKind.u32.bits (IntKind.u32.wrap ((BitVec.ofInt IntKind.u32.bits 3988292384 &&& BitVec.ofInt IntKind.u32.bits (IntKind.u32.wrap (0-IntKind.u32.wrap ((BitVec.ofInt IntKind.u32.bits r &&& BitVec.ofInt IntKind.u32.bits 1).toNat:Int)))).toNat:Int))).toNat:Int)
def itU:Nat->Int->Int
 |0,r=>r
 |n+1,r=>abm (itU n r)
def xU(r:Int)(c:UInt8):Int:=IntKind.u32.wrap ((BitVec.ofInt IntKind.u32.bits r ^^^ BitVec.ofInt IntKind.u32.bits (IntKind.u32.wrap (c.toNat:Int))).toNat:Int)
def byU(r:Int)(c:UInt8):Int:=itU 8 (xU r c)
def SR(s:List UInt8):Int:=nU (s.foldl byU (nU 0))
def az(s:List UInt8):Nat:=(SR s).toNat
theorem VC(n:Nat):0<=IntKind.u32.wrap (n:Int)/\IntKind.u32.wrap (n:Int)<2^32:=by simp only[IntKind.wrap,IntKind.signed,IntKind.bits];simp;omega
theorem PW(s:List UInt8):az s<2^32:=by have:=(VC (BitVec.ofInt IntKind.u32.bits (if IntKind.u32.signed=true then -1 else IntKind.u32.max) ^^^ BitVec.ofInt IntKind.u32.bits (s.foldl byU (nU 0))).toNat).2;unfold az SR nU;unfold nU at this;omega
theorem W9(s:List UInt8):SR s=(az s:Int):=by have:=(VC (BitVec.ofInt IntKind.u32.bits (if IntKind.u32.signed=true then -1 else IntKind.u32.max) ^^^ BitVec.ofInt IntKind.u32.bits (s.foldl byU (nU 0))).toNat).1;unfold az;have a:0<=SR s:=this;omega
theorem Xa{cap:Option Nat}(E:s.length<=1100000)(h:K (.int .u32 (SR s)) L):abw 127 [.int .u32 0,.sl [.str s] 1 cap] L K:=by
 unfold SR at h;replace h:=hid h;refine abv P6 ?_;obtain⟨e,d⟩:=abr (nU 0);rw[d]at h;rw[show IntKind.u32.wrap ((BitVec.ofInt IntKind.u32.bits (if IntKind.u32.signed=true then -1 else IntKind.u32.max) ^^^ BitVec.ofInt IntKind.u32.bits 0).toNat:Int)=e from d];refine ar (λm T' L'=>∃(j:Nat) (r:Int),m=1-j/\j<=1/\Hid (r=if j=0 then e else s.foldl byU e)/\T'=[(15,.int .i64 (j:Int)),(14,.int .i64 1),(13,.sl [.str s] 1 cap),(5,.int .u32 r)]/\L=L') aey ⟨0,_,rfl,abJ _,hid rfl,rfl,rfl⟩ ?_;rintro _ _ _ ⟨j,r,rfl,D,hr,rfl,rfl⟩;by_cases y:j<1;have u:j=0:=aeu;subst u;have l:=hid (show r=e from hr.o);clear hr d;refine wk ?_;refine ar (λm T' L'=>∃(k:Nat) (r:Int),m=s.length-k/\k<=s.length/\Hid (r=(s.take k).foldl byU e)/\T'=[(22,.int .i64 (k:Int)),(21,.int .i64 s.length),(20,.sl (u8s s) s.length none),(5,.int .u32 r),(15,.int .i64 0),(14,.int .i64 1),(13,.sl [.str s] 1 cap)]/\L=L') aey ⟨0,_,rfl,abJ _,hid l.o,rfl,rfl⟩ ?_;rintro _ _ _ ⟨k,p,rfl,B,b,rfl,rfl⟩;by_cases a:k<s.length;have g1:(k:Int)<(s.length:Int):=aeu;have A:=abu k aeu;obtain⟨c,q⟩:=abr (s.getD k 0);have g3:(u8s s).getD k .undef=.int .u8 c.toNat:=by rw[<- q];simp[u8s,a]
 have g4:k<(u8s s).length:=by simpa[u8s]using a
 have n:Hid (s.take (k+1)=s.take k++[c]):=hid (by rw[ab6 a,<- q];simp[a]);clear q;refine wk ?_;rw[show IntKind.u32.wrap ((BitVec.ofInt IntKind.u32.bits p ^^^ BitVec.ofInt IntKind.u32.bits (IntKind.u32.wrap (c.toNat:Int))).toNat:Int)=xU p c from rfl];refine ar (λm T' L'=>∃(i:Nat) (r:Int),m=8-i/\i<=8/\Hid (r=itU i (xU p c))/\T'=[(30,.int .i64 (i:Int)),(5,.int .u32 r),(22,.int .i64 (k:Int)),(21,.int .i64 s.length),(20,.sl (u8s s) s.length none),(15,.int .i64 0),(14,.int .i64 1),(13,.sl [.str s] 1 cap)]/\L=L') aey ⟨0,_,rfl,abJ _,hid rfl,rfl,rfl⟩ ?_;rintro _ _ _ ⟨i,x,rfl,F,f,rfl,rfl⟩;by_cases w:i<8;have z:(i:Int)<8:=aeu;have C:=abu i aeu;refine wk ?_;exact aez aeu aex ⟨i+1,_,rfl,w,hid (by rw[itU,<- f.o];rfl),rfl,rfl⟩;have v:i=8:=aeu;subst v;have g:Hid (x=(s.take (k+1)).foldl byU e):=hid (by rw[n.o,List.foldl_append,<- b.o,f.o];rfl);clear b f n;refine wk ?_;exact aez aeu aex ⟨k+1,_,rfl,a,g,rfl,rfl⟩;have g1:¬(k:Int)<(s.length:Int):=aeu;have g:Hid (p=s.foldl byU e):=hid (by rw[b.o,ab7 aeu]);clear b;refine wk ?_;exact aez aeu aex ⟨1,_,rfl,abA _,hid g.o,rfl,rfl⟩;have t:j=1:=aeu;subst t;have l:=hid (show r=s.foldl byU e from hr.o);clear hr d;refine wk ?_;refine ag ?_;rw[l.o];exact h.o
theorem Rj{cap:Option Nat}(a:s.length<=1100000)(h:K (.int .u32 (az s:Int)) L):abw 92 [.sl [.str s] 1 cap] L K:=by have kk1:Hid (Ctr Tryz.prog 127 [.int .u32 0,.sl [.str s] 1 cap] (.int .u32 (SR s))):=@hid _ (λ{L K} q=>Xa a q);rw[W9]at kk1;replace h:=hid h;refine abv P5 ?_;exact ag h.o
theorem ZN(j:n<=1000000)(h:K (.str (List.replicate n 0)) L):abw 91 [.str [0],.int .i64 n] L K :=
 iE Tryz.func91 rfl aew (λw0 S0 E w vs k d=>by simp only[VRL,VR]at d;obtain⟨_,_,rfl,rfl,_,_,rfl,rfl,rfl⟩:=d;have e:Lib.repeatL [0] n=List.replicate n 0:=(by have:=Lib.repeatL_replicate 0 1 n;simpa using this);have g:(Lib.repeatL [0] n).toArray=Array.replicate n 0:=(by rw[e];simp);exact(Tryz.strings_Repeat ⟨⟨[0]⟩⟩ n w aeu (by show 1*n<=_;omega)).mono λi w' ⟨f,a⟩=>⟨_,f,by simp[VR];exact g,⟨λb c=>a.block b c,a.size,a.os,a.tape,a.output⟩⟩) h
theorem Tg(d:s.length<=1000000)(h:K (.str (Lib.trimB s 0)) L):abw 84 [.str s,.str [0]] L K :=
 iE Tryz.func84 rfl aew (λw0 S0 E w vs f a=>by simp only[VRL,VR]at a;obtain⟨_,_,rfl,rfl,_,_,rfl,rfl,rfl⟩:=a;exact(Tryz.strings_Trim_one ⟨⟨s⟩⟩ 0 (by decide) w (by show s.length<=_;omega)).mono λe w' ⟨c,b⟩=>⟨_,c,by simp[VR],by rcases b with rfl|rfl<;>exact⟨λ_ _=>rfl,abA _,rfl,rfl,rfl⟩⟩) h
theorem OQ(s:List UInt8):Lib.trimB s 0=[]↔s.all (· == 0)=true:=by
 have d:∀l:List UInt8,l.dropWhile (· == 0)=[]↔l.all (· == 0)=true:=λl=>by
  induction l with
  |nil=>simp
  | cons a l ih =>
    rw[List.dropWhile_cons];by_cases c:(a == 0)=true
    .rw[if_pos c,ih,ade,c,acU]
    .rw[if_neg c];simp at c;simp[c]
 unfold Lib.trimB Lib.trimLeftB Lib.trimRightB;rw[d,List.all_reverse];constructor;intro h;rw[<- List.all_reverse];rw[abL]at h⊢;intro x b;by_cases c:x∈s.reverse.dropWhile (· == 0);exact h x c;have:=List.takeWhile_append_dropWhile (p:=(· == 0)) (l:=s.reverse);rw[<- this,abD]at b;rcases b with b|b;exact List.all_takeWhile (p:=(· == 0)) (l:=s.reverse) |> λq=>abL.1 q x b
 exact absurd b c;intro h;rw[abL]at h⊢;exact λx b=>h x (List.mem_reverse.1 ((List.dropWhile_sublist _).subset b))
theorem VV(v:s.length<=124)(h:K (.str (nJ az s)) L):abw 66 [.str s] L K:=by
 obtain⟨n,e⟩:∃n:Nat,124-s.length=n:=⟨_,rfl⟩;have g1:(124:Int)-(s.length:Int)=(n:Int):=aeu;unfold nJ EY at h;rw[e]at h;obtain⟨z,d⟩:∃z:List UInt8,List.replicate n 0=z:=⟨_,rfl⟩;have l:z.length=n:=by rw[<- d,adi]
 rw[d]at h;have kk1:Hid (Ctr Tryz.prog 91 [.str [0],.int .i64 n] (.str z)):=@hid _ (λ{L K} q=>ZN aeu (by rw[d];exact q));obtain⟨t,f⟩:=abr (s++z);have i:t.length=124:=by rw[<- f,abP];omega
 rw[f]at h;have g:=PW t;have m:IntKind.i64.wrap (n:Int)=(n:Int):=af aeu aeu;obtain⟨c,a⟩:=abr (az t);rw[a]at h g;have kk2:Hid (∀{cap:Option Nat}{L:List Blk}{K:abx},K (.int .u32 (c:Int)) L->abw 92 [.sl [.str t] 1 cap] L K):=@hid _ (λ{cap L K} q=>Rj aeu (by rw[a];exact q));obtain⟨p,b⟩:=abr (em c 4);have j:p.length=4:=by rw[<- b,fe]
 rw[b]at h;have u:(p.length:Int)+(t.length:Int)<=9223372036854775807:=aeu;have kk3:Hid (Ctr Tryz.prog 67 [.int .u64 (c:Int),.int .i64 4] (.str p)):=@hid _ (λ{L K} q=>lP (k:=4) aeu aeu aeu (by rw[b];exact q));have g3:IntKind.u64.wrap (c:Int)=(c:Int):=by simp only[IntKind.wrap,IntKind.signed,IntKind.bits];simp;omega
 replace h:=hid h;have r:(s.length:Int)+(z.length:Int)<=9223372036854775807:=aeu;clear a e d b;refine abv JM ?_;exact ag h.o
theorem Qp(n:s.length=128)(h:K (.tup [.str (s.drop 4),.bool (decide (bV (s.take 4)=az (s.drop 4)))]) L):abw 82 [.str s] L K:=by
 obtain⟨g,e⟩:=abr (bV (s.take 4));obtain⟨t,i⟩:=abr (s.drop 4);have k:t.length=124:=by rw[<- i];simp;omega
 rw[i,e]at h;have j:=PW t;obtain⟨c,d⟩:=abr (az t);rw[d]at h j;have kk1:Hid (Ctr Tryz.prog 83 [.str s,.int .i64 0,.int .i64 4] (.tup [.int .u64 (g:Int),.bool true])):=@hid _ (λ{L K} q=>Ek (a:=0) (z:=4) aeu aeu aeu aeu (by rw[adP,e];exact q));have kk2:Hid (∀{cap:Option Nat}{L:List Blk}{K:abx},K (.int .u32 (c:Int)) L->abw 92 [.sl [.str t] 1 cap] L K):=@hid _ (λ{cap L K} q=>Rj aeu (by rw[d];exact q));have g3:IntKind.u64.wrap (c:Int)=(c:Int):=by simp only[IntKind.wrap,IntKind.signed,IntKind.bits];simp;omega
 have l:List.take 124 t=t:=ab7 aeu;obtain⟨b,f⟩:=abr (decide (g=c));have m:decide ((c:Int)=(g:Int))=b:=by rw[<- f];exact decide_eq_decide.2 aeu
 rw[f]at h;replace h:=hid h;clear d f e;refine abv E7 ?_;exact ag h.o
abbrev Es(c:Cel):List AV:=[.int .u64 (c.gen:Int),.int .u64 (c.seq:Int),.int .u64 (c.part:Int),.int .u64 (c.parts:Int),.str c.data]
theorem VU{c:Cel}(D:c.gen<2^32)(A:c.seq<2^32)(H:c.part<2^16)(h4:c.parts<2^16)(M:c.data.length<=110)(h:K (.str (fq az c)) L):abw 88 [.agg (Es c)] L K:=by
 obtain⟨gen,seq,part,parts,data⟩:=c;simp only at D A H h4 M;have a:∀(k n:Nat),∃p,em n k=p/\p.length=k:=λk n=>⟨_,rfl,fe ..⟩
 obtain⟨s,x,l1⟩:=a 4 gen;obtain⟨u,y,N⟩:=a 4 seq;obtain⟨m,r,P⟩:=a 2 part;obtain⟨v,w,V⟩:=a 2 parts;obtain⟨t,z,Q⟩:=a 1 data.length;have G:LY ⟨gen,seq,part,parts,data⟩=((((([67]++s)++u)++m)++v)++t)++data:=by simp only[LY,x,y,r,w,z,abK,adN,acp,aco]
 unfold fq at h;rw[G]at h;have kk1:Hid (Ctr Tryz.prog 67 [.int .u64 (gen:Int),.int .i64 4] (.str s)):=@hid _ (λ{L K} q=>lP (k:=4) aeu aeu aeu (by rw[x];exact q));have kk2:Hid (Ctr Tryz.prog 67 [.int .u64 (seq:Int),.int .i64 4] (.str u)):=@hid _ (λ{L K} q=>lP (k:=4) aeu aeu aeu (by rw[y];exact q));have kk3:Hid (Ctr Tryz.prog 67 [.int .u64 (part:Int),.int .i64 2] (.str m)):=@hid _ (λ{L K} q=>lP (k:=2) aeu aeu aeu (by rw[r];exact q));have kk4:Hid (Ctr Tryz.prog 67 [.int .u64 (parts:Int),.int .i64 2] (.str v)):=@hid _ (λ{L K} q=>lP (k:=2) aeu aeu aeu (by rw[w];exact q));have kk5:Hid (Ctr Tryz.prog 67 [.int .u64 (data.length:Int),.int .i64 1] (.str t)):=@hid _ (λ{L K} q=>lP (k:=1) aeu aeu aeu (by rw[z];exact q));obtain⟨B,j⟩:=abr ([67]++s);obtain⟨C,b⟩:=abr (B++u);obtain⟨F,g⟩:=abr (C++m);obtain⟨I,d⟩:=abr (F++v);obtain⟨E,e⟩:=abr (I++t);obtain⟨l,i⟩:=abr (E++data);have T:B.length=5:=by rw[<- j];simp[l1]
 have R:C.length=9:=by rw[<- b,abP];omega
 have O:F.length=11:=by rw[<- g,abP];omega
 have S:I.length=13:=by rw[<- d,abP];omega
 have W:E.length=14:=by rw[<- e,abP];omega
 have J:l.length<=124:=by rw[<- i,abP];omega
 rw[j,b,g,d,e,i]at h;have kk6:Hid (Ctr Tryz.prog 66 [.str l] (.str (nJ az l))):=@hid _ (λ{L K} q=>VV J q);have g3:IntKind.u64.wrap (data.length:Int)=(data.length:Int):=by simp only[IntKind.wrap,IntKind.signed,IntKind.bits];simp;omega
 obtain⟨U,f⟩:=abr (nJ az l);rw[f]at h kk6;replace h:=hid h;clear G x y r w z a f D A H h4;refine abv vp ?_;exact ae rfl h.o
theorem Sa(e:n<=262144)(h:K (.int .i64 (cw n:Int)) L):abw 62 [.int .i64 (n:Int)] L K:=by
 have g1:decide ((n:Int)<0\/262144<(n:Int))=false:=decide_eq_false aeu;have c:IntKind.i64.wrap ((n:Int)+110)=(n:Int)+110:=af aeu aeu;have g3:IntKind.i64.wrap ((n:Int)+110-1)=((n+109:Nat):Int):=by rw[af aeu aeu];omega
 have g4:IntKind.i64.wrap (((n+109:Nat):Int).tdiv 110)=(((n+109)/110:Nat):Int):=by rw[show((n+109:Nat):Int).tdiv 110=(((n+109)/110:Nat):Int)from rfl];exact af aeu aeu
 have b:(if(((n+109)/110:Nat):Int)>1 then(((n+109)/110:Nat):Int)else 1)=(cw n:Int):=by unfold cw;split<;>omega
 obtain⟨m,a⟩:=abr (n+109);rw[a]at g3 g4 b;obtain⟨d,hd⟩:=abr (m/110);rw[hd]at g4 b;replace h:=hid h;clear a hd;refine abv JN ?_;exact ag h.o
theorem WI(O:s.length=128)(h:K (match rdH az s with|none=>.tup [.int .i64 0,.int .i64 0,.bool false]|some (g,f)=>.tup [.int .i64 (g:Int),.int .i64 (f:Int),.bool true]) L):abw 53 [.str s] L K:=by
 obtain⟨b,l⟩:=abr (decide (bV (s.take 4)=az (s.drop 4)));obtain⟨t,j⟩:=abr (s.drop 4);obtain⟨g,i⟩:=abr (bV ((s.drop 5).take 4));have M:g<2^32:=by rw[<- i];have:=Mt ((s.drop 5).take 4);rw[show((s.drop 5).take 4).length=4 by simp;omega]at this;omega
 obtain⟨u,B⟩:=abr (s.drop 10);obtain⟨v,p⟩:=abr (Lib.trimB u 0);have F:t.length=124:=by rw[<- j,acK];omega
 have J:u.length=118:=by rw[<- B,acK];omega
 have I:u.take 118=u:=ab7 aeu;have kk1:Hid (Ctr Tryz.prog 82 [.str s] (.tup [.str t,.bool b])):=@hid _ (λ{L K} q=>Qp O (by rw[l,j];exact q));have kk2:Hid (Ctr Tryz.prog 83 [.str s,.int .i64 5,.int .i64 4] (.tup [.int .u64 (g:Int),.bool true])):=@hid _ (λ{L K} q=>Ek (a:=5) (z:=4) aeu aeu aeu aeu (by rw[i];exact q));have kk3:Hid (Ctr Tryz.prog 84 [.str u,.str [0]] (.str v)):=@hid _ (λ{L K} q=>Tg aeu (by rw[p];exact q));obtain⟨f,N⟩:=abr (s.getD 9 0);obtain⟨e,r⟩:=abr (t.getD 0 0);obtain⟨y,w⟩:=abr (decide ((e.toNat:Int)=72));obtain⟨D,m⟩:=abr (decide ((g:Int)=0));obtain⟨x,k⟩:=abr (decide (1<(f.toNat:Int)));obtain⟨C,n⟩:=abr (decide (v=[]));have A:(match rdH az s with|none=>AV.tup [.int .i64 0,.int .i64 0,.bool false]|some (g,f)=>.tup [.int .i64 (g:Int),.int .i64 (f:Int),.bool true])=if(!b || !y ||D ||x || !C)=true then .tup [.int .i64 0,.int .i64 0,.bool false]else .tup [.int .i64 (g:Int),.int .i64 (f.toNat:Int),.bool true]:=by unfold rdH zP;rw[j,B];subst w m k n l;have G:(u.all (· == 0)=false)↔¬v=[]:=(by rw[<- p,OQ];simp);have H:((e.toNat:Int)=72)↔e=72:=(by rw[<- adB];show _↔e.toNat=72;omega);rw[j];by_cases a:bV (s.take 4)=az t;rw[if_pos a];simp only[i,N,r,G,a,H];by_cases c:e≠72\/g=0\/1<f.toNat\/¬v=[];rw[if_pos c];rw[if_pos (by rcases c with c|c|c|c<;>simp[c];omega)];rw[if_neg c];simp only[not_or,adQ]at c;rw[if_neg (by simp[c];omega)];simp[if_neg a,a]
 have Q:IntKind.i64.wrap (g:Int)=(g:Int):=af aeu aeu;have d:=f.toNat_lt;have P:IntKind.i64.wrap (f.toNat:Int)=(f.toNat:Int):=af aeu aeu;rw[A]at h;clear A l i p d;obtain⟨q,E⟩:=abr ((!b || !y ||D ||x || !C));rw[E]at h;cases q with
 | true =>
   replace h:=hid h;refine abv u0 ?_;exact ag h.o
 | false =>
   replace h:=hid h;refine abv u0 ?_;exact ag h.o
abbrev Rp:Cel:=⟨0,0,0,0,[]⟩
theorem kM(s:List UInt8)(a z:Nat):bV ((s.drop a).take z)<256^z:=acH (Mt _) (Nat.pow_le_pow_right (by decide) (by simp;omega))
theorem Z2{α:Type}{p q:Prop}[Decidable p][Decidable q]{a b c:α}(h:p↔q)(e:b=c):(if p then a else b)=if q then a else c:=by by_cases g:p;rw[if_pos g,if_pos (h.1 g)];rw[if_neg g,if_neg (λx=>g (h.2 x)),e]
def csR(a b c d:Nat):Nat->List AV
 |0=>[.int .u64 0,.int .u64 0,.int .u64 0,.int .u64 0,.str []]
 |1=>[.int .u64 a,.int .u64 0,.int .u64 0,.int .u64 0,.str []]
 |2=>[.int .u64 a,.int .u64 b,.int .u64 0,.int .u64 0,.str []]
 |3=>[.int .u64 a,.int .u64 b,.int .u64 c,.int .u64 0,.str []]
 |_=>[.int .u64 a,.int .u64 b,.int .u64 c,.int .u64 d,.str []]
def BlR(L M:List Blk)(A C:List AV):Prop:=∃X,M=L ++ .cells A :: .cells C::X
theorem BlR.get{L:List Blk}(h:BlR L M A C)(Y:List Blk):(M++Y)[L.length+1]?=some (.cells C):=by obtain⟨X,rfl⟩:=h;rw[abK,abN aeu];simp
theorem BlR.get0{L:List Blk}(h:BlR L M A C)(Y:List Blk):(M++Y)[L.length]?=some (.cells A):=by obtain⟨X,rfl⟩:=h;rw[abK,abN aeu];simp
theorem BlR.put{L:List Blk}(h:BlR L M A C)(Y:List Blk)(D:List AV):BlR L ((M++Y).set (L.length+1) (.cells D)) A D:=by obtain⟨X,rfl⟩:=h;refine⟨X++Y,?_⟩;rw[abK,ach _ _ aeu];simp
theorem BlR.res{L:List Blk}(h:BlR L M A C)(b:Blk):∃X,M.set L.length b=L++X:=by obtain⟨X,rfl⟩:=h;exact⟨_,by rw[ach _ _ aeu]⟩
theorem BlR.len{L:List Blk}(h:BlR L M A C):L.length+1<M.length:=by obtain⟨X,rfl⟩:=h;simp
theorem Mq(hs:s.length=128)(h:K (match rdC az s with|none=>.tup [.agg (Es Rp),.bool false]|some c=>.tup [.agg (Es c),.bool true]) L):abw 55 [.str s] L K:=by
 obtain⟨b,hb⟩:=abr (decide (bV (s.take 4)=az (s.drop 4)));obtain⟨t,G⟩:=abr (s.drop 4);obtain⟨g,w⟩:=abr (bV ((s.drop 5).take 4));obtain⟨i,p⟩:=abr (bV ((s.drop 9).take 4));obtain⟨n3,x⟩:=abr (bV ((s.drop 13).take 2));obtain⟨n4,r⟩:=abr (bV ((s.drop 15).take 2));have l1:g<2^32:=by rw[<- w];exact kM s 5 4
 have l2:i<2^32:=by rw[<- p];exact kM s 9 4
 have l3:n3<2^16:=by rw[<- x];exact kM s 13 2
 have l4:n4<2^16:=by rw[<- r];exact kM s 15 2
 obtain⟨f,hf⟩:=abr (s.getD 17 0);obtain⟨D,R⟩:=abr (t.getD 0 0);obtain⟨n,hn⟩:=abr (f.toNat);have a0:t.length=124:=by rw[<- G,acK];omega
 have kk1:Hid (Ctr Tryz.prog 82 [.str s] (.tup [.str t,.bool b])):=@hid _ (λ{L K} q=>Qp hs (by rw[hb,G];exact q));have kk2:Hid (Ctr Tryz.prog 83 [.str s,.int .i64 5,.int .i64 4] (.tup [.int .u64 (g:Int),.bool true])):=@hid _ (λ{L K} q=>Ek (a:=5) (z:=4) aeu aeu aeu aeu (by rw[w];exact q));have kk3:Hid (Ctr Tryz.prog 83 [.str s,.int .i64 9,.int .i64 4] (.tup [.int .u64 (i:Int),.bool true])):=@hid _ (λ{L K} q=>Ek (a:=9) (z:=4) aeu aeu aeu aeu (by rw[p];exact q));have kk4:Hid (Ctr Tryz.prog 83 [.str s,.int .i64 13,.int .i64 2] (.tup [.int .u64 (n3:Int),.bool true])):=@hid _ (λ{L K} q=>Ek (a:=13) (z:=2) aeu aeu aeu aeu (by rw[x];exact q));have kk5:Hid (Ctr Tryz.prog 83 [.str s,.int .i64 15,.int .i64 2] (.tup [.int .u64 (n4:Int),.bool true])):=@hid _ (λ{L K} q=>Ek (a:=15) (z:=2) aeu aeu aeu aeu (by rw[r];exact q));obtain⟨u,J⟩:=abr (s.drop (18+n));obtain⟨v,Q⟩:=abr (Lib.trimB u 0);have a1:u.length=110-n:=by rw[<- J,acK];omega
 have kk6:Hid (Ctr Tryz.prog 84 [.str u,.str [0]] (.str v)):=@hid _ (λ{L K} q=>Tg aeu (by rw[Q];exact q));obtain⟨x1,an⟩:=abr (decide ((D.toNat:Int)=67));obtain⟨x3,V⟩:=abr (decide ((g:Int)=0));obtain⟨x4,H⟩:=abr (decide ((n4:Int)<=(n3:Int)));obtain⟨x6,P⟩:=abr (decide (v=[]));obtain⟨I,U⟩:=abr (decide ((n3:Int)=(n4:Int)-1));obtain⟨x8,ab⟩:=abr (decide ((n:Int)<110));obtain⟨x9,ad⟩:=abr (decide ((n:Int)=0));obtain⟨y1,T⟩:=abr (decide (1<(n4:Int)));obtain⟨F,C⟩:=abr ((s.drop 18).take n);have hR:rdC az s=if(!b || !x1)=true then none else if 110<n then none else if(x3 ||x4 || !x6)=true then none else if(!I&&x8 ||I&&x9&&y1)=true then none else some ⟨g,i,n3,n4,F⟩:=by
  unfold rdC zP;rw[G];subst an V H P U ab ad T hb;have e3:(u.all (· == 0)=false)↔¬v=[]:=(by rw[<- Q,OQ];simp);have e4:((D.toNat:Int)=67)↔D=67:=(by rw[<- adB];show _↔D.toNat=67;omega);by_cases a:bV (s.take 4)=az t;rw[if_pos a,G];simp only[R,hf,hn,w,p,x,r,J,C];have B1:D≠67↔(!decide (bV (s.take 4)=az t) || !decide ((D.toNat:Int)=67))=true:=by simp only[ne_eq,acn,acd,decide_eq_false_iff_not,a,not_true,false_or,e4]
  by_cases a2:110<n;simp only[a2,true_or,if_true,ite_self];refine Z2 B1 ?_;rw[if_neg a2];refine Z2 ?_ (Z2 ?_ rfl);rw[e3];have e1:((g:Int)=0)↔g=0:=aeu;have e2:((n4:Int)<=(n3:Int))↔n4<=n3:=aeu;simp only[acn,acd,decide_eq_true_eq,decide_eq_false_iff_not,e1,e2,a2,false_or,or_assoc];simp only[acn,abH,acd,decide_eq_true_eq,decide_eq_false_iff_not];omega;rw[if_neg a];have B1:(!decide (bV (s.take 4)=az t) || !decide ((D.toNat:Int)=67))=true:=(by rw[decide_eq_false a];rfl);simp only[G,B1,if_true]
 have Z:n<256:=by rw[<- hn];exact f.toNat_lt
 have w1:IntKind.i64.wrap (n:Int)=(n:Int):=af aeu aeu;rw[hR]at h;clear hR hb w p x r Q;obtain⟨q,hq⟩:=abr ((!b || !x1));cases q with
 | true =>
   have h':Hid (K (.tup [.agg (Es Rp),.bool false]) L):=(by rw[hq,if_pos rfl]at h;exact hid h);clear h;refine abv uZ ?_;exact ae rfl h'.o
 | false =>
   rw[hq,if_neg (by decide)]at h;replace h:=hid h;refine abv uZ ?_;refine ar (λm T' M=>∃k,m=4-k/\k<=4/\Hid (BlR L M (csR g i n3 n4 0) (csR g i n3 n4 k))/\T'=[(34,.int .i64 (k:Int)),(33,.int .i64 4),(32,.sl [.ptr (L.length+1) 0,.int .i64 5,.int .i64 4,.ptr (L.length+1) 1,.int .i64 9,.int .i64 4,.ptr (L.length+1) 2,.int .i64 13,.int .i64 2,.ptr (L.length+1) 3,.int .i64 15,.int .i64 2] 4 (some 4)),(6,.ptr (L.length+1) 0),(3,.bool false),(2,.ptr L.length 0),(0,.str s)]) aey ⟨0,rfl,aeu,hid ⟨[],rfl⟩,rfl⟩ ?_;rintro _ _ M ⟨k,rfl,hk,j,rfl⟩;have a7:=j.o.len;have d:=hid j.o.get;by_cases O:k<4
   .have hne:L.length+1≠M.length:=aeu;have E:k=0\/k=1\/k=2\/k=3:=aeu;have a3:∀y:Blk,(M++[y])[M.length]?=some y:=λy=>aev
    clear hk;rcases E with rfl|rfl|rfl|rfl
    .have l:∀Y:List Blk,(M++Y)[L.length+1]?=some (.cells [.int .u64 0,.int .u64 0,.int .u64 0,.int .u64 0,.str []]):=d.o;clear d;refine wk ?_;exact aez aeu (CutL (b:=by simp;omega)) ⟨1,rfl,aeu,hid (j.o.put _ _),rfl⟩
    .have l:∀Y:List Blk,(M++Y)[L.length+1]?=some (.cells [.int .u64 g,.int .u64 0,.int .u64 0,.int .u64 0,.str []]):=d.o;clear d;refine wk ?_;exact aez aeu (CutL (b:=by simp;omega)) ⟨2,rfl,aeu,hid (j.o.put _ _),rfl⟩
    .have l:∀Y:List Blk,(M++Y)[L.length+1]?=some (.cells [.int .u64 g,.int .u64 i,.int .u64 0,.int .u64 0,.str []]):=d.o;clear d;refine wk ?_;exact aez aeu (CutL (b:=by simp;omega)) ⟨3,rfl,aeu,hid (j.o.put _ _),rfl⟩
    .have l:∀Y:List Blk,(M++Y)[L.length+1]?=some (.cells [.int .u64 g,.int .u64 i,.int .u64 n3,.int .u64 0,.str []]):=d.o;clear d;refine wk ?_;exact aez aeu (CutL (b:=by simp;omega)) ⟨4,rfl,aeu,hid (j.o.put _ _),rfl⟩
   .have E:k=4:=aeu;subst E;clear hk O;have l:M[L.length+1]?=some (.cells [.int .u64 g,.int .u64 i,.int .u64 n3,.int .u64 n4,.str []]):=(by have:=d.o [];rw[ab1]at this;exact this);have ai:M[L.length]?=some (.cells [.int .u64 0,.int .u64 0,.int .u64 0,.int .u64 0,.str []]):=(by have:=j.o.get0 [];rw[ab1]at this;exact this);have a4:∀b:Blk,(M.set L.length b)[L.length]?=some b:=λb=>ab9 aeu
    have a5:∀b:Blk,(M.set (L.length+1) b)[L.length+1]?=some b:=λb=>ab9 aeu
    have a6:∀b:Blk,(M.set (L.length+1) b)[L.length]?=some (.cells [.int .u64 0,.int .u64 0,.int .u64 0,.int .u64 0,.str []]):=λb=>by rw[abE aeu];exact ai
    have av:∀b c:Blk,((M.set (L.length+1) b).set L.length c)[L.length]?=some c:=λb c=>ab9 (by simp;omega)
    clear d;by_cases c2:110<n
    .have h':Hid (K (.tup [.agg (Es Rp),.bool false]) L):=(by have h:=h.o;rw[if_pos c2]at h;exact hid h);have g1:decide (110<(n:Int))=true:=decide_eq_true aeu;clear h;refine wk ?_;obtain⟨X,B⟩:=j.o.res (.cells (Es Rp));have q:=ae (L2:=X) (hr:=rfl) h'.o;rw[<- B]at q;exact q
    .have g1:decide (110<(n:Int))=false:=decide_eq_false aeu;have h:=h.o;rw[if_neg c2]at h;obtain⟨q2,A⟩:=abr ((x3 ||x4 || !x6));rw[A]at h;have w2:IntKind.i64.wrap (18+(n:Int))=((18+n:Nat):Int):=(by rw[af aeu aeu];omega);have W:(s.drop (18+n)).take (128-(18+n))=u:=(by rw[J,ab7 aeu]);have al:(s.drop 18).take (18+n-18)=F:=(by rw[<- C];congr 1;omega);have w3:18+n<=128:=aeu;obtain⟨e,he⟩:=abr (18+n);rw[he]at w2 W al w3;have w4:18<=e:=aeu;clear J C he;cases q2 with
     | true =>
       rw[if_pos rfl]at h;replace h:=hid h;refine wk ?_;obtain⟨X,B⟩:=j.o.res (.cells (Es Rp));have q:=ae (L2:=X) (hr:=rfl) h.o;rw[<- B]at q;exact q
     | false =>
       rw[if_neg (by decide)]at h;have ap:n3<n4:=by simp only[adD]at A;have:=H.trans A.1.2;simp at this;omega
       have w5:IntKind.u64.wrap ((n4:Int)-1)=(n4:Int)-1:=(by simp only[IntKind.wrap,IntKind.signed,IntKind.bits];simp;omega);obtain⟨q3,S⟩:=abr ((!I&&x8 ||I&&x9&&y1));rw[S]at h;cases q3 with
       | true =>
         rw[if_pos rfl]at h;replace h:=hid h;refine wk ?_;obtain⟨X,B⟩:=j.o.res (.cells (Es Rp));have q:=ae (L2:=X) (hr:=rfl) h.o;rw[<- B]at q;exact q
       | false =>
         rw[if_neg (by decide)]at h;replace h:=hid h;refine wk ?_;have N:BlR L (M.set (L.length+1) (.cells (Es ⟨g,i,n3,n4,F⟩))) (csR g i n3 n4 0) (Es ⟨g,i,n3,n4,F⟩):=by have:=j.o.put [] (Es ⟨g,i,n3,n4,F⟩);rwa[ab1]at this
         obtain⟨X,B⟩:=N.res (.cells (Es ⟨g,i,n3,n4,F⟩));have q:=ae (L2:=X) (hr:=rfl) h.o;rw[<- B]at q;exact q
theorem NZ(gen seq parts:Nat):∀(n i:Nat) (b:List UInt8),kO gen seq parts (n+1) i b=kO gen seq parts n i b++[⟨gen,seq,i+n,parts,(b.drop (110*n)).take 110⟩]
 |0,i,b=>rfl
 |n+1,i,b=>by rw[kO,NZ gen seq parts n (i+1) (b.drop 110),kO,acp,adh,show i+1+n=i+(n+1)by omega,show 110+110*n=110*(n+1)by omega]
theorem TS{seq:Nat}(E:gen<2^32)(F:seq<2^32)(y:b.length<=262144)(h:K (.sl (((vc gen seq b).map (fq az)).map AV.str) (cw b.length) none) L):abw 63 [.int .i64 gen,.int .i64 seq,.str b] L K:=by
 unfold vc at h;obtain⟨p,u⟩:=abr (cw b.length);have kk1:Hid (Ctr Tryz.prog 62 [.int .i64 (b.length:Int)] (.int .i64 (p:Int))):=@hid _ (λ{L K} q=>Sa (n:=b.length) y (by rw[u];exact q));have J:p<=2384:=by rw[<- u];unfold cw;omega
 rw[u]at h;have R:IntKind.u64.wrap (gen:Int)=(gen:Int):=by simp only[IntKind.wrap,IntKind.signed,IntKind.bits];simp;omega
 have Q:IntKind.u64.wrap (seq:Int)=(seq:Int):=by simp only[IntKind.wrap,IntKind.signed,IntKind.bits];simp;omega
 have N:IntKind.u64.wrap (p:Int)=(p:Int):=by simp only[IntKind.wrap,IntKind.signed,IntKind.bits];simp;omega
 replace h:=hid h;have I:=hid y;clear u y;refine abv Hs ?_;refine cB (l:=[]) (n:=0) 7 1 rfl (acg 1).symm ?_;refine ar (λm T' L'=>∃(k:Nat) (C:List AV) (r:List UInt8) (X:List Blk),m=p-k/\k<=p/\Hid (b.drop (110*k)=r)/\Hid (C=((kO gen seq p k 0 b).map (fq az)).map AV.str)/\T'=[(15,.int .i64 (k:Int)),(14,.int .i64 p),(8,.int .i64 p),(7,.gsl C k L.length 1),(0,.int .i64 gen),(1,.int .i64 seq),(2,.str r)]/\L'=L++(.spare k 1::X)) aey ⟨0,[],b,[],rfl,abJ _,hid rfl,hid rfl,rfl,aev⟩ ?_;rintro _ _ _ ⟨k,C,r,X,rfl,G,hr,t,rfl,rfl⟩;by_cases i:k<p;have g1:(k:Int)<(p:Int):=aeu;have O:=abu k aeu;have S:IntKind.u64.wrap (k:Int)=(k:Int):=by simp only[IntKind.wrap,IntKind.signed,IntKind.bits];simp;omega
 obtain⟨q,e⟩:=abr (min r.length 110);have M:(if(r.length:Int)<110 then(r.length:Int)else 110)=(q:Int):=by rw[<- e];split<;>omega
 have P:q<=r.length:=aeu;obtain⟨d,hd⟩:=abr (r.take q);obtain⟨v,a⟩:=abr (r.drop q);have B:(r.drop q).take (r.length-q)=v:=by rw[a,ab7 (by rw[<- a];simp)]
 have f:r.take 110=d:=by rw[<- hd,<- e];by_cases c:110<=r.length;rw[Nat.min_eq_right c];rw[adm aeu,ab7 aeu,ab7 (abA _)]
 have s:r.drop 110=v:=by rw[<- a,<- e];by_cases c:110<=r.length;rw[Nat.min_eq_right c];rw[adm aeu,ac6 aeu,ac6 (abA _)]
 obtain⟨D,g⟩:=abr (fq az ⟨gen,seq,k,p,d⟩);have j:d.length<=110:=by rw[<- f];simp;omega
 have kk2:Hid (Ctr Tryz.prog 88 [.agg [.int .u64 (gen:Int),.int .u64 (seq:Int),.int .u64 (k:Int),.int .u64 (p:Int),.str d]] (.str D)):=@hid _ (λ{L K} q=>VU (c:=⟨gen,seq,k,p,d⟩) E F (by show k<2^16;omega) (by show p<2^16;omega) j (by rw[g];exact q));have x:Hid (C++[.str D]=((kO gen seq p (k+1) 0 b).map (fq az)).map AV.str):=hid (by rw[NZ,abS,abS,<- t.o,hr.o,f,acS];show _=C++[AV.str (fq az ⟨gen,seq,k,p,d⟩)];rw[g])
 have z:Hid (b.drop (110*(k+1))=v):=hid (by rw[<- s,<- hr.o,adh];congr 1);clear t g j hr a f s e;refine wk ?_;refine aez aeu aex ⟨k+1,_,_,_,rfl,i,z,x,rfl,rfl⟩;have A:k=p:=aeu;subst A;have g1:¬(k:Int)<(k:Int):=aeu;have w:=t.o;have H:=jo ((kO gen seq k k 0 b).map (fq az));subst w;clear t hr G i;refine wk ?_;refine aB ?_;simp only[AV.frz,H];refine ae ?_ h.o;simp only[AV.refs,jM]
theorem XR{ws:List WtE}{ck:Nat}(h:Mb ws n ck){i:Nat}(I:i<n)(s:List UInt8):Mb (HG ws ck i s).1 n (HG ws ck i s).2/\∀(S:List Sec) (j:Nat),sn S (HG ws ck i s).1 j=if j=i then s else sn S ws j:=by
 unfold HG;rcases Ps ws i with⟨a,b⟩|⟨m,a,b⟩;rw[a];have z:∀e∈ws,e.1≠(i:Int):=λe d q=>by have:=acG.1 b e d;simp[q]at this
 refine⟨⟨?_,?_,λe d=>?_,λe d=>?_⟩,λS j=>?_⟩;rw[abS,ac7];refine⟨h.keys,aev,λx u y w q=>?_⟩;simp only[abO,acw,abV]at w;obtain⟨e,d,rfl⟩:=abB.1 u;exact z e d (q.trans w);rw[abS,ac7];refine⟨h.born,aev,λx u y w q=>?_⟩;simp only[abO,acw,abV]at w;obtain⟨e,d,rfl⟩:=abB.1 u;have:=h.lt e d;omega;rcases abD.1 d with d|d;have:=h.lt e d;show e.2.2<ck+1;omega;rw[abV]at d;subst d;exact Nat.lt_succ_self _;rcases abD.1 d with d|d;exact h.rng e d;rw[abV]at d;subst d;show 0<=(i:Int)/\(i:Int)<n;omega;unfold sn;rw[List.find?_append];by_cases c:j=i;subst c;rw[b,if_pos rfl];simp;rw[if_neg c];cases ws.find? (λe=>decide (e.1=(j:Int)))with
 |some e=>rfl
 | none =>
   have o:¬(i:Int)=(j:Int):=aeu;simp[o]
 .rw [a];rw [adR] at a;obtain ⟨k,E,G⟩:=a;have A:ws.getD m default=ws[m]:=(by simp [k]);have g:ws[m].1=(i:Int):=(by simpa using E);have D:(ws.set m ((i:Int),s,(ws.getD m default).2.2)).map (·.1)=ws.map (·.1):=by
   rw[List.map_set];show(ws.map (·.1)).set m (i:Int)=_;rw[<- g];apply acz;intro t;by_cases c:t=m
   .subst c;rw[ab9 (by simpa using k)];simp[k]
   .rw[abE (Ne.symm c)]
  have F:(ws.set m ((i:Int),s,(ws.getD m default).2.2)).map (·.2.2)=ws.map (·.2.2):=by
   rw[List.map_set];show(ws.map (·.2.2)).set m (ws.getD m default).2.2=_;rw[A];apply acz;intro t;by_cases c:t=m
   .subst c;rw[ab9 (by simpa using k)];simp[k]
   .rw[abE (Ne.symm c)]
  have C:∀e∈ws.set m ((i:Int),s,(ws.getD m default).2.2),∃f∈ws,f.1=e.1/\f.2.2=e.2.2:=λe d=>by
   rcases List.mem_or_eq_of_mem_set d with d|d
   .exact⟨e,d,rfl,rfl⟩
   .exact⟨ws[m],acN k,by rw[d];exact g,by rw[d,A]⟩
  refine⟨⟨by rw[D];exact h.keys,by rw[F];exact h.born,λe d=>?_,λe d=>?_⟩,λS j=>?_⟩
  .obtain⟨f,l,p,r⟩:=C e d;rw[<- r];exact h.lt f l
  .obtain⟨f,l,p,r⟩:=C e d;rw[<- p];exact h.rng f l
  .obtain⟨v,hv⟩:=abr ((ws.getD m default).2.2);show sn S (ws.set m ((i:Int),s,(ws.getD m default).2.2)) j=_;rw[hv];have key:∀(W:List WtE) (m:Nat),(∃e,W[m]?=some e/\e.1=(i:Int))->(∀t,t<m->∀e,W[t]?=some e->e.1≠(i:Int))->sn S (W.set m ((i:Int),s,v)) j=if j=i then s else sn S W j:=by
    intro W;induction W with
    |nil=>rintro m ⟨e,q,_⟩;simp at q
    | cons x W ih =>
      rintro m ⟨e,l,p⟩ r;unfold sn at ih⊢;cases m with
      | zero =>
        simp only[acs,abz]at l;subst l;rw[List.set_cons_zero,acE,acE,p];by_cases c:j=i
        .subst c;simp
        .have o:¬(i:Int)=(j:Int):=aeu;simp[c,o]
      | succ m =>
        rw[List.set_cons_succ,acE,acE];have u:=r 0 (Nat.succ_pos _) x rfl;by_cases o:x.1=(j:Int)
        .have c:¬j=i:=λe=>u (by rw[o,e])
         simp[o,c]
        .simp only[decide_eq_false o];exact ih m ⟨e,l,p⟩ (λt B f d=>r (t+1) aeu f d)
   refine key ws m ⟨_,by simp[k],g⟩ λt B e d=>?_
   have:=G t B;obtain⟨H,rfl⟩:=aby.1 d;simpa using this
theorem Mb.nil(n ck:Nat):Mb [] n ck:=⟨adt,adt,(λ_ a=>by cases a),(λ_ a=>by cases a)⟩
theorem W8(S:List Sec)(j:Nat):sn S [] j=S.getD j []:=rfl
theorem UJ{S ss:List Sec}{a:Nat}(h:a+ss.length<=S.length)(b:k<ss.length)(j:Nat):(fK S a (ss.take (k+1))).getD j []=if j=a+k then ss.getD k []else(fK S a (ss.take k)).getD j []:=by
 have l1:(ss.take (k+1)).length=k+1:=by simp;omega
 have l0:(ss.take k).length=k:=by simp;omega
 rw[abR,abR,abR];by_cases c:j=a+k;rw[if_pos c,JB aeu aeu aeu,acf aeu,show j-a=k by omega];rw[if_neg c];by_cases d:a<=j/\j<a+k;rw[JB aeu aeu aeu,JB aeu aeu aeu,acf aeu,acf aeu];rw[jn aeu aeu,jn aeu aeu]
theorem Ys{S ss:List Sec}{a:Nat}{ws:List WtE}(h:a+ss.length<=S.length)(c:∀j,sn S ws j=(fK S a ss).getD j []):(List.range S.length).map (sn S ws)=fK S a ss:=by
 apply acz;intro i;by_cases b:i<S.length;rw[acy,List.getElem?_range b,abQ,c,abR];have:i<(fK S a ss).length:=by rw[mZ h];exact b
 simp[this];rw[acx (by simp;omega),acx (by rw[mZ h];omega)]
abbrev j9(dp:Nat)(j:Jst)(cl:Bool):List AV:=[.ptr dp 0,.int .i64 j.gen,.int .i64 j.half,.int .i64 j.slot,.int .i64 j.used,.int .i64 j.n,.bool cl,.bool false]
theorem RZ{L:List Blk}{i:Nat}{b:Blk}(h:L[i]?=some b):L.set i b=L:=by apply acz;intro k;by_cases c:k=i;rw[c,ab9 (aby.1 h).1,h];rw[abE (Ne.symm c)]
section
variable {L:List Blk}{jp dp lp wp ck:Nat}{cp:Option Nat}{lim:Int}{x y z:AV}{S:List Sec}{j:Jst}{cl:Bool}
theorem JD(f:L[jp]?=some (.cells (j9 dp j cl)))(hd:L[dp]?=some (.cells (fX lp wp S.length cp lim false 0 x y z)))(e:2<=S.length)(c:S.length<=8192){K:abx}(h:K (.int .i64 (aQ S.length:Nat)) L):abw 54 [.ptr jp 0] L K:=by
 have kk1:Hid (∀{K:abx},K (.int .i64 (S.length:Int)) L->abw 51 [.ptr dp 0] L K):=@hid _ (λ{K} q=>TO hd q);obtain⟨n,a⟩:=abr (S.length);obtain⟨m,d⟩:=abr (n-2);have g3:IntKind.i64.wrap ((n:Int)-2)=(m:Int):=by rw[af aeu aeu];omega
 have g4:IntKind.i64.wrap ((m:Int).tdiv 2)=(aQ n:Int):=by rw[show(m:Int).tdiv 2=((m/2:Nat):Int)from rfl,af aeu aeu];unfold aQ;omega
 obtain⟨s,b⟩:=abr (aQ n);rw[b]at g4;rw[a]at kk1;rw[a,b]at h;replace h:=hid h;clear hd d b e c a;refine abv sq ?_;exact ag h.o
theorem JF(g:L[jp]?=some (.cells (j9 dp j cl)))(hd:L[dp]?=some (.cells (fX lp wp S.length cp lim false 0 x y z)))(f:2<=S.length)(a:S.length<=8192){b:Nat}(k:b<=1){K:abx}(h:K (.int .i64 (aK S.length b:Nat)) L):abw 56 [.ptr jp 0,.int .i64 (b:Int)] L K:=by
 obtain⟨n,c⟩:=abr (aQ S.length);have kk1:Hid (∀{K:abx},K (.int .i64 (n:Int)) L->abw 54 [.ptr jp 0] L K):=@hid _ (λ{K} q=>JD g hd f a (by rw[c];exact q));have i:n<=8192:=by rw[<- c];unfold aQ;omega
 have e:b*n<=8192:=by rcases(by omega:b=0\/b=1)with rfl|rfl<;>omega
 unfold aK at h;rw[c]at h;obtain⟨m,d⟩:=abr (b*n);rw[d]at h e;have g3:IntKind.i64.wrap ((b:Int)*(n:Int))=(m:Int):=by rw[show(b:Int)*(n:Int)=((b*n:Nat):Int)from by simp,d,af aeu aeu]
 have g4:IntKind.i64.wrap (2+(m:Int))=((2+m:Nat):Int):=by rw[af aeu aeu];omega
 replace h:=hid h;clear hd g d c f a;refine abv sb ?_;exact ag h.o
theorem PM(T:L[jp]?=some (.cells (j9 dp j false)))(hd:L[dp]?=some (.cells (fX lp wp S.length cp lim false 0 x y z)))(W:L[lp]?=some (.cells (S.map AV.str)))(hw:L[wp]?=some (.map [] ck))(n1:dp≠lp)(n2:dp≠wp)(n3:lp≠wp)(n4:jp≠lp)(n5:jp≠wp)(Z:S.length<=8192){a:Nat}{ss:List Sec}{c:Option Nat}(A:∀s∈ss,s.length=128)(B:a+ss.length<=S.length)(p:0<ss.length->((a+ss.length:Nat):Int)<=lim){K:abx}(h:∀M d,M[lp]?=some (.cells ((fK S a ss).map AV.str))->M[wp]?=some (.map [] d)->(∀j,j≠lp->j≠wp->j<L.length->M[j]?=L[j]?)->L.length<=M.length->K (.int .i64 0) M):
  abw 64 [.ptr jp 0,.int .i64 (a:Int),.sl (ss.map AV.str) ss.length c] L K:=by
 have a6:=hid (aby.1 hd).1;have V:=hid (aby.1 hw).1;have a7:=hid (aby.1 W).1;have al:=hid (aby.1 T).1;replace h:=hid h;have I:=hid Z;have t:=hid p;have n:=hid B;have E:=hid A;have ad:=hid hw;have av:=hid W;have ai:=hid hd;have ab:=hid T;obtain⟨J,u⟩:=abr (ss.map AV.str);have a4:J.length=ss.length:=by rw[<- u];simp
 have P:Hid (∀i,i<ss.length->J.getD i .undef=.str (ss.getD i [])):=hid (λi h2=>by rw[<- u,abR,abR];simp[h2])
 rw[u];have ap:∀b:Blk,(L.set wp b)[jp]?=some (.cells (j9 dp j false)):=λb=>by rw[abE (Ne.symm n5)];exact T
 clear p B A W hd hw T u;refine abv vq ?_;refine ar (λm T' L'=>∃(k:Nat) (ws:List WtE) (d:Nat),m=ss.length-k/\k<=ss.length/\Hid (Mb ws S.length d/\∀j,sn S ws j=(fK S a (ss.take k)).getD j [])/\T'=[(13,.int .i64 (k:Int)),(12,.int .i64 ss.length),(11,.sl J ss.length c),(6,.int .i64 0),(0,.ptr jp 0),(1,.int .i64 (a:Int)),(2,.sl J ss.length c)]/\L'=L.set wp (.map (ws.map wtA) d)) aey ⟨0,[],ck,rfl,abJ _,hid ⟨Mb.nil _ _,λj=>by simp[W8,fK]⟩,rfl,(RZ ad.o).symm⟩ ?_;rintro _ _ _ ⟨k,ws,d,rfl,hk,R,rfl,rfl⟩;have v:Hid ((L.set wp (.map (ws.map wtA) d))[dp]?=some (.cells (fX lp wp S.length cp lim false 0 x y z))):=hid (by rw[abE (Ne.symm n2)];exact ai.o);have g:Hid ((L.set wp (.map (ws.map wtA) d))[lp]?=some (.cells (S.map AV.str))):=hid (by rw[abE (Ne.symm n3)];exact av.o);have w:Hid ((L.set wp (.map (ws.map wtA) d))[wp]?=some (.map (ws.map wtA) d)):=hid (ab9 V.o);by_cases l:k<ss.length;have hf:=n.o;have g1:(k:Int)<(ss.length:Int):=aeu;have g2:=abu k aeu;have g3:IntKind.i64.wrap ((a:Int)+(k:Int))=((a+k:Nat):Int):=by rw[af aeu aeu];omega
 have a5:k<J.length:=aeu;have e1:=P.o k l;obtain⟨s,U⟩:=abr (ss.getD k []);rw[U]at e1;have C:s.length=128:=E.o s (by rw[<- U];simp[l]);obtain⟨r,f⟩:=R.o;have Q:=XR r (i:=a+k) aeu s;obtain⟨⟨D,O⟩,F⟩:∃q,HG ws d ((a+k:Nat):Int) s=q:=⟨_,rfl⟩;have kk1:Hid (∀{K:abx},K (.int .i64 0) (L.set wp (.map (D.map wtA) O))->abw 89 [.ptr dp 0,.int .i64 ((a+k:Nat):Int),.str s] (L.set wp (.map (ws.map wtA) d)) K):=@hid _ (λ{K} q=>WY v.o g.o w.o (Ne.symm n2) C aeu (by have:=t.o aeu;omega) (by rw[F,adE];exact q));rw[F]at Q;have an:Hid (Mb D S.length O/\∀j,sn S D j=(fK S a (ss.take (k+1))).getD j []):=hid ⟨Q.1,λj=>by rw[Q.2,UJ hf l,U,f]⟩;clear R r f Q F U hf v g w;refine wk ?_;exact aez aeu aex ⟨k+1,_,_,rfl,l,an,rfl,rfl⟩;have a0:k=ss.length:=aeu;subst a0;have g1:¬(ss.length:Int)<(ss.length:Int):=aeu;obtain⟨r,f⟩:=R.o;rw[abX]at f;clear l hk;refine wk ?_;refine W2 v.o g.o w.o r n1 n2 n3 I.o (λM X m2 m3 m4=>?_);rw[Ys n.o f]at X;have N:L.length<=M.length:=by simpa using m4
 have G:∀i,i≠lp->i≠wp->i<L.length->M[i]?=L[i]?:=λi a1 a2 a3=>by rw[m3 i a1 a2 (by simpa using a3),abE (Ne.symm a2)]
 have Y:M[jp]?=some (.cells (j9 dp j false)):=by rw[G jp n4 n5 al.o];exact ab.o
 have H:∀b,M[jp]?=some b->M.set jp b=M:=λb e=>RZ e
 have hM:M.set jp (.cells (j9 dp j false))=M:=RZ Y;have h2:=hid (h.o M d X m2 G N);clear H R r f X m2 m3 G m4 N h v g w ap P;refine wk ?_;exact ag h2.o
end
variable {L:List Blk}{K:abx}
set_option maxHeartbeats 8000000
set_option maxRecDepth 100000
theorem V9{c:Cel}(h:rdC az s=some c):c.gen<2^32/\c.seq<2^32/\c.part<2^16/\c.parts<2^16/\c.data.length<=110:=by unfold rdC at h;split at h;cases h;split at h;cases h;split at h;cases h;split at h;cases h;cases h;rename_i q _;simp only[not_or]at q;exact⟨kM s 5 4,kM s 9 4,kM s 13 2,kM s 15 2,by simp only[acv];omega⟩
theorem Uu{f:σ->Option Cel}{R:List σ}{a:List (List UInt8)}(h:jN f gen a.length R 0 1 []=none):gg f gen n R a=a:=by
 cases n with
 |zero=>rfl
 | succ n =>
   cases R with
   |nil=>rfl
   |cons s r=>rw[gg,h]
theorem Ut{f:σ->Option Cel}{R d:List σ}{a:List (List UInt8)}(e:R≠[])(g:R.length<=n)(h:jN f gen a.length R 0 1 []=some (b,d)):∃c,n=c+1/\gg f gen n R a=gg f gen c d (a++[b]):=by
 cases R with
 |nil=>exact absurd rfl e
 | cons s r =>
   cases n with
   |zero=>simp at g
   |succ n=>exact⟨n,rfl,by rw[gg,h]⟩
theorem Uv{f:σ->Option Cel}{seq p:Nat}{r:List σ}(h:p<=k):jN f gen seq r k p b=some (b,r):=by
 cases r with
 |nil=>rw[jN,if_pos h]
 |cons s r=>rw[jN,if_pos h]
theorem Mf(h:n<2^62):IntKind.u64.wrap (n:Int)=(n:Int):=by simp only[IntKind.wrap,IntKind.signed,IntKind.bits];simp;omega
theorem TK(h:n<2^62):IntKind.i64.wrap (n:Int)=(n:Int):=af aeu aeu
theorem R3{R:List Sec}(I:∀s∈R,s.length=128)(hg:gen<2^32)(hn:R.length<=n)(hR:R.length<=8192)(h:K (.sl ((gg (rdC az) gen n R []).map AV.str) (gg (rdC az) gen n R []).length none) L):
  abw 57 [.sl (R.map AV.str) R.length none,.int .i64 (gen:Int)] L K:=by
 obtain⟨F,hF⟩:=abr (gg (rdC az) gen n R []);rw[hF]at h;replace h:=hid h;have U:=hid hF;have u:=hid I;clear hF I;refine abv zZ ?_;refine cB (l:=[]) (n:=0) 5 1 rfl (acg 1).symm ?_;refine ar (λm T' L'=>∃(g:List Sec) (Z:Nat) (b:List (List UInt8)) (C M:List AV) (on f:Nat) (X:List Blk),m=f/\Hid (g.length=f/\f<=Z/\(∀s∈g,s.length=128)/\gg (rdC az) gen Z g b=F/\C=b.map AV.str/\M=g.map AV.str/\b.length=on)/\on+f<=8192/\T'=[(5,.gsl C on L.length 1),(4,.sl [] 0 (some 0)),(0,.sl M f none),(1,.int .i64 (gen:Int))]/\L'=L++(.spare on 1::X)) aey ⟨R,n,[],[],_,0,_,[],rfl,hid ⟨rfl,hn,u.o,U.o,rfl,rfl,rfl⟩,by simpa using hR,rfl,aev⟩ ?_;clear hn U u hR;rintro m _ _ ⟨g,Z,b,C,M,on,f,X,hm,j,ho,rfl,rfl⟩;subst m;by_cases al:0<f;have g1:(0:Int)<(f:Int):=aeu;refine wk ?_;refine ar (λm T' L'=>∃(k p:Nat) (body:List UInt8) (Y:List Blk),m=f+1-k/\k<=f/\p<65536/\body.length<=110*k/\(k=0->p=1)/\Hid (jN (rdC az) gen on (g.drop k) k p body=jN (rdC az) gen on g 0 1 [])/\T'=[(8,.int .u64 (p:Int)),(7,.int .i64 (k:Int)),(6,.str body),(5,.gsl C on L.length 1),(4,.sl [] 0 (some 0)),(0,.sl M f none),(1,.int .i64 (gen:Int))]/\L'=L++(.spare on 1::(X++Y))) aey ⟨0,1,[],[],rfl,abJ _,by decide,abJ _,λ_=>rfl,hid rfl,rfl,aev⟩ ?_;rintro m _ _ ⟨k,p,body,Y,hm,hk,hp,a2,x,v,rfl,rfl⟩;subst m;have w1:=Mf (n:=k) aeu;by_cases a4:k<p;have g2:(k:Int)<(p:Int):=aeu;have a:Hid (jN (rdC az) gen on (g.drop k) k p body=none->K (.sl C on none) L):=hid (λe=>by obtain⟨E,Q,O,A,D,N,y⟩:=j.o;rw[v.o,<- y]at e;rw[Uu e]at A;have:=h.o;rw[<- A,y,<- D]at this;exact this)
 have r:Hid (AV.frzL C=C/\AV.refsL (λi=>decide (i<L.length)) C=true):=hid (by obtain⟨E,Q,O,A,D,N,y⟩:=j.o;rw[D];exact⟨jo _,jM _ _⟩)
 by_cases H:k=f;have t:=hid (a.o (by obtain⟨E,Q,O,A,D,N,y⟩:=j.o;rw[ac6 aeu,jN,if_neg aeu]))
 subst H;clear j v a x h;refine wk ?_;refine aB ?_;simp only[AV.frz,r.o.1];refine ae ?_ t.o;simp only[AV.refs,r.o.2];obtain⟨s,J⟩:=abr (g.getD k []);have w:k<g.length:=by have:=j.o.1;omega
 have G:g.drop k=s::g.drop (k+1):=by rw[acA w,<- J];simp[w]
 have e1:M.getD k .undef=.str s:=by rw[j.o.2.2.2.2.2.1,<- J,abR,abR];simp[w]
 have a1:k<M.length:=by rw[j.o.2.2.2.2.2.1,abM];exact w
 have d:s.length=128:=j.o.2.2.1 s (by rw[<- J];simp[w]);have g3:decide ((k:Int)=(f:Int))=false:=decide_eq_false aeu;have g4:(k:Int)<(f:Int):=aeu;have g5:IntKind.i64.wrap ((k:Int)+1)=((k+1:Nat):Int):=by rw[af aeu aeu];omega
 rw[G,jN,if_neg aeu]at a v;cases hc:rdC az s with
 | none =>
   have kk1:Hid (Ctr Tryz.prog 55 [.str s] (.tup [.agg (Es Rp),.bool false])):=@hid _ (λ{L K} q=>Mq d (by rw[hc];exact q));rw[hc]at a;have t:=hid (a.o rfl);clear j v a x h H hc J G d;refine wk ?_;refine aB ?_;simp only[AV.frz,r.o.1];refine ae ?_ t.o;simp only[AV.refs,r.o.2]
 | some c =>
   obtain⟨l1,l2,l3,l4,l5⟩:=V9 hc;obtain⟨W,cs,cn,cq,cd⟩:=c;dsimp only at l1 l2 l3 l4 l5;have kk1:Hid (Ctr Tryz.prog 55 [.str s] (.tup [.agg (Es ⟨W,cs,cn,cq,cd⟩),.bool true])):=@hid _ (λ{L K} q=>Mq d (by rw[hc];exact q));rw[hc]at a v;dsimp only at a v;obtain⟨y1,ab⟩:=abr (decide ((W:Int)=(gen:Int)));obtain⟨y2,ad⟩:=abr (decide ((cs:Int)=(on:Int)));obtain⟨y3,av⟩:=abr (decide ((cn:Int)=(k:Int)));obtain⟨z,hz⟩:=abr (decide (0<(k:Int)));obtain⟨y4,ap⟩:=abr (decide ((cq:Int)=(p:Int)));obtain⟨q,hq⟩:=abr ((!y1 || !y2 || !y3 ||(z && !y4)));have B:(W≠gen\/cs≠on\/cn≠k\/(0<k/\cq≠p))↔q=true:=by rw[<- hq,<- ab,<- ad,<- av,<- hz,<- ap];simp only[acn,abH,acd,decide_eq_true_eq,decide_eq_false_iff_not];omega
   have w2:=TK (n:=W) aeu;have w3:=Mf (n:=on) aeu;cases q with
   | true =>
     rw[if_pos (B.2 rfl)]at a;have t:=hid (a.o rfl);clear j v a x h H hc J G d B;refine wk ?_;refine aB ?_;simp only[AV.frz,r.o.1];refine ae ?_ t.o;simp only[AV.refs,r.o.2]
   | false =>
     rw[if_neg (λe=>by have:=B.1 e;cases this)]at v;clear a H hc J G d B h j;have g6:(body.length:Int)+(cd.length:Int)<=9223372036854775807:=aeu;refine wk ?_;exact aez aeu aex ⟨k+1,cq,_,Y++[.cells (Es ⟨W,cs,cn,cq,cd⟩)],rfl,aeu,l4,by simp;omega,λe=>aeu,v,rfl,aev⟩
 have a3:1<=k:=by by_cases h0:k=0;have:=x h0;omega;omega
 have g2:¬(k:Int)<(p:Int):=aeu;obtain⟨V,T⟩:=abr ((M.drop k).take (f-k));have ai:Hid (∃P,(g.drop k).length=f-k/\f-k<=P/\(∀s∈g.drop k,s.length=128)/\gg (rdC az) gen P (g.drop k) (b++[body])=F/\C++[.str body]=(b++[body]).map AV.str/\V=(g.drop k).map AV.str/\(b++[body]).length=on+1):=hid (by obtain⟨E,Q,O,A,D,N,y⟩:=j.o;have e:jN (rdC az) gen b.length g 0 1 []=some (body,g.drop k):=(by rw[y,<- v.o,Uv aeu]);obtain⟨P,q1,q2⟩:=Ut (n:=Z) (by intro e;rw[e]at E;simp at E;omega) aeu e;refine⟨P,by simp;omega,aeu,λs J=>O s (acY J),by rw[<- q2];exact A,by rw[D];simp,?_,by simp;omega⟩;rw[<- T,N,<- adT,ab7 (by simp;omega)])
 have g6:k<=f:=hk;have g7:(0:Int)<=(k:Int):=aeu;clear j v x h;refine wk ?_;obtain⟨P,an⟩:=ai.o;exact aez aeu aex ⟨g.drop k,P,b++[body],_,V,on+1,f-k,_,rfl,hid an,aeu,rfl,rfl⟩;have a0:f=0:=aeu;subst a0;have S:F=b:=by obtain⟨E,Q,O,A,D,N,y⟩:=j.o;rw[<- A,acm.1 E];cases Z<;>rfl
 obtain⟨E,Q,O,A,D,N,y⟩:=j.o;have e5:=jo b;rw[S,y]at h;subst D;clear j E Q O A N y S al ho;refine wk ?_;refine aB ?_;simp only[AV.frz,e5];refine ae ?_ h.o;simp only[AV.refs,jM]
theorem R9{bs:List (List UInt8)}(a:k<bs.length):bj (bs.take (k+1))=bj (bs.take k)+cw (bs.getD k []).length:=by unfold bj;rw[ab6 a,abS,List.sum_append];simp[a]
theorem Wn(bs:List (List UInt8))(k:Nat):bj (bs.take k)<=bj bs:=by
 have:bj bs=bj (bs.take k)+bj (bs.drop k):=by unfold bj;rw[<- List.sum_append,<- abS,ac4]
 omega
theorem Vg{bs:List (List UInt8)}(a:k<bs.length):gq gen 0 (bs.take (k+1))=gq gen 0 (bs.take k)++vc gen k (bs.getD k []):=by rw[ab6 a,Oh];simp[gq,a,adm (Nat.le_of_lt a)]
theorem HO(c:Cel)(h:c.data.length<=110):(fq az c).length=128:=OU (by rw[Xf];omega)
theorem Qo(g h:Nat):(xJ az g h).length=128:=OU (by simp[hdB,fe])
section
variable {L:List Blk}{jp dp lp wp ck:Nat}{cp:Option Nat}{lim:Int}{x y z:AV}{S:List Sec}{j:Jst}
theorem QX(hj:L[jp]?=some (.cells (j9 dp j false)))(hd:L[dp]?=some (.cells (fX lp wp S.length cp lim false 0 x y z)))(hl:L[lp]?=some (.cells (S.map AV.str)))(hw:L[wp]?=some (.map [] ck))(n1:dp≠lp)(n2:dp≠wp)(n3:lp≠wp)(n4:jp≠lp)(n5:jp≠wp)(n6:jp≠dp)(W:S.length<=8192)(h4:4<=S.length)(hh:j.half<=1)(ci:lim<=9000){bs:List (List UInt8)}{c:Option Nat}(hb:bs.length<=1000000){K:abx}(h:∀M cb,M[jp]?=some (.cells (j9 dp (aX az S (if(S.length:Int)<lim then(S.length:Int)else lim) j bs).2.1 false))->M[lp]?=some (.cells ((aX az S (if(S.length:Int)<lim then(S.length:Int)else lim) j bs).2.2.map AV.str))->M[wp]?=some (.map [] cb)->(∀i,i≠jp->i≠lp->i≠wp->i<L.length->M[i]?=L[i]?)->L.length<=M.length->K (.int .i64 (aX az S (if(S.length:Int)<lim then(S.length:Int)else lim) j bs).1) M):
  abw 29 [.ptr jp 0,.sl (bs.map AV.str) bs.length c] L K:=by
 obtain⟨rm,P⟩:=abr ((if(S.length:Int)<lim then(S.length:Int)else lim));rw[P]at h;have av:=hid hj;have cs:=hid hd;have bk:=hid hl;have bb:=hid hw;replace h:=hid h;obtain⟨AL,a6⟩:=abr (bs.map AV.str);have b0:AL.length=bs.length:=by rw[<- a6];simp
 have B:Hid (∀i,i<bs.length->AL.getD i .undef=.str (bs.getD i [])):=hid (λi h2=>by rw[<- a6,abR,abR];simp[h2])
 rw[a6];obtain⟨n,hn⟩:=abr (bs.length);rw[hn]at b0 B hb;rw[hn];clear hl hw a6;refine abv se ?_;refine ar (λm T' L'=>∃(k nd:Nat),m=n-k/\k<=n/\Hid (nd=min (bj (bs.take k)) 8193/\∀b∈bs.take k,b.length<=262144)/\T'=[(26,.int .i64 (k:Int)),(25,.int .i64 (n:Int)),(24,.sl AL n c),(5,.int .i64 (nd:Int)),(19,.bool false),(16,.bool false),(4,.int .i64 0),(0,.ptr jp 0),(1,.sl AL n c)]/\L=L') aey ⟨0,0,rfl,abJ _,hid ⟨rfl,aev⟩,rfl,rfl⟩ ?_;rintro m _ _ ⟨k,nd,hm,hk,hI,rfl,rfl⟩;subst m;by_cases f:k<n;have g1:(k:Int)<(n:Int):=aeu;have g2:IntKind.i64.wrap ((k:Int)+1)=((k+1:Nat):Int):=by rw[af aeu aeu];omega
 have co:k<AL.length:=aeu;have e1:=B.o k f;obtain⟨b,w⟩:=abr (bs.getD k []);rw[w]at e1;have Y:b∈bs:=by rw[<- w];simp[hn,f]
 by_cases b6:262144<b.length;have g3:(262144:Int)<(b.length:Int):=aeu;have e:aX az S rm j bs=(5,j,S):=by unfold aX;rw[if_pos (ac5.2 ⟨b,Y,decide_eq_true b6⟩)]
 have h2:Hid (K (.int .i64 5) L):=hid (by have:=h.o L ck (by rw[e];exact av.o) (by rw[e];exact bk.o) bb.o (λ_ _ _ _ _=>rfl) (abA _);rw[e]at this;exact this)
 clear h hI e Y B;refine wk ?_;exact ag h2.o;have g3:¬(262144:Int)<(b.length:Int):=aeu;obtain⟨p,hp⟩:=abr (cw b.length);have kk1:Hid (Ctr Tryz.prog 62 [.int .i64 (b.length:Int)] (.int .i64 (p:Int))):=@hid _ (λ{L K} q=>Sa (n:=b.length) aeu (by rw[hp];exact q));have an:p<=2384:=by rw[<- hp];unfold cw;omega
 have g:nd<=8193:=by rw[hI.o.1];omega
 have g4:IntKind.i64.wrap ((nd:Int)+(p:Int))=((nd+p:Nat):Int):=by rw[af aeu aeu];omega
 obtain⟨bn,U⟩:=abr (min (nd+p) 8193);have g5:(if(8193:Int)<((nd+p:Nat):Int)then(8193:Int)else((nd+p:Nat):Int))=(bn:Int):=by rw[<- U];split<;>omega
 have a8:Hid (bn=min (bj (bs.take (k+1))) 8193/\∀b∈bs.take (k+1),b.length<=262144):=hid ⟨by rw[R9 aeu,w,hp,<- U,hI.o.1];omega,λb' E=>by rw[ab6 aeu]at E;rcases abD.1 E with E|E;exact hI.o.2 b' E;rw[abV]at E;have:b'=b:=(by rw[E,<- w];simp[hn,f]);rw[this];omega⟩
 obtain⟨np,b5⟩:=abr (nd+p);rw[b5]at g4 g5;clear hI hp U Y h B b5;refine wk ?_;exact aez aeu aex ⟨k+1,bn,rfl,f,a8,rfl,rfl⟩;have c4:k=n:=aeu;subst c4;have g1:¬(k:Int)<(k:Int):=aeu;obtain⟨i1,i2⟩:=hI.o;rw[<- hn,abX]at i1 i2;have c9:rm<=lim:=by rw[<- P];split<;>omega
 have cm:aQ S.length<=4095:=by unfold aQ;omega
 obtain⟨v,bx⟩:=abr (1-j.half);have ch:v<=1:=aeu;have g2:IntKind.i64.wrap (1-(j.half:Int))=(v:Int):=by rw[af aeu aeu];omega
 have J:aK S.length v+aQ S.length<=S.length:=by unfold aK aQ;rcases(by omega:v=0\/v=1)with rfl|rfl<;>omega
 obtain⟨sz,T⟩:=abr (aQ S.length);obtain⟨H,R⟩:=abr (aK S.length v);rw[T]at cm J;rw[R]at J;have kk1:Hid (∀{K:abx},K (.int .i64 (sz:Int)) L->abw 54 [.ptr jp 0] L K):=@hid _ (λ{K} q=>JD hj hd aeu W (by rw[T];exact q));have kk2:Hid (∀{K:abx},K (.int .i64 (H:Int)) L->abw 56 [.ptr jp 0,.int .i64 (v:Int)] L K):=@hid _ (λ{K} q=>JF hj hd aeu W ch (by rw[R];exact q));have kk3:Hid (∀{K:abx},K (.int .i64 rm) L->abw 65 [.ptr dp 0] L K):=@hid _ (λ{K} q=>PV hd (by rw[P];exact q));have c8:nd<=8193:=aeu;obtain⟨fn,bo⟩:=abr (H+nd);have g3:IntKind.i64.wrap ((H:Int)+(nd:Int))=(fn:Int):=by rw[af aeu aeu];omega
 obtain⟨x1,ca⟩:=abr (decide ((sz:Int)<(nd:Int)));obtain⟨x2,b3⟩:=abr (decide (rm<2));obtain⟨x3,b7⟩:=abr (decide (0<(nd:Int)));obtain⟨x4,b4⟩:=abr (decide (rm<(fn:Int)));obtain⟨x5,cf⟩:=abr (decide (4294967295<=(j.gen:Int)));obtain⟨q,hq⟩:=abr ((x1 ||x2 ||(x3&&x4) ||x5));have ad:q=true↔(sz<bj bs\/rm<2\/(0<bj bs/\rm<((H+bj bs:Nat):Int))\/4294967295<=j.gen):=by rw[<- hq,<- ca,<- b3,<- b7,<- b4,<- cf];simp only[acn,abH,decide_eq_true_eq];by_cases c:bj bs<=8193;rw[i1,adm c];omega;rw[i1,Nat.min_eq_right aeu];omega
 have a':bs.any (λb=>decide (262144<b.length))=false:=by rw[adc];intro b hb;have:=i2 b hb;simp;omega
 have hR:aX az S rm j bs=if q=true then(11,j,S)else(0,⟨j.gen+1,v,xw j,bj bs,bs.length⟩,fK (fK S H ((gq (j.gen+1) 0 bs).map (fq az))) (xw j) [xJ az (j.gen+1) v]):=by unfold aX;rw[a',if_neg (by decide),bx,R,T];by_cases e:q=true;rw[if_pos (ad.1 e),if_pos e];rw[if_neg (λc=>e (ad.2 c)),if_neg e]
 rw[hR]at h;clear hI f hk hR a';cases q with
 | true =>
   rw[if_pos rfl]at h;have h2:Hid (K (.int .i64 11) L):=hid (h.o L ck av.o bk.o bb.o (λ_ _ _ _ _=>rfl) (abA _));clear h ad i1 i2 B T R bx P W h4 hh ci J bo;refine wk ?_;exact ag h2.o
 | false =>
   rw[if_neg (by decide)]at h;have b_:¬(sz<bj bs\/rm<2\/(0<bj bs/\rm<((H+bj bs:Nat):Int))\/4294967295<=j.gen):=λc=>by have:=ad.2 c;cases this
   have g:nd=bj bs:=aeu;have t:=hid b_;replace g:=hid g;replace bo:=hid bo;clear ad b_ i1;have Q:Hid (∀X:List Blk,(L++X)[jp]?=some (.cells (j9 dp j false))):=hid (λX=>abt hj);have ap:Hid (∀X:List Blk,(L++X)[dp]?=some (.cells (fX lp wp S.length cp lim false 0 x y z))):=hid (λX=>abt hd);have bl:Hid (∀X:List Blk,(L++X)[lp]?=some (.cells (S.map AV.str))):=hid (λX=>abt bk.o);have bd:Hid (∀X:List Blk,(L++X)[wp]?=some (.map [] ck)):=hid (λX=>abt bb.o);refine wk ?_;clear kk1 kk2 kk3 hj hd;have c7:j.gen<4294967295:=(by have:=t.o;omega);have d0:k<=nd:=(by have:=lQ bs;have:=g.o;omega);have c5:nd<=sz:=(by have:=t.o;have:=g.o;omega);obtain⟨G,c3⟩:=abr (j.gen+1);have g4:IntKind.i64.wrap ((j.gen:Int)+1)=(G:Int):=(by rw[af aeu aeu];omega);have al:G<2^32:=aeu;rw[c3]at h;refine cB (l:=[]) (n:=0) 10 1 rfl (acg 1).symm ?_;refine ar (λm T' L'=>∃(i cn:Nat) (C:List AV) (X:List Blk),m=k-i/\i<=k/\Hid (C=((gq G 0 (bs.take i)).map (fq az)).map AV.str/\cn=(gq G 0 (bs.take i)).length)/\T'=[(84,.int .i64 (i:Int)),(83,.int .i64 (k:Int)),(82,.sl AL k c),(10,.gsl C cn L.length 1),(9,.int .i64 (H:Int)),(8,.int .i64 (v:Int)),(5,.int .i64 (nd:Int)),(4,.int .i64 0),(0,.ptr jp 0),(1,.sl AL k c)]/\L'=L++(.spare cn 1::X)) aey ⟨0,0,[],[],rfl,abJ _,hid ⟨rfl,rfl⟩,rfl,aev⟩ ?_;rintro m _ _ ⟨i,cn,C,X,hm,hi,hC,rfl,rfl⟩;subst m;by_cases f:i<k
   .have g5:(i:Int)<(k:Int):=aeu;have g6:IntKind.i64.wrap ((i:Int)+1)=((i+1:Nat):Int):=(by rw[af aeu aeu];omega);have co:i<AL.length:=aeu;have e1:=B.o i f;obtain⟨b,w⟩:=abr (bs.getD i []);rw[w]at e1;have cy:b.length<=262144:=i2 b (by rw[<- w];simp[hn,f]);obtain⟨dn,a0⟩:=abr (cw b.length);obtain⟨D,hD⟩:=abr (((vc G i b).map (fq az)).map AV.str);have kk1:Hid (Ctr Tryz.prog 63 [.int .i64 (G:Int),.int .i64 (i:Int),.str b] (.sl D dn none)):=@hid _ (λ{L K} q=>TS al aeu cy (by rw[a0,hD];exact q));have e2:=Q.o (.spare cn 1::X);have a8:Hid (C++D=((gq G 0 (bs.take (i+1))).map (fq az)).map AV.str/\cn+dn=(gq G 0 (bs.take (i+1))).length):=hid (by rw[Vg aeu,w,abS,abS,hD,<- hC.o.1,abP,l6,a0,<- hC.o.2];exact⟨rfl,rfl⟩)
    have c':D.length=dn:=(by rw[<- hD,abM,abM,l6,a0]);have dk:D.all AV.one=true:=(by rw[<- hD];exact Wj _);have c_:AV.frzL D=D:=(by rw[<- hD];exact jo _);have c6:cn+dn<=4095:=by have v:=a8.o.2;rw[ED]at v;have h2:=Wn bs (i+1);have h3:=g.o;omega
    have g7:(cn+dn)*16<=140737488355328:=aeu;have g8:cn+dn<=140737488355328:=aeu;clear hC hD a0 Q ap bl bd h i2 B t;refine wk ?_;exact aez aeu aex ⟨i+1,_,_,_,rfl,f,a8,rfl,rfl⟩
   .have hie:i=k:=aeu;subst hie;have g5:¬(i:Int)<(i:Int):=aeu;obtain⟨O,a7⟩:=abr ((gq G 0 bs).map (fq az));have c1:C=O.map AV.str/\cn=O.length/\cn=nd:=by have q:=hC.o;rw[<- hn,abX,a7]at q;exact⟨q.1,by rw[q.2,<- a7];simp,by rw[q.2,ED,g.o]⟩
    rw[a7]at h;clear hC f;obtain⟨rfl,q2,q3⟩:=c1;subst q2;have cq:O.length=nd:=q3;have cx:xw j<=1:=(by unfold xw;split<;>omega);refine wk ?_;refine dQ ?_;rw[show AV.frzL [.ptr jp 0,.int .i64 (H:Int),.gsl (O.map AV.str) nd L.length 1]=[.ptr jp 0,.int .i64 (H:Int),.sl (O.map AV.str) O.length none]by rw[<- cq];simp only[AV.frzL,AV.frz,jo]];have ab:∀s∈O,s.length=128:=λs hs=>by rw[<- a7]at hs;obtain⟨c,hc,rfl⟩:=abB.1 hs;exact HO c (JS ⟨aeu,al⟩ bs 0 aeu i2 c hc).1.len
    refine PM (Q.o _) (ap.o _) (bl.o _) (bd.o _) n1 n2 n3 n4 n5 W ab aeu (λhp=>by have:=t.o;have:=g.o;omega) (λM cb m1 m2 m3 m4=>?_);have V:M[jp]?=some (.cells (j9 dp j false)):=(by rw[m3 jp n4 n5 (by simp;have:=(aby.1 av.o).1;omega)];exact Q.o _);have cd:M[dp]?=some (.cells (fX lp wp (fK S H O).length cp lim false 0 x y z)):=(by rw[mZ aeu,m3 dp n1 n2 (by simp;have:=(aby.1 cs.o).1;omega)];exact ap.o _);obtain⟨p1,an⟩:=abr (em G 4);obtain⟨p2,a9⟩:=abr (em v 1);have l1:p1.length=4:=(by rw[<- an,fe]);have l2:p2.length=1:=(by rw[<- a9,fe]);obtain⟨q1,b2⟩:=abr ([72]++p1);obtain⟨q2,cg⟩:=abr (q1++p2);have l3:q1.length=5:=(by rw[<- b2];simp[l1]);have l4:q2.length=6:=(by rw[<- cg,abP];omega);obtain⟨sc,a5⟩:=abr (xJ az G v);have a_:nJ az q2=sc:=(by rw[<- a5,xJ,hdB,an,a9,<- cg,<- b2];rfl);have cl:sc.length=128:=(by rw[<- a5];exact Qo _ _);have kk1:Hid (Ctr Tryz.prog 67 [.int .u64 (G:Int),.int .i64 4] (.str p1)):=@hid _ (λ{L K} q=>lP (n:=G) (k:=4) aeu aeu aeu (by rw[an];exact q));have kk2:Hid (Ctr Tryz.prog 67 [.int .u64 (v:Int),.int .i64 1] (.str p2)):=@hid _ (λ{L K} q=>lP (n:=v) (k:=1) aeu aeu aeu (by rw[a9];exact q));have kk3:Hid (Ctr Tryz.prog 66 [.str q2] (.str sc)):=@hid _ (λ{L K} q=>VV aeu (by rw[a_];exact q));have w1:=Mf (n:=G) aeu;have w2:=Mf (n:=v) aeu;have d:((xw j+1:Nat):Int)<=lim:=(by have:=t.o;omega);have u:xw j+1<=(fK S H O).length:=(by rw[mZ aeu];omega);have Z:(fK S H O).length<=8192:=by rw[mZ aeu];exact W
    have key:∀hd:Nat,xw j=hd->∀(r:List Blk) (F:Nat),r[lp]?=some (.cells ((fK (fK S H O) hd [sc]).map AV.str))->r[wp]?=some (.map [] F)->(∀j,j≠lp->j≠wp->j<M.length->r[j]?=M[j]?)->M.length<=r.length->r[jp]?=some (.cells (j9 dp j false))/\K (.int .i64 0) (r.set jp (.cells (j9 dp ⟨G,v,hd,nd,i⟩ false))):=λhd e r F r1 r2 r3 r4=>by have dt:=(aby.1 av.o).1;have ds:L.length<=M.length:=(by simp at m4;omega);have ai:r[jp]?=some (.cells (j9 dp j false)):=(by rw[r3 jp n4 n5 aeu];exact V);refine⟨ai,?_⟩;rw[e,hn,<- g.o,a5]at h;refine h.o _ F (ab9 aeu) (by rw[abE n4];exact r1) (by rw[abE n5];exact r2) (λa a1 a2 a3 a4=>?_) (by simp;omega);rw[abE (Ne.symm a1),r3 a a2 a3 aeu,m3 a a2 a3 (by simp;omega),abC a4]
    replace key:=hid key;have N:=hid (And.intro m1 m2);have I:=hid cd;clear m1 m2 m3 m4 h an a9 a5 a_ ab Q ap bl bd g t B i2 hq ca b3 b7 b4 cf cd J R T bx P;by_cases b1:j.slot=0
    .have hhd:xw j=1:=if_pos b1;rw[hhd]at d u;refine wk ?_;refine PM (a:=1) (ss:=[sc]) (S:=fK S H O) V I.o N.o.1 N.o.2 n1 n2 n3 n4 n5 Z (λs hs=>by rw[abV]at hs;rw[hs];exact cl) u (λ_=>d) (λr F r1 r2 r3 r4=>?_);obtain⟨ai,hK⟩:=key.o 1 hhd r F r1 r2 r3 r4;have A:=(aby.1 ai).1;have c0:∀b:Blk,(r.set jp b)[jp]?=some b:=λb=>ab9 A
     have ct:∀b c:Blk,((r.set jp b).set jp c)[jp]?=some c:=λb c=>ab9 (by simp;exact A)
     have c2:∀b c:Blk,(r.set jp b).set jp c=r.set jp c:=λb c=>adE _
     replace hK:=hid hK;clear key r1 r2 r3 r4 V I N kk1 kk2 kk3;refine wk ?_;exact ag hK.o
    .have hhd:xw j=0:=if_neg b1;rw[hhd]at d u;refine wk ?_;refine PM (a:=0) (ss:=[sc]) (S:=fK S H O) V I.o N.o.1 N.o.2 n1 n2 n3 n4 n5 Z (λs hs=>by rw[abV]at hs;rw[hs];exact cl) u (λ_=>d) (λr F r1 r2 r3 r4=>?_);obtain⟨ai,hK⟩:=key.o 0 hhd r F r1 r2 r3 r4;have A:=(aby.1 ai).1;have c0:∀b:Blk,(r.set jp b)[jp]?=some b:=λb=>ab9 A
     have ct:∀b c:Blk,((r.set jp b).set jp c)[jp]?=some c:=λb c=>ab9 (by simp;exact A)
     have c2:∀b c:Blk,(r.set jp b).set jp c=r.set jp c:=λb c=>adE _
     replace hK:=hid hK;clear key r1 r2 r3 r4 V I N kk1 kk2 kk3;refine wk ?_;exact ag hK.o
end
set_option maxHeartbeats 8000000
set_option maxRecDepth 100000
section
variable {L:List Blk}{jp dp lp wp ck:Nat}{cp:Option Nat}{lim:Int}{x y z:AV}{S:List Sec}{j:Jst}
theorem Yx(p:L[jp]?=some (.cells (j9 dp j false)))(hd:L[dp]?=some (.cells (fX lp wp S.length cp lim false 0 x y z)))(s:2<=S.length)(g:S.length<=8192)(v:j.half<=1)(C:j.used<=10000)(w:0<=lim)(n:lim<=9000){K:abx}(h:K (.int .i64 (uX S.length (if(S.length:Int)<lim then(S.length:Int)else lim) j)) L):abw 48 [.ptr jp 0] L K:=by
 obtain⟨rm,d⟩:=abr ((if(S.length:Int)<lim then(S.length:Int)else lim));have A:0<=rm/\rm<=9000:=by rw[<- d];split<;>omega
 obtain⟨sz,b⟩:=abr (aQ S.length);obtain⟨i,c⟩:=abr (aK S.length j.half);have t:sz<=4095:=by rw[<- b];unfold aQ;omega
 have r:i<=9000:=by rw[<- c];unfold aK;rw[b];rcases(by omega:j.half=0\/j.half=1)with e|e<;>rw[e]<;>omega
 have kk1:Hid (∀{K:abx},K (.int .i64 (sz:Int)) L->abw 54 [.ptr jp 0] L K):=@hid _ (λ{K} q=>JD p hd s g (by rw[b];exact q));have kk2:Hid (∀{K:abx},K (.int .i64 (i:Int)) L->abw 56 [.ptr jp 0,.int .i64 (j.half:Int)] L K):=@hid _ (λ{K} q=>JF p hd s g v (by rw[c];exact q));have kk3:Hid (∀{K:abx},K (.int .i64 rm) L->abw 65 [.ptr dp 0] L K):=@hid _ (λ{K} q=>PV hd (by rw[d];exact q));unfold uX at h;rw[d,b,c]at h;obtain⟨a,l⟩:=abr (rm-(i:Int));have g1:IntKind.i64.wrap (rm-(i:Int))=a:=by rw[l];exact af aeu aeu
 rw[l]at h;obtain⟨m,k⟩:=abr (min (sz:Int) a);have B:(if a<(sz:Int)then a else(sz:Int))=m:=by rw[<- k];split<;>omega
 rw[k]at h;obtain⟨u,f⟩:=abr (m-(j.used:Int));have g3:IntKind.i64.wrap (m-(j.used:Int))=u:=by rw[f];exact af aeu aeu
 rw[f]at h;have g4:(if u>0 then u else 0)=max 0 u:=by split<;>omega
 rw[<- g4]at h;replace h:=hid h;clear hd d b c k f l g4;refine abv su ?_;exact ag h.o
theorem UO(P:L[jp]?=some (.cells (j9 dp j false)))(hd:L[dp]?=some (.cells (fX lp wp S.length cp lim false 0 x y z)))(hl:L[lp]?=some (.cells (S.map AV.str)))(hw:L[wp]?=some (.map [] ck))(n1:dp≠lp)(n2:dp≠wp)(n3:lp≠wp)(n4:jp≠lp)(V:jp≠wp)(n6:jp≠dp)(C:S.length<=8192)(h4:4<=S.length)(hh:j.half<=1)(hu:j.used<=10000)(W:0<=lim)(N:lim<=9000)(w:1<=j.gen/\j.gen<2^32)(an:j.n<=10000){b:List UInt8}{K:abx}(h:∀M g,M[jp]?=some (.cells (j9 dp (iB az S (if(S.length:Int)<lim then(S.length:Int)else lim) j b).2.1 false))->M[lp]?=some (.cells ((iB az S (if(S.length:Int)<lim then(S.length:Int)else lim) j b).2.2.map AV.str))->M[wp]?=some (.map [] g)->(∀i,i≠jp->i≠lp->i≠wp->i<L.length->M[i]?=L[i]?)->L.length<=M.length->K (.int .i64 (iB az S (if(S.length:Int)<lim then(S.length:Int)else lim) j b).1) M):
  abw 28 [.ptr jp 0,.str b] L K:=by
 obtain⟨rm,m⟩:=abr ((if(S.length:Int)<lim then(S.length:Int)else lim));rw[m]at h;have r:=hid P;have ab:=hid hd;have G:=hid hl;have F:=hid hw;clear hl hw;by_cases l:262144<b.length;have g1:(262144:Int)<(b.length:Int):=aeu;have e:iB az S rm j b=(5,j,S):=if_pos l;have X:Hid (K (.int .i64 5) L):=hid (by have:=h L ck (by rw[e];exact r.o) (by rw[e];exact G.o) F.o (λ_ _ _ _ _=>rfl) (abA _);rw[e]at this;exact this)
 clear h e hd;refine abv cV ?_;exact ag X.o;have g1:¬(262144:Int)<(b.length:Int):=aeu;obtain⟨p,A⟩:=abr (cw b.length);have a0:p<=2384:=by rw[<- A];unfold cw;omega
 have ap:1<=p:=by rw[<- A];unfold cw;omega
 obtain⟨R,d⟩:=abr (uX S.length rm j);have kk1:Hid (Ctr Tryz.prog 62 [.int .i64 (b.length:Int)] (.int .i64 (p:Int))):=@hid _ (λ{L K} q=>Sa (n:=b.length) aeu (by rw[A];exact q));have kk2:Hid (∀{K:abx},K (.int .i64 R) L->abw 48 [.ptr jp 0] L K):=@hid _ (λ{K} q=>Yx P hd aeu C hh hu W N (by rw[m,d];exact q));by_cases v:R<(p:Int);have e:iB az S rm j b=(11,j,S):=by unfold iB;rw[if_neg l,d,A,if_pos v]
 have X:Hid (K (.int .i64 11) L):=hid (by have:=h L ck (by rw[e];exact r.o) (by rw[e];exact G.o) F.o (λ_ _ _ _ _=>rfl) (abA _);rw[e]at this;exact this)
 clear h e hd A d m;refine abv cV ?_;exact ag X.o;have H:(j.used:Int)+p<=aQ S.length/\(aK S.length j.half:Int)+j.used+p<=rm:=by unfold uX at d;omega
 have al:rm<=lim:=by rw[<- m];split<;>omega
 obtain⟨I,t⟩:=abr ((vc j.gen j.n b).map (fq az));have J:I.length=p:=by rw[<- t,abM,l6,A]
 have O:aK S.length j.half+aQ S.length<=S.length:=by unfold aK aQ;rcases(by omega:j.half=0\/j.half=1)with e|e<;>rw[e]<;>omega
 obtain⟨Q,E⟩:=abr (aK S.length j.half);have e:iB az S rm j b=(0,{j with used:=j.used+p,n:=j.n+1},fK S (Q+j.used) I):=by unfold iB;rw[if_neg l,d,A,if_neg v,t,E]
 rw[e]at h;rw[E]at O H;have kk3:Hid (∀{K:abx},K (.int .i64 (Q:Int)) L->abw 56 [.ptr jp 0,.int .i64 (j.half:Int)] L K):=@hid _ (λ{K} q=>JF P hd aeu C hh (by rw[E];exact q));obtain⟨T,D⟩:=abr (I.map AV.str);have kk4:Hid (Ctr Tryz.prog 63 [.int .i64 (j.gen:Int),.int .i64 (j.n:Int),.str b] (.sl T p none)):=@hid _ (λ{L K} q=>TS w.2 aeu aeu (by rw[A,t,D];exact q));obtain⟨u,B⟩:=abr (Q+j.used);have g3:IntKind.i64.wrap ((Q:Int)+(j.used:Int))=(u:Int):=by rw[af aeu aeu];omega
 have g4:IntKind.i64.wrap ((j.used:Int)+(p:Int))=((j.used+p:Nat):Int):=by rw[af aeu aeu];omega
 have g5:IntKind.i64.wrap ((j.n:Int)+1)=((j.n+1:Nat):Int):=by rw[af aeu aeu];omega
 have g6:¬R<(p:Int):=v;have Z:T.length=p:=by rw[<- D,abM,J]
 rw[B]at h;have k:∀s∈I,s.length=128:=λs hs=>by rw[<- t]at hs;obtain⟨c,hc,rfl⟩:=abB.1 hs;exact HO c (Oa w aeu aeu c hc).len
 have kL:Hid (∀{K:abx},(∀(M:List Blk) (g:Nat),M[lp]?=some (.cells ((fK S u I).map AV.str))->M[wp]?=some (.map [] g)->(∀j,j≠lp->j≠wp->j<L.length->M[j]?=L[j]?)->L.length<=M.length->K (.int .i64 0) M)->abw 64 [.ptr jp 0,.int .i64 (u:Int),.sl T p none] L K):=@hid _ (λ{K} q=>by have:=PM (c:=none) P hd G.o F.o n1 n2 n3 n4 V C (a:=u) (ss:=I) k aeu (λ_=>aeu) (K:=K) q;rw[D,J]at this;exact this)
 replace h:=hid h;replace B:=hid B;replace H:=hid H;clear e d v;refine abv cV ?_;refine kL.o λM g m1 m2 Y m4=>?_
 have U:M[jp]?=some (.cells (j9 dp j false)):=by rw[Y jp n4 V (aby.1 r.o).1];exact r.o
 have f:=(aby.1 U).1;have hK:=hid (h.o (M.set jp (.cells (j9 dp ⟨j.gen,j.half,j.slot,j.used+p,j.n+1⟩ false))) g (ab9 f) (by rw[abE n4];exact m1) (by rw[abE V];exact m2) (λi a1 a2 a3 a4=>by rw[abE (Ne.symm a1)];exact Y i a2 a3 a4) (by simp;exact m4));have ad:∀b:Blk,(M.set jp b)[jp]?=some b:=λb=>ab9 f
 have ai:∀b c:Blk,((M.set jp b).set jp c)[jp]?=some c:=λb c=>ab9 (by simp;exact f)
 have av:∀b c:Blk,(M.set jp b).set jp c=M.set jp c:=λb c=>adE _
 clear h kL m1 m2 Y m4 kk1 kk2 kk3 kk4 P hd k;refine wk ?_;exact ag hK.o
end
end Go.Proofs.YtajkbcmleihaoaaGreatDoor.Av
