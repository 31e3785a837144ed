/- Joined texts of the walk, made small by a program. -/
import Derived.Test.YtajkbcmleihaoaaGreatDoorVk8
import Derived.Test.YtajkbcmleihaoaaGreatDoorVk7
import Derived.Test.YtajkbcmleihaoaaGreatDoorVk5
import Derived.Shelf.Strings.Builder1
import Derived.Shelf.Strings.Builder2
import Derived.Shelf.Strings.OnBuilder
import Derived.Shelf.Small.Utf8
import Derived.Shelf.Small.Bits
import Derived.Shelf.Small.Strs
import Derived.Shelf.Strconv.Itoa0
import Derived.Shelf.Strings.Search1
import Derived.Shelf.Strings.Search2
import Derived.Shelf.Strings.Cut
import Derived.Shelf.LaysM
import Derived.Shelf.Strings.Shaped
import Derived.Shelf.Sort.Plain
import Derived.Shelf.Strings.Prefix
import Derived.Shelf.Strings.Runes
import Derived.Shelf.Strings.AsciiSet
import Derived.Shelf.Bits.Mul64
import Derived.Shelf.Unicode.DecodeSlow
import Derived.Shelf.Unicode.DecodeAny
import Derived.Shelf.Unicode.DecodeLast
import Derived.Shelf.Slices.Equal
import Derived.Shelf.Slices.In.SortNone
import Derived.Ground.SlsfProg
import Derived.Shelf.SlSortCmp.Insertion
import Derived.Shelf.SlSortCmp.SiftDown1
import Derived.Shelf.SlSortCmp.HeapSort1
import Derived.Shelf.SlSortCmp.Insertion1
import Derived.Shelf.SlSortCmp.Median1
import Derived.Shelf.SlSortCmp.Pivot1
import Derived.Shelf.SlSortCmp.ReverseRange1
import Derived.Shelf.SlSortCmp.PartialInsertion1
import Derived.Shelf.SlSortCmp.PartitionEqual1
import Derived.Shelf.SlSortCmp.Partition1
import Derived.Shelf.SlSortCmp.Pdq1
import Derived.Shelf.SlSortCmp.Whole1
import Derived.Shelf.Spec.SlicesGrow
import Derived.Ground.Names8Prog
import Derived.Test.YtajkbcmleihaoaaGreatDoorProg
import Derived.Test.YtajkbcmleihaoaaGreatDoorVk4
import Derived.Test.YtajkbcmleihaoaaGreatDoorRows
import Derived.KernelRfl
set_option linter.unusedSimpArgs false
set_option linter.unusedVariables false
namespace Go.Proofs.YtajkbcmleihaoaaGreatDoor.Av
open Go
set_option maxHeartbeats 8000000
set_option maxRecDepth 100000
structure Upd where
 kind:Int
 dn:List Rdn
 tw:List Rdn
 attrs:List Atr
abbrev OA:Upd:=⟨0,[],[],[]⟩
def OR(l:List Atr):Nd:=.mk 48 [] (l.map Hm)
def wv(k:Int)(s t:List UInt8)(l:List Atr):Nd :=
 .mk 48 [] (([.mk 2 [b8 k.toNat] [],bm s]++if k=4 then[bm t]else[])++if k=2 then[]else[OR l])
def wrU(u:Upd):List UInt8×Int :=
 if u.kind<1\/4<u.kind then([],24)else if(prS u.dn).2≠0 then([],(prS u.dn).2)else if u.kind=4/\(prS u.tw).2≠0 then([],(prS u.tw).2)
 else de 4 (wv u.kind (prS u.dn).1 (prS u.tw).1 u.attrs)
def dV(u:Upd):Upd:=⟨u.kind,u.dn,if u.kind=4 then u.tw else[],if u.kind=2 then[]else u.attrs⟩
def wq(l:List Nd):List (List UInt8):=l.map Nd.data
def yR:List Nd->Option (List Atr)
 |[]=>some []
 |a::l=>if a.kids.length≠2 then none else(yR l).map λr=>((a.kids.getD 0 cr).data,wq (a.kids.getD 1 cr).kids)::r
def U6(n:Nd):Option Upd :=
 let l:=n.kids
 if l.length<2\/4<l.length then none else
 match Vh (l.getD 0 cr).data with
 |none=>none
 | some k =>
   let p:=lh (l.getD 1 cr).data
   let r:=l.drop 2
   let q:=if k=4/\r≠[]then lh (r.getD 0 cr).data else([],0)
   let r':=if k=4 then r.drop 1 else r
   if p.2≠0\/q.2≠0\/1<r'.length then none else
   match r' with
   |[]=>some ⟨k,p.1,q.1,[]⟩
   |x::_=>(yR x.kids).map λa=>⟨k,p.1,q.1,a⟩
def rdU(s:List UInt8):Upd×Int:=match OL s with
 |.error e=>(OA,e)
 | .ok n=>match U6 n with
   |none=>(OA,4)
   |some u=>if(wrU u).2≠0\/(wrU u).1≠s then(OA,4)else(dV u,0)
def Wt(a:Nd):Option Atr :=
 if a.tag≠48\/a.kids.length≠2\/(a.kids.getD 0 cr).tag≠4\/(a.kids.getD 1 cr).tag≠49 then none else
 if(a.kids.getD 1 cr).kids.all (λv=>decide (v.tag=4))=true then some ((a.kids.getD 0 cr).data,wq (a.kids.getD 1 cr).kids)else none
def MF:List Nd->Option (List Atr)
 |[]=>some []
 | a::l=>match Wt a with
   |none=>none
   |some x=>(MF l).map λr=>x::r
def Ho(n:Nd):Option Upd :=
 let l:=n.kids
 let k:Int:=((l.getD 0 cr).data.getD 0 0).toNat
 if n.tag≠48\/l.length<2\/(l.getD 0 cr).tag≠2\/(l.getD 0 cr).data.length≠1 then none else
 if k<1\/4<k\/l.length≠1+(if k=4 then 2 else 1)+(if k=2 then 0 else 1)then none else
 if(lh (l.getD 1 cr).data).2≠0\/(l.getD 1 cr).tag≠4 then none else
 if k=4/\((lh (l.getD 2 cr).data).2≠0\/(l.getD 2 cr).tag≠4)then none else
 if k=2 then some ⟨k,(lh (l.getD 1 cr).data).1,[],[]⟩else
 let x:=l.getD (l.length-1) cr
 if x.tag≠48 then none else
 (MF x.kids).map λa=>⟨k,(lh (l.getD 1 cr).data).1,if k=4 then(lh (l.getD 2 cr).data).1 else[],a⟩
theorem Sl{d:List Rdn}(h:(prS d).2=0):lh (prS d).1=(d,0):=by unfold prS at h⊢;split at h;rename_i a;exact absurd h a;rename_i a;split at h;cases h;rename_i b;split at h;cases h;rename_i c;rw[if_neg a,if_neg b,if_neg c];exact TH (by simpa using a) ah3
theorem Pf(d:List Rdn):(prS d).1.length<=4096:=by
 unfold prS
 repeat' split
 all_goals first|(simp;done)|(simp only;omega)
theorem ace(t:UInt8){n:Nat}(c:n<=1048576)(rest:List UInt8):Nl (t::(sL n++rest))=.ok (n,1+(sL n).length):=by
 unfold sL;split;rename_i h;simp[Nl,J0,show n%256=n by omega,h];split;rename_i a h;have e:bY [b8 n]=n:=by simp only[bY,afO,ag7,J0];omega
 simp[Nl,e,show ¬1048576<n by omega];rw[if_neg ah3,if_neg ah3];split;rename_i a b h;have e:bY [b8 (n/256),b8 n]=n:=by simp only[bY,afO,ag7,J0];omega
 simp[Nl,e,show ¬1048576<n by omega];rw[if_neg ah3,if_neg ah3];rename_i a b h;have e:bY [b8 (n/65536),b8 (n/256),b8 n]=n:=by simp only[bY,afO,ag7,J0];omega
 simp[Nl,e,show ¬1048576<n by omega];rw[if_neg ah3,if_neg ah3]
theorem TG{t:Nat}(j:t<256)(a:t%32≠31){body:List UInt8}(c:body.length<=1048576)(rest:List UInt8)(f:Nat):
  nP (f+1) (b8 t::(sL body.length++body)++rest)=if t/32%2=0 then .ok (.mk t body [],rest)else match qH (nP f) body.length body with
   |.error e=>.error e
   |.ok ks=>.ok (.mk t [] ks,rest):=by
 have d:b8 t::(sL body.length++body)++rest=b8 t::(sL body.length++(body++rest)):=ah4;have h:=ace (b8 t) c (body++rest);have g:(b8 t).toNat=t:=by rw[J0];omega
 have b:((b8 t::(sL body.length++(body++rest))).drop (1+(sL body.length).length))=body++rest:=by rw[Nat.add_comm,ahj,List.drop_left]
 have i:((b8 t::(sL body.length++(body++rest))).drop (1+(sL body.length).length+body.length))=rest:=by rw[<- agE,b,List.drop_left]
 rw[d,nP,if_neg ah4];simp only[h,b,i,List.getD_cons_zero,g,if_neg a,List.take_left];rw[if_neg (by simp;omega)];rfl
theorem Zk{t:Int}{d:List UInt8}:∀h:Nat,de h (.mk t d [])=if 1048576<d.length then([],5)else(b8 t.toNat::(sL d.length++d),0)
 |0=>rfl
 |h+1=>by rw[de,if_neg (by simp[dY])];rfl
theorem TF{t:Int}(c:t=2\/t=4){d rest:List UInt8}{h f:Nat}(a:(de h (.mk t d [])).2=0):nP (f+1) ((de h (.mk t d [])).1++rest)=.ok (.mk t d [],rest):=by rw[Zk]at a⊢;split at a;cases a;rename_i b;rw[if_neg b];have:=TG (t:=t.toNat) ah3 ah3 (body:=d) ah3 rest f;rw[if_pos ah3]at this;rw[this];congr 3;omega
theorem TW{p:Nd->List UInt8×Int}{q:List UInt8->Except Int (Nd×List UInt8)}:∀(d:List Nd) (a:List UInt8),(∀k∈d,(p k).2=0->(p k).1≠[]/\∀rest,q ((p k).1++rest)=.ok (k,rest))->(dY p a d).2=0 ->
  ∃b,(dY p a d).1=a++b/\∀F,b.length<=F->qH q F b=.ok d
 |[],a,_,_=>⟨[],by simp[dY],λF _=>by cases F<;>rfl⟩
 | n::l,a,hq,hc=>by
   rw[dY]at hc⊢;split at hc
   .rename_i h;exact absurd hc h
   rename_i j;have g:(p n).2=0:=(by simpa using j);rw[if_neg j];obtain⟨b,v,t⟩:=TW l (a++(p n).1) (λk s=>hq k (by simp[s])) hc;obtain⟨o,h4⟩:=hq n ah4 g;refine⟨(p n).1++b,by rw[v];simp,λF u=>?_⟩;have m:=afP.2 o;rw[afc]at u;obtain⟨f,rfl⟩:∃f,F=f+1:=⟨F-1,ah3⟩;obtain⟨c,r,e⟩:∃c r,(p n).1++b=c::r:=by
    rcases hh:(p n).1 with _|⟨c,r⟩
    .exact absurd hh o
    .exact⟨c,r++b,rfl⟩
   have i:=h4 b;rw[e]at i⊢;rw[qH,i]
   .simp only[t f ah3]
   .simp
theorem adm{h:Nat}{n:Nd}(a:(de h n).2=0):(de h n).1≠[]:=by
 obtain⟨t,d,b⟩:=n;cases h with
 | zero =>
   rw[de]at a⊢;split at a
   .cases a
   .rename_i e;rw[if_neg e];simp
 | succ h =>
   rw[de]at a⊢;split at a
   .rename_i e;exact absurd a e
   rename_i e;rw[if_neg e];split at a
   .cases a
   .rename_i e;rw[if_neg e];simp
theorem Wy:∀(h:Nat) (n:Nd) (rest:List UInt8) (f:Nat),okN h n->(de h n).2=0->h<f->nP f ((de h n).1++rest)=.ok (n,rest)
 |0,.mk t d ks,rest,f,ho,hp,hf=>by obtain⟨i,rfl,_⟩:=ho;obtain⟨a,rfl⟩:∃a,f=a+1:=⟨f-1,ah3⟩;exact TF i hp
 | h+1,.mk t d ks,rest,f,ho,hp,hf=>by
   obtain⟨a,rfl⟩:∃a,f=a+1:=⟨f-1,ah3⟩;rcases ho with⟨i,rfl,_⟩|⟨i,rfl,_,m⟩
   .exact TF i hp
   have c:(dY (de h) [] ks).2=0:=by
    rw[de]at hp;split at hp
    .rename_i e;exact absurd hp e
    .rename_i e;simpa using e
   obtain⟨b,l,o⟩:=TW (p:=de h) (q:=nP a) ks [] (λk j g=>⟨adm g,λrest=>Wy h k rest a (m k j) g ah3⟩) c;rw[afH]at l;rw[de,if_neg (by simpa using c),l]at hp⊢;split at hp
   .cases hp
   rename_i r;rw[if_neg r];have:=TG (t:=t.toNat) ah3 ah3 (body:=b) ah3 rest a;rw[if_neg ah3,o _ (ae0 _)]at this;simp only at this;rw[show((t.toNat:Nat):Int)=t by omega]at this;exact this
theorem aa3{h:Nat}{n:Nd}(b:okN h n)(c:(de h n).2=0)(a:h<64):OL (de h n).1=.ok n:=by have:=Wy h n [] 64 b c a;rw[afq]at this;rw[OL,this];simp
theorem XG{k:Int}(a:1<=k)(h4:k<=4):Vh [b8 k.toNat]=some k:=by have:k=1\/k=2\/k=3\/k=4:=ah3;rcases this with rfl|rfl|rfl|rfl<;>decide
theorem XT{k:Int}(a:1<=k)(h4:k<=4):Vu k=[b8 k.toNat]:=by have:k=1\/k=2\/k=3\/k=4:=ah3;rcases this with rfl|rfl|rfl|rfl<;>decide
theorem XO{k:Int}(a:1<=k)(h4:k<=4):((b8 k.toNat).toNat:Int)=k:=by rw[J0];omega
theorem Xa(l:List (List UInt8)):wq (l.map bm)=l:=by
 induction l with
 |nil=>rfl
 |cons x l ih=>simp only[wq,afe]at ih⊢;rw[ih];rfl
theorem XA(a:Atr):Wt (Hm a)=some a:=by
 have e:(a.2.map bm).all (λv=>decide (v.tag=4))=true:=by rw[afd];intro x b;obtain⟨y,_,rfl⟩:=ae1.1 b;rfl
 simp[Wt,Hm,Nd.kids,Nd.tag,bm,Nd.data]at e⊢;simp[Xa]
theorem qW:∀l:List Atr,MF (l.map Hm)=some l
 |[]=>rfl
 |a::l=>by rw[afe,MF,XA,qW l];rfl
theorem Y8{k:Int}(c:1<=k)(h4:k<=4){s t:List UInt8}{l:List Atr}(a:(lh s).2=0)(b:k=4->(lh t).2=0):
  Ho (wv k s t l)=some ⟨k,(lh s).1,if k=4 then(lh t).1 else[],if k=2 then[]else l⟩:=by
 have d:=XO c h4;have:k=1\/k=2\/k=3\/k=4:=ah3;rcases this with rfl|rfl|rfl|rfl;simp[Ho,wv,Nd.kids,Nd.tag,Nd.data,bm,OR,a,qW,b8];simp[Ho,wv,Nd.kids,Nd.tag,Nd.data,bm,OR,a,qW,b8];simp[Ho,wv,Nd.kids,Nd.tag,Nd.data,bm,OR,a,qW,b8];simp[Ho,wv,Nd.kids,Nd.tag,Nd.data,bm,OR,a,b rfl,qW,b8]
theorem Jv:∀(l:List Nd){r:List Atr},MF l=some r->yR l=some r
 |[],r,h=>h
 | a::l,r,h=>by
   rw[MF]at h;split at h
   .cases h
   rename_i x b;rw[afr]at h;obtain⟨e,d,rfl⟩:=h;unfold Wt at b;split at b
   .cases b
   rename_i c;split at b
   .cases b;rw[yR,if_neg (by simp only[not_or]at c;exact c.2.1),Jv l d];rfl
   .cases b
theorem Y7{n:Nd}{u:Upd}(h:Ho n=some u):U6 n=some u:=by
 obtain⟨H,I,l⟩:=n;obtain⟨k,f⟩:∃k:Int,(((l.getD 0 cr).data.getD 0 0).toNat:Int)=k:=⟨_,rfl⟩;unfold Ho at h;simp only[Nd.kids,f]at h;have step:∀{c:Prop} [Decidable c]{x:Option Upd},(if c then none else x)=some u->¬c/\x=some u:=λ{c} _ {x} e=>by by_cases t:c;rw[if_pos t]at e;cases e;rw[if_neg t]at e;exact⟨t,e⟩
 obtain⟨C,h⟩:=step h;obtain⟨A,h⟩:=step h;obtain⟨j,h⟩:=step h;obtain⟨B,h⟩:=step h;simp only[not_or]at C A j;obtain⟨_,E,_,o⟩:=C;obtain⟨D,F,g⟩:=A;have i:Vh (l.getD 0 cr).data=some k:=by
  have hd:(l.getD 0 cr).data=[b8 k.toNat]:=by rcases hdd:(l.getD 0 cr).data with _|⟨c,_|⟨G,r⟩⟩;rw[hdd]at o;simp at o;rw[hdd]at f;simp at f;rw[<- f];simp[b8];rw[hdd]at o;simp at o
  rw[hd];exact XG ah3 ah3
 have p:l.length=1+(if k=4 then 2 else 1)+(if k=2 then 0 else 1):=by simpa using g
 have v:l.length<=4:=by rw[p];split<;>split<;>omega
 unfold U6;simp only[Nd.kids,i];rw[if_neg ah3];clear i f o E g;by_cases y:k=4;subst y;have w:l.length=4:=by rw[p];decide
 obtain⟨a,b,c,d,rfl⟩:∃a b c d,l=[a,b,c,d]:=by
  match l,w with
  |[a,b,c,d],_=>exact⟨a,b,c,d,rfl⟩
 rw[if_neg (by decide)]at h;obtain⟨_,h⟩:=step h;clear step;rw[afr]at h;obtain⟨r,m,rfl⟩:=h;simp at m j B⊢;simp[j.1,B.1,Jv _ m];by_cases z:k=2;subst z;have q:l.length=2:=by rw[p];decide
 rw[if_pos rfl]at h;cases h;obtain⟨a,b,rfl⟩:∃a b,l=[a,b]:=by
  match l,q with
  |[a,b],_=>exact⟨a,b,rfl⟩
 simp at j;simp[j.1];have s:l.length=3:=by rw[p,if_neg y,if_neg z]
 obtain⟨a,b,c,rfl⟩:∃a b c,l=[a,b,c]:=by
  match l,s with
  |[a,b,c],_=>exact⟨a,b,c,rfl⟩
 rw[if_neg z]at h;obtain⟨_,h⟩:=step h;clear step;rw[afr]at h;obtain⟨r,m,rfl⟩:=h;simp at m j;simp[y,j.1,Jv _ m]
theorem Xq{n:Nd}{u:Upd}(h:Ho n=some u):dV u=u:=by
 obtain⟨k,b⟩:∃k:Int,(((n.kids.getD 0 cr).data.getD 0 0).toNat:Int)=k:=⟨_,rfl⟩;unfold Ho at h;simp only[b]at h;have step:∀{c:Prop} [Decidable c]{x:Option Upd},(if c then none else x)=some u->x=some u:=λ{c} _ {x} e=>by by_cases d:c;rw[if_pos d]at e;cases e;rw[if_neg d]at e;exact e
 have h:=step (step (step (step h)));by_cases a:k=2;rw[if_pos a]at h;cases h;simp[dV,a];rw[if_neg a]at h;have h:=step h;rw[afr]at h;obtain⟨r,g,rfl⟩:=h;by_cases f:k=4;simp[dV,f];simp[dV,f,a]
def jm(u:Upd):Prop:=u.attrs.length<=1100000/\∀a∈u.attrs,(a.1.length:Int)<=140737488351232/\a.2.length<=1100000/\∀v∈a.2,(v.length:Int)<=140737488351232
theorem Zv{a:Atr}(e:(a.1.length:Int)<=140737488351232)(c:a.2.length<=1100000)(d:∀v∈a.2,(v.length:Int)<=140737488351232):okN 2 (Hm a):=by refine .inr ⟨.inl rfl,rfl,ah4,λk b=>?_⟩;simp only[afp,af6,or_false]at b;rcases b with rfl|rfl;exact G4 e 1;refine .inr ⟨.inr rfl,rfl,by simpa using c,λk b=>?_⟩;obtain⟨v,f,rfl⟩:=ae1.1 b;exact G4 (d v f) 0
theorem adq{l:List Atr}(e:l.length<=1100000)(h:∀a∈l,(a.1.length:Int)<=140737488351232/\a.2.length<=1100000/\∀v∈a.2,(v.length:Int)<=140737488351232):okN 3 (OR l):=by refine .inr ⟨.inl rfl,rfl,by simpa using e,λk b=>?_⟩;obtain⟨a,d,rfl⟩:=ae1.1 b;obtain⟨g,c,f⟩:=h a d;exact Zv g c f
theorem Zu{k:Int}{s t:List UInt8}{l:List Atr}(c:(s.length:Int)<=140737488351232)(d:(t.length:Int)<=140737488351232)(e:l.length<=1100000)(h:∀a∈l,(a.1.length:Int)<=140737488351232/\a.2.length<=1100000/\∀v∈a.2,(v.length:Int)<=140737488351232):okN 4 (wv k s t l):=by refine .inr ⟨.inl rfl,rfl,?_,λx b=>?_⟩;simp only[afc,afg,afF];split<;>split<;>simp;rcases ae2.1 b with b|b;rcases ae2.1 b with b|b;simp only[afp,af6,or_false]at b;rcases b with rfl|rfl;exact .inl ⟨.inl rfl,rfl,ah4⟩;exact G4 c 3;split at b;rw[afl.1 b];exact G4 d 3;cases b;split at b;cases b;rw[afl.1 b];exact adq e h
theorem YE{u:Upd}(h:(wrU u).2=0):1<=u.kind/\u.kind<=4/\(prS u.dn).2=0/\(u.kind=4->(prS u.tw).2=0)/\wrU u=de 4 (wv u.kind (prS u.dn).1 (prS u.tw).1 u.attrs):=by unfold wrU at h⊢;split at h;cases h;rename_i c;split at h;rename_i b;exact absurd h b;rename_i b;split at h;rename_i a;exact absurd h a.2;rename_i a;rw[if_neg c,if_neg b,if_neg a];refine⟨ah3,ah3,by simpa using b,λe=>?_,rfl⟩;simp only[not_and]at a;simpa using a e
theorem aa0(u:Upd):wrU (dV u)=wrU u:=by
 by_cases h4:u.kind=4;have:dV u=u:=by obtain⟨k,d,t,l⟩:=u;simp only at h4;subst h4;simp[dV]
 rw[this];by_cases a:u.kind=2;simp[wrU,dV,wv,a];simp[wrU,dV,wv,a,h4]
theorem ac4{u:Upd}(a:jm u)(h:(wrU u).2=0):OL (wrU u).1=.ok (wv u.kind (prS u.dn).1 (prS u.tw).1 u.attrs):=by obtain⟨d,h4,hd,b,e⟩:=YE h;rw[e]at h⊢;have l1:=Pf u.dn;have c:=Pf u.tw;exact aa3 (Zu ah3 ah3 a.1 a.2) h ah3
theorem Y4{u:Upd}(h:(wrU u).2=0):Ho (wv u.kind (prS u.dn).1 (prS u.tw).1 u.attrs)=some (dV u):=by obtain⟨c,h4,hd,a,e⟩:=YE h;rw[Y8 c h4 (by rw[Sl hd]) λe=>by rw[Sl (a e)],Sl hd];congr 2;split;rename_i b;rw[Sl (a b)];rfl
theorem Zi{u:Upd}(c:jm u)(h:(wrU u).2=0):rdU (wrU u).1=(dV u,0):=by have b:=aa0 u;have a:dV (dV u)=dV u:=Xq (Y4 h);rw[rdU,ac4 c h];simp only[Y7 (Y4 h),b];rw[if_neg (by simp[h]),a]
theorem aa4{s:List UInt8}{e:Int}(h:OL s=.error e):e≠0:=by unfold OL at h;split at h;rename_i a;cases h;exact Pg _ _ _ a;split at h;cases h;cases h;decide
variable {L:List Blk}{K:aeX}
abbrev dnA(d:List Rdn):AV:=.sl (d.map aH) d.length none
abbrev cP(u:Upd):List AV:=[.int .i64 u.kind,dnA u.dn,dnA u.tw,.sl (bj u.attrs) u.attrs.length none]
def dnB(d:List Rdn):Prop:=d.length<=1100000/\∀r∈d,r.length<=1100000
theorem Sb{u:Upd}(hd:dnB u.dn)(ht:dnB u.tw)(W:jm u)(h:K (U3 (wrU u)) L):aeW 14 [.agg (cP u)] L K:=by
 obtain⟨k,d,t,l⟩:=u;simp only[cP]at hd ht W⊢;unfold wrU U3 at h;simp only at h;by_cases M:k<1\/4<k;rw[if_pos M]at h;replace h:=hid h;obtain⟨b,hb⟩:=aeS (decide (k<1\/(4:Int)<k));have av:b=true:=by rw[<- hb,decide_eq_true_iff];omega
 subst av;clear hd ht W;refine aa vW (by simp[iG]) ?_;simp only[iG,am];by_cases h1:k<1;clear M hb;refine wk ?_;exact af rfl h.o;have h2:4<k:=ah3;clear M hb;refine wk ?_;exact af rfl h.o;rw[if_neg M]at h;have g1:¬k<1:=ah3;have g2:¬4<k:=ah3;have ab:Vu k=[b8 k.toNat]:=XT ah3 ah3;obtain⟨c,hc⟩:=aeS (b8 k.toNat);have kk1:Hid (Ctr Tryz.prog 39 [.int .i64 k] (.str [c])):=@hid _ (by intro L K q;exact Vv ah3 ah3 (by rw[ab,hc];exact q));have kk2:Hid (Ctr Tryz.prog 38 [.int .i64 2,.str [c]] (.agg [.int .i64 2,.str [c],.sl [] 0 none])):=@hid _ (by intro L K q;exact ZD (by rw[bT];exact q));clear M;refine aa vW (by simp[iG]) ?_;simp only[iG,am]
 iterate 21 first
  |refine lF ?_
  | (first|refine jO ah5 ?_|refine fW ah5 ?_|refine fZ ?_|refine Eb ?_|refine oA (fun _=>?_)|refine ed ?_|refine jQ ?_|refine kk1.o ?_|refine kk2.o ?_|refine dD (kk1.o ⟨rfl,rfl⟩) (kk1.o ⟨rfl,rfl⟩) ?_|refine dD (kk2.o ⟨rfl,rfl⟩) (kk2.o ⟨rfl,rfl⟩) ?_|refine bu (kk1.o ⟨rfl,rfl⟩) ?_|refine bu (kk2.o ⟨rfl,rfl⟩) ?_)
    simp(config:={maxSteps:=2000000}) only[Kon,push_cast,reduceIte,Nat.reduceEqDiff,Nat.reduceAdd,Nat.reduceMul,Nat.reduceSub,Nat.reduceLT,Nat.reduceLeDiff,Int.reduceLT,Int.reduceLE,Int.reduceAdd,Int.reduceSub,Int.reduceNeg,Int.reduceToNat,Int.reduceEq,reduceCtorEq, *]
  | (first|refine jK ah5 ?_|refine iX ?_|refine fY ?_|refine jP ?_|refine oF (d9 ?_))
    simp only[push_cast,reduceIte,Nat.reduceEqDiff,Nat.reduceAdd,Nat.reduceMul,Nat.reduceSub,Nat.reduceLT,Nat.reduceLeDiff,Int.reduceLT,Int.reduceLE,Int.reduceAdd,Int.reduceSub,Int.reduceNeg,Int.reduceToNat,Int.reduceEq,reduceCtorEq, *]
  |exact oB
  |first|apply oC|apply jL|apply oD|apply jM|apply oE|apply jN
  |refine gg ?_
  |refine fX ?_
  |first|refine gc rfl ?_|refine gf rfl ?_|refine cO rfl ?_ ?_|refine iM rfl (λ_=>?_) (λ_=>?_)|refine iL rfl (λ_=>?_) (λ_=>?_)
  |((first|refine cN (λ_=>?_) (λ_=>?_)|refine dZ (λ_=>?_) (λ_=>?_))<;>try simp(config:={maxSteps:=2000000}) only[Kon,push_cast,reduceIte,Nat.reduceEqDiff,Nat.reduceAdd,Nat.reduceMul,Nat.reduceSub,Nat.reduceLT,Nat.reduceLeDiff,Int.reduceLT,Int.reduceLE,Int.reduceAdd,Int.reduceSub,Int.reduceNeg,Int.reduceToNat,Int.reduceEq,reduceCtorEq, *])
  |refine And.intro trivial ?_
  |refine And.intro ah3 ?_
  |refine eZ rfl (λ_=>?_) (λ_=>?_)
  |refine And.intro ?_ ?_
 obtain⟨f,r⟩:∃f,f=if k=4 then[d,t]else[d]:=⟨_,rfl⟩
 refine Pp (λT2 L2=>∃X,T2=[(5,.sl (f.map dnA) f.length none),(4,.sl [.int .i64 2,.str [c],.sl [] 0 none] 1 (some 1)),(1,.ptr L.length 0)]/\L2=L++(.cells [.int .i64 k,dnA d,dnA t,.sl (bj l) l.length none]::X)) ?_ ?_
 .by_cases h4:k=4
  .subst h4;rw[if_pos rfl]at r;subst r;have e1:=ce t;clear kk1 kk2 hd ht W h;refine wk ?_;exact zC [(5,.sl (List.map dnA [d,t]) 2 none),(4,.sl [.int .i64 2,.str [c],.sl [] 0 none] 1 (some 1)),(1,.ptr L.length 0)] _ (GZ (zy rfl (by simp only[AV.frz,AV.frzL,ce,afe,afQ]) (by repeat' first|exact GV|refine kF rfl rfl ?_)) ah4) ⟨_,rfl,rfl⟩
  .rw[if_neg h4]at r;subst r;clear kk1 kk2 hd ht W h;refine wk ?_;exact zC [(5,.sl (List.map dnA [d]) 1 none),(4,.sl [.int .i64 2,.str [c],.sl [] 0 none] 1 (some 1)),(1,.ptr L.length 0)] _ (GZ (zy rfl (by simp only[AV.frz,AV.frzL,ce,afe,afQ]) (by repeat' first|exact GV|refine kF rfl rfl ?_)) ah4) ⟨_,rfl,rfl⟩
 rintro _ _ ⟨X,rfl,rfl⟩ -;have a4:f.length<=2:=by rw[r];split<;>simp
 have S:∀x∈f,dnB x:=λx z=>by rw[r]at z;split at z;simp at z;rcases z with rfl|rfl<;>assumption;simp at z;subst z;assumption
 obtain⟨R,F⟩:=aeS ((if(prS d).2≠0 then([],(prS d).2)else if k=4/\(prS t).2≠0 then([],(prS t).2)else de 4 (wv k (prS d).1 (prS t).1 l)));rw[F]at h;have g:∀i,i<f.length->(∀j,j<i->(prS (f.getD j [])).2=0)->(prS (f.getD i [])).2≠0->R=([],(prS (f.getD i [])).2):=λi hi w P=>by rw[<- F];rw[r]at hi w P⊢;by_cases h4:k=4;rw[if_pos h4]at hi w P⊢;rcases i with _|_|i;have I:(prS d).2≠0:=P;rw[if_pos I];rfl;have I:(prS t).2≠0:=P;rw[if_neg (by simpa using w 0 ah3),if_pos ⟨h4,I⟩];rfl;simp at hi;omega;rw[if_neg h4]at hi w P⊢;rcases i with _|i;have I:(prS d).2≠0:=P;rw[if_pos I];rfl;simp at hi
 have y:(∀j,j<f.length->(prS (f.getD j [])).2=0)->R=de 4 (wv k (prS d).1 (prS t).1 l):=λw=>by rw[<- F];rw[r]at w;by_cases h4:k=4;rw[if_pos h4]at w;rw[if_neg (by simpa using w 0 ah4),if_neg (λe=>e.2 (by simpa using w 1 ah4))];rw[if_neg h4]at w;rw[if_neg (by simpa using w 0 ah4),if_neg (λe=>h4 e.1)]
 have T:wv k (prS d).1 (prS t).1 l=.mk 48 [] ((.mk 2 [c] []::f.map λx=>bm (prS x).1)++if k=2 then[]else[OR l]):=by rw[r,wv,hc];by_cases h4:k=4;rw[if_pos h4,if_pos h4];rfl;rw[if_neg h4,if_neg h4];rfl
 have U:okN 4 (wv k (prS d).1 (prS t).1 l):=Zu (by have:=Pf d;omega) (by have:=Pf t;omega) W.1 W.2;rw[T]at y U;replace g:=hid g;replace y:=hid y;replace U:=hid U;replace S:=hid S;replace h:=hid h;clear T F hd ht r ab hc kk1 kk2;refine wk ?_;refine aaP 4 3 (X.length+1) (L:=L) (X:=.cells [.int .i64 k,dnA d,dnA t,.sl (bj l) l.length none]::X) (l:=[.int .i64 2,.str [c],.sl [] 0 none]) (n:=1) ah4 rfl rfl ?_;refine ao (λm T' L'=>∃(i:Nat) (C:List AV),m=f.length-i/\i<=f.length/\Hid (∀j,j<i->(prS (f.getD j [])).2=0)/\Hid (C=aC (.mk 2 [c] []::(f.take i).map λx=>bm (prS x).1))/\T'=[(37,.int .i64 (i:Int)),(36,.int .i64 f.length),(35,.sl (f.map dnA) f.length none),(4,.gsl C (i+1) (L.length+(X.length+1)) 3),(1,.ptr L.length 0)]/\L'=L++(.cells [.int .i64 k,dnA d,dnA t,.sl (bj l) l.length none]::(X++[.spare (i+1) 3]))) ah6 ⟨0,_,rfl,ae5 _,hid ah4,hid rfl,rfl,ah4⟩ ?_;rintro _ _ _ ⟨i,C,rfl,hi,w,hC,rfl,rfl⟩;by_cases A:i<f.length;have g3:(i:Int)<(f.length:Int):=ah3;have w2:=aeU i ah3;obtain⟨x,z⟩:=aeS (f.getD i []);have N:x∈f:=by rw[<- z];simp[A]
 have e2:(f.map dnA).getD i .undef=dnA x:=by rw[<- z];simp[A]
 have e3:i<(f.map dnA).length:=by simpa using A
 obtain⟨⟨s,e⟩,p⟩:∃q,prS x=q:=⟨_,rfl⟩;have kk1:Hid (Ctr Tryz.prog 35 [dnA x] (.tup [.str s,.int .i64 e])):=@hid _ (by intro L K q;refine yX (S.o x N).1 (S.o x N).2 ?_;rw[p];exact q)
 by_cases P:e=0;subst P;have kk2:Hid (Ctr Tryz.prog 40 [.str s] (.agg [.int .i64 4,.str s,.sl [] 0 none])):=@hid _ (by intro L K q;exact U0 (by rw[bm,bT];exact q));have Z:∀j,j<i+1->(prS (f.getD j [])).2=0:=λj a0=>by rcases aft j i with h1|h1;exact w.o j h1;have:j=i:=ah3;subst this;rw[z,p]
 have Y:aC (.mk 2 [c] []::(f.take (i+1)).map λx=>bm (prS x).1)=C++[.int .i64 4,.str s,.sl [] 0 none]:=by rw[hC.o,afs A,show f[i]=x by rw[<- z];simp[A],afk,<- afI,sK];simp only[afe,afQ,p,aC,bm,bT,afq];rfl
 replace Y:=hid Y;replace Z:=hid Z;clear p N z w hC g y U;refine wk ?_;exact ah8 ah3 ah6 ⟨i+1,_,rfl,A,Z,hid Y.o.symm,rfl,rfl⟩;have G:=h.o;rw[g.o i A w.o (by rw[z,p];exact P),z,p]at G;replace G:=hid G;clear p N z w hC g y U;refine wk ?_;exact af rfl G.o;have ap:i=f.length:=ah3;subst ap;have g3:¬(f.length:Int)<(f.length:Int):=ah3;have F:=y.o w.o;have V:=hC.o;rw[afo]at V;obtain⟨J,E⟩:=aeS ((Nd.mk 2 [c] []::f.map λx=>bm (prS x).1));have D:J.length=f.length+1:=by rw[<- E];simp
 have v:=U.o;rw[E]at F V v;obtain⟨⟨s,e⟩,p⟩:∃q,R=q:=⟨_,rfl⟩;have G:=h.o;rw[p]at G F;subst V;have e0:=dd J;have B:∀{h n:Nat}{m:List Nd}(ad:m.length=n) (an:m.length<=1100000) (ho:∀x∈m,okN h x){i:Nat}{L:List Blk}{K:aeX},K (.agg [.int .i64 48,.str [],.sl (aC m) n none]) L->aeW 43 [.int .i64 48,.gsl (aC m) n i 3] L K:=by intro h n m ad an ho i L K q;subst ad;exact cL (by simpa only[AV.frzL,AV.frz,dd]using Wo (h:=h) (cap:=none) an ho (by rw[bT];exact q))
 by_cases h2:k=2;rw[if_pos h2,afq]at v F;have kk1:Hid (∀{i:Nat}{L:List Blk}{K:aeX},K (.agg [.int .i64 48,.str [],.sl (aC J) (f.length+1) none]) L->aeW 43 [.int .i64 48,.gsl (aC J) (f.length+1) i 3] L K):=@hid _ (by intro i L K q;refine B (h:=3) D ah3 (λn hn=>?_) q;rcases v with⟨ho,_⟩|⟨_,_,_,M⟩;omega;exact M n hn)
 have kk2:Hid (Ctr Tryz.prog 45 [.agg [.int .i64 48,.str [],.sl (aC J) (f.length+1) none]] (.tup [.str s,.int .i64 e])):=@hid _ (by intro L K q;have:=@acT _ v L K;rw[bT,<- F,D]at this;exact this q)
 replace G:=hid G;subst h2;clear F hC w g y U p E v B;refine wk ?_;exact af rfl G.o;rw[if_neg h2]at v F;obtain⟨O,H⟩:=aeS (aC (l.map Hm));obtain⟨al,Q⟩:=W;simp only at al Q;have ai:∀x∈J++[OR l],okN 3 x:=λn hn=>by rcases v with⟨ho,_⟩|⟨_,_,_,M⟩;omega;exact M n hn
 have eL:aC (J++[OR l])=aC J++[.int .i64 48,.str [],.sl O l.length none]:=by rw[sK,<- H];simp only[aC,OR,bT,ae6,afq]
 have kk1:Hid (Ctr Tryz.prog 41 [.sl (bj l) l.length none,.func 42 []] (.sl O l.length none)):=@hid _ (by intro L K q;exact abK ah3 Q (by rw[H];exact q))
 have kk2:Hid (Ctr Tryz.prog 43 [.int .i64 48,.sl O l.length none] (.agg [.int .i64 48,.str [],.sl O l.length none])):=@hid _ (by
  intro L K q;have:=@Wo 2 48 (l.map Hm) none (by rw[ae6];omega) (λx z=>by obtain⟨a,ha,rfl⟩:=ae1.1 z;obtain⟨a1,a2,a3⟩:=Q a ha;exact Zv a1 a2 a3) L K
  rw[bT,H,ae6]at this;exact this q)
 have kk3:Hid (∀{i:Nat}{L:List Blk}{K:aeX},K (.agg [.int .i64 48,.str [],.sl (aC J++[.int .i64 48,.str [],.sl O l.length none]) (f.length+1+1) none]) L->aeW 43 [.int .i64 48,.gsl (aC J++[.int .i64 48,.str [],.sl O l.length none]) (f.length+1+1) i 3] L K):=@hid _ (by intro i L K q;rw[<- eL]at q⊢;exact B (h:=3) (by simp[D]) (by simp;omega) ai q)
 have kk4:Hid (Ctr Tryz.prog 45 [.agg [.int .i64 48,.str [],.sl (aC J++[.int .i64 48,.str [],.sl O l.length none]) (f.length+1+1) none]] (.tup [.str s,.int .i64 e])):=@hid _ (by intro L K q;have:=@acT _ v L K;rw[bT,<- F,eL,afc,D]at this;exact this q)
 have e1:AV.frzL O=O:=by rw[<- H];exact dd _
 replace G:=hid G;clear F hC w g y U p E v B ai al Q H eL;refine wk ?_;exact af rfl G.o
def LU:Except Int (Nd×List UInt8)->AV
 |.error e=>.tup [.agg [.int .i64 0,.str [],.sl [] 0 none],.str [],.int .i64 e]
 |.ok (n,r)=>.tup [.agg (ndA n),.str r,.int .i64 0]
def abY(acc:List Nd):Except Int (List Nd)->Except Int (List Nd)
 |.error e=>.error e
 |.ok l=>.ok (acc++l)
theorem WJ{p:List UInt8->Except Int (Nd×List UInt8)}{F:Nat}{u:List UInt8}(h:u≠[]):qH p (F+1) u=match p u with
  |.error e=>.error e
  | .ok (n,r)=>match qH p F r with
    |.error e=>.error e
    |.ok l=>.ok (n::l):=by
 rcases u with _|⟨c,v⟩;exact absurd rfl h;rw[qH];rfl;exact h
theorem acR:∀x:_root_.Fin 256,IntKind.u8.wrap ((BitVec.ofInt IntKind.u8.bits (x.val:Int) &&& BitVec.ofInt IntKind.u8.bits 31).toNat:Nat)=((x.val%32:Nat):Int)/\IntKind.u8.wrap ((BitVec.ofInt IntKind.u8.bits (x.val:Int) &&& BitVec.ofInt IntKind.u8.bits 32).toNat:Nat)=((x.val/32%2*32:Nat):Int):=by decide +kernel
theorem Pw:∀(f:Nat){s:List UInt8}{b:Int}(Z:s.length<=1100000) (hd:b+f=65) (h1:1<=b){L:List Blk}{K:aeX}(h:K (LU (nP f s)) L),aeW 152 [.str s,.int .i64 b] L K
 |0,s,b,Z,hd,h1,L,K,h=>by have e:b=65:=ah3;subst e;replace h:=hid h;refine aeV dC ?_;exact aB (af rfl h.o)
 | f+1,s,b,Z,hd,h1,L,K,h=>by
   have W:∀{Y:List UInt8}(R:Y.length<=1100000){L:List Blk}{K:aeX}(h:K (LU (nP f Y)) L),aeW 152 [.str Y,.int .i64 (b+1)] L K:=by intro Y R L K h;exact Pw f R ah3 ah3 h
   replace W:=@hid _ @W;have g1:¬(64:Int)<b:=ah3;have w1:IntKind.i64.wrap (b+1)=b+1:=ae ah3 ah3;rw[nP]at h;by_cases x:s=[]
   .rw[if_pos x]at h;subst x;replace h:=hid h;refine aeV dC ?_;exact aB (af rfl h.o)
   rw[if_neg x]at h;obtain⟨t,ht⟩:=aeS ((s.getD 0 0).toNat);have p:t<256:=(by rw[<- ht];exact(s.getD 0 0).toNat_lt);have ap:0<s.length:=afP.2 x;have g2:(0:Int)<(s.length:Int):=ah3;have T:=(acR ⟨t,p⟩).1;have Q:=(acR ⟨t,p⟩).2;simp only[ht]at h T Q;obtain⟨y,hy⟩:∃y:Int,((t%32:Nat):Int)=y:=⟨_,rfl⟩;obtain⟨z,I⟩:∃z:Int,((t/32%2*32:Nat):Int)=z:=⟨_,rfl⟩;rw[hy]at T;rw[I]at Q;have wt:IntKind.i64.wrap (t:Int)=(t:Int):=ae ah3 ah3;by_cases D:t%32=31
   .rw[if_pos D]at h;replace h:=hid h;have ab:y=31:=ah3;subst ab;clear D I hy;refine aeV dC ?_;exact aB (af rfl h.o)
   rw[if_neg D]at h;have g3:¬y=31:=ah3;clear D hy;rcases hbn:Nl s with e|⟨size,a⟩
   .rw[hbn]at h;simp only at h;replace h:=hid h;have P:=WW hbn;have kk1:Hid (Ctr Tryz.prog 181 [.str s] (.tup [.int .i64 0,.int .i64 0,.int .i64 e])):=@hid _ (by intro L K q;exact UC Z (by rw[hbn];exact q));clear hbn I;refine aeV dC ?_;exact aB (af rfl h.o)
   obtain⟨b2,b6,b7,b8⟩:=WX hbn;have kk1:Hid (Ctr Tryz.prog 181 [.str s] (.tup [.int .i64 (size:Int),.int .i64 (a:Int),.int .i64 0])):=@hid _ (by intro L K q;exact UC Z (by rw[hbn];exact q));rw[hbn]at h;simp only at h;clear hbn;have w2:IntKind.i64.wrap ((s.length:Int)-(a:Int))=(s.length:Int)-(a:Int):=ae ah3 ah3;have w3:IntKind.i64.wrap ((a:Int)+(size:Int))=(a:Int)+(size:Int):=ae ah3 ah3;by_cases w:s.length<a+size
   .rw[if_pos w]at h;replace h:=hid h;have g4:(s.length:Int)-(a:Int)<(size:Int):=ah3;clear w I;refine aeV dC ?_;exact aB (af rfl h.o)
   rw[if_neg w]at h;have g4:¬(s.length:Int)-(a:Int)<(size:Int):=ah3;have g5:(a:Int)<=(a:Int)+(size:Int):=ah3;have g6:(a:Int)+(size:Int)<=(s.length:Int):=ah3;have e3:((a:Int)+(size:Int)).toNat=a+size:=ah3;have e4:a+size-a=size:=ah3;obtain⟨H,E⟩:=aeS ((s.drop a).take size);obtain⟨r,hr⟩:=aeS (s.drop (a+size));have an:H.length=size:=(by rw[<- E];simp;omega);have e5:r.take (s.length-(a+size))=r:=(by rw[<- hr,<- agb,afo]);rw[E,hr]at h;by_cases B:t/32%2=0
   .rw[if_pos B]at h;simp only[LU,bT]at h;replace h:=hid h;have ad:z=0:=ah3;subst ad;clear B I w;refine aeV dC ?_;exact aB (af rfl h.o)
   rw[if_neg B]at h;have ai:z=32:=ah3;subst ai;obtain⟨M,V⟩:=aeS (qH (nP f) size H);rw[V]at h;have j:∀e,M=.error e->K (.tup [.agg [.int .i64 0,.str [],.sl [] 0 none],.str [],.int .i64 e]) L:=λe P=>by rw[P]at h;exact h
   have g:∀U,M=.ok U->K (.tup [.agg [.int .i64 (t:Int),.str [],.sl (aC U) U.length none],.str r,.int .i64 0]) L:=λU P=>by rw[P]at h;simp only[LU,bT]at h;exact h
   replace j:=hid j;replace g:=hid g;have av:size<=1100000:=ah3;clear B I w h;refine aeV dC ?_;refine My (L.length+1) 2 3 (c:=[.int .i64 (t:Int),.str [],.sl [] 0 (some 0)]) (l:=[]) (n:=0) ah4 rfl (afD 3).symm ?_;refine ao (λm T' L'=>∃(i:List Nd) (F k:Nat) (u:List UInt8) (C:List AV) (X:List Blk),m=u.length/\u.length<=F/\u.length+k<=size/\Hid (abY i (qH (nP f) F u)=M)/\Hid (C=aC i/\k=i.length)/\T'=[(11,.str u),(10,.ptr (L.length+1) 0),(8,.int .i64 (a:Int)),(7,.int .i64 (size:Int)),(4,.ptr L.length 0),(0,.str s),(1,.int .i64 b)]/\L'=L++(.cells [.int .i64 0,.str [],.sl [] 0 (some 0)] :: .cells [.int .i64 (t:Int),.str [],.gsl C k (L.length+2) 3] :: .spare k 3::X)) ah7 ⟨[],size,0,H,[],[],rfl,ah3,ah3,hid (by rw[V];cases M<;>rfl),hid ⟨rfl,rfl⟩,rfl,ah4⟩ ?_;rintro _ _ _ ⟨i,F,k,u,C,X,rfl,hF,hk,J,A,rfl,rfl⟩;by_cases hu:u=[]
   .subst hu;have d:=J.o;have N:qH (nP f) F []=.ok []:=(by cases F<;>rfl);rw[N]at d;have O:=g.o i (by rw[<- d];simp[abY]);obtain⟨rfl,rfl⟩:=A.o;have e0:=dd i;replace O:=hid O;clear d N J A g j;refine wk ?_;refine aB ?_;simp only[AV.frz,AV.frzL,e0];exact af (by simp only[AV.refs,AV.refsL,gj];rfl) O.o
   .have hup:0<u.length:=afP.2 hu;obtain⟨S,rfl⟩:∃S,F=S+1:=⟨F-1,ah3⟩;have d:=J.o;rw[WJ hu]at d;rcases hpu:nP f u with e|⟨n,v⟩
    .rw[hpu]at d;have O:=hid (j.o e (by rw[<- d];rfl));have P:=Pg f u e hpu;have kk1:Hid (Ctr Tryz.prog 152 [.str u,.int .i64 (b+1)] (.tup [.agg [.int .i64 0,.str [],.sl [] 0 none],.str [],.int .i64 e])):=@hid _ (by intro L K q;refine W.o ah3 ?_;rw[hpu];exact q)
     clear J d j g hpu V;refine wk ?_;exact aB (af rfl O.o)
    .rw[hpu]at d;simp only at d;have al:=Zp hpu;have kk1:Hid (Ctr Tryz.prog 152 [.str u,.int .i64 (b+1)] (.tup [.agg [.int .i64 n.tag,.str n.data,.sl (aC n.kids) n.kids.length none],.str v,.int .i64 0])):=@hid _ (by intro L K q;refine W.o ah3 ?_;rw[hpu,LU,dX];exact q)
     have G:abY (i++[n]) (qH (nP f) S v)=M:=by rw[<- d];cases qH (nP f) S v<;>simp[abY]
     have e0:=dd n.kids;replace G:=hid G;clear J d j g hpu V;refine wk ?_;exact ah8 al ah6 ⟨i++[n],S,k+1,v,C++[.int .i64 n.tag,.str n.data,.sl (aC n.kids) n.kids.length none],_,rfl,ah3,ah3,G,hid ⟨by rw[A.o.1,sK,aC,dX];rfl,by rw[A.o.2];simp⟩,rfl,rfl⟩
theorem TI{s:List UInt8}(a:s.length<=1100000)(h:K (LU (nP 64 s)) L):aeW 116 [.str s] L K:=by rcases hp:nP 64 s with e|⟨n,r⟩;rw[hp]at h;replace h:=hid h;have kk1:Hid (Ctr Tryz.prog 152 [.str s,.int .i64 1] (.tup [.agg [.int .i64 0,.str [],.sl [] 0 none],.str [],.int .i64 e])):=@hid _ (by intro L K q;exact Pw 64 a ah3 ah3 (by rw[hp];exact q));clear hp;refine aeV GH ?_;exact aB (af rfl h.o);rw[hp,LU,dX]at h;replace h:=hid h;have kk1:Hid (Ctr Tryz.prog 152 [.str s,.int .i64 1] (.tup [.agg [.int .i64 n.tag,.str n.data,.sl (aC n.kids) n.kids.length none],.str r,.int .i64 0])):=@hid _ (by intro L K q;exact Pw 64 a ah3 ah3 (by rw[hp,LU,dX];exact q));clear hp;have b:=dd n.kids;refine aeV GH ?_;refine af ?_ h.o;simp only[AV.refs,AV.refsL,gj];rfl
def ac5:Except Int Nd->AV
 |.error e=>.tup [.agg [.int .i64 0,.str [],.sl [] 0 none],.int .i64 e]
 |.ok n=>.tup [.agg (ndA n),.int .i64 0]
theorem Wc{s:List UInt8}(a:s.length<=1100000)(h:K (ac5 (OL s)) L):aeW 85 [.str s] L K:=by unfold OL at h;rcases hp:nP 64 s with e|⟨n,r⟩;rw[hp]at h;replace h:=hid h;have b:=Pg _ _ _ hp;have kk1:Hid (Ctr Tryz.prog 116 [.str s] (.tup [.agg [.int .i64 0,.str [],.sl [] 0 none],.str [],.int .i64 e])):=@hid _ (by intro L K q;exact TI a (by rw[hp];exact q));clear hp;refine aeV sQ ?_;exact aB (af rfl h.o);rw[hp]at h;simp only at h;have kk1:Hid (Ctr Tryz.prog 116 [.str s] (.tup [.agg [.int .i64 n.tag,.str n.data,.sl (aC n.kids) n.kids.length none],.str r,.int .i64 0])):=@hid _ (by intro L K q;exact TI a (by rw[hp,LU,dX];exact q));have c:=dd n.kids;by_cases hr:r=[];rw[if_pos hr]at h;rw[ac5,dX]at h;replace h:=hid h;subst hr;clear hp;refine aeV sQ ?_;refine af ?_ h.o;simp only[AV.refs,AV.refsL,gj];rfl;rw[if_neg hr]at h;replace h:=hid h;clear hp;refine aeV sQ ?_;exact aB (af rfl h.o)
end Go.Proofs.YtajkbcmleihaoaaGreatDoor.Av
namespace Go.Proofs
open Go.Shelf
def Tryz.growD_ren:Go.Shelf.Ren:=⟨λ|4=>108|n=>n,λ|22=>24|25=>74|3=>3|4=>4|9=>9|20=>20|0=>0|n=>n,λ|n=>n⟩
theorem Tryz.growD:Go.Proofs.Lays8.n4 Tryz.prog Tryz.growD_ren:={
 mixed:=by kernel_rfl
 f4:=⟨Tryz.f108.name,by decide,Tryz.func108.trans (congrArg some (by kernel_rfl))⟩
 t0:=Tryz.underlying0
 a0:=Tryz.isAgg0
 z0:=Tryz.sizeOf0
 v0:=Tryz.zeroValue0
 t3:=Tryz.underlying3
 a3:=Tryz.isAgg3
 z3:=Tryz.sizeOf3
 v3:=Tryz.zeroValue3
 t4:=Tryz.underlying4
 a4:=Tryz.isAgg4
 z4:=Tryz.sizeOf4
 v4:=Tryz.zeroValue4
 t9:=Tryz.underlying9
 a9:=Tryz.isAgg9
 z9:=Tryz.sizeOf9
 v9:=Tryz.zeroValue9
 t20:=Tryz.underlying20
 a20:=Tryz.isAgg20
 z20:=Tryz.sizeOf20
 v20:=Tryz.zeroValue20
 t22:=Tryz.underlying24
 a22:=Tryz.isAgg24
 z22:=Tryz.sizeOf24
 v22:=Tryz.zeroValue24}
end Go.Proofs
set_option maxRecDepth 100000
namespace Go.Proofs.YtajkbcmleihaoaaGreatDoor.Av
open Go
variable {u:Upd}{n:Nd}{s:List UInt8}
def Dx:LSO:=[A3 1 0,Bk 2]
def Dw:LSO:=[Ad 6 0 1,Ac 7 1 6,Ay 8 7 4]
def Dv:LSO:=[Ad 9 2 1,o0 (.store 1 (tm 9) (.av (.sl [] 0 (some 0))))]
def Du:LSO:=[Ad 10 0 1,Ac 11 1 10,A0 12 11 2]
def Dt:LSO:=[Ad 13 3 1,o0 (.store 1 (tm 13) (.av (.sl [] 0 (some 0))))]
def Ds:List (aj×Kd):=
 [As 14 0 1,Au 15 1 14 0 1,As 16 1 1,Au 17 1 16 0 1,od 18 (.call 50 [(tm 17),(.av (.sl [] 0 (some 0)))]) (.read 0 1),As 19 2 1,Au 20 1 19 0 1,
 od 21 (.call 50 [(tm 20),(.av (.sl [] 0 (some 0)))]) (.read 0 1),
 od 22 (.build [(.int .i64 0),(.sl [] 0 (some 0)),(.sl [] 0 (some 0)),(.sl [] 0 (some 0))] [(0,(1,(tm 15))),(1,(1,(tm 18))),(2,(1,(tm 21)))]) .pure,
 od 3 (.alloc [(.int .i64 0),(.sl [] 0 (some 0)),(.sl [] 0 (some 0)),(.sl [] 0 (some 0))]) .eff]
def xx:List aj :=
 [⟨none,(.store 4 (tm 3) (tm 22)),none⟩]
def Dr:LSO:=[Ad 23 3 1,Ac 24 1 23,Af 25 24,Ab 26 0]
def Dq:LSO:=[Ao 27 26 25]
def Dp:LSO:=[Ak 28 2 24 26,Az 29 2 28,Bu 5,Ai 2 5 29]
def Do:List (aj×Kd):=
 [As 30 3 3,Au 31 1 30 0 1,As 32 0 5,Au 33 1 32 0 1,As 34 1 5,Au 35 1 34 0 0,od 36 (.app 0 1 16 [(.str [])] (.av (.sl [] 0 (some 0))) (tm 35)) .eff,
 od 37 (.build [(.str []),(.sl [] 0 (some 0))] [(0,(1,(tm 33))),(1,(1,(tm 36)))]) .pure,od 38 (.bslice false 2 1 [(.str []),(.sl [] 0 (some 0))] [(0,(2,(tm 37)))]) (.read 0 0)]
def xw:List aj :=
 [⟨(some 39),(.app 1 2 40 [(.str []),(.sl [] 0 (some 0))] (tm 31) (tm 38)),none⟩,⟨(some 40),(.faddr 3 (tm 3)),none⟩,⟨none,(.store 1 (tm 40) (tm 39)),none⟩]
def xz:LSO:=[Aj 41 26 1,Aa 26 41]
def xy:LSO:=[Az 42 4 3,Ai 4 2 42]
def wh:aI:=⟨43,(ahW Dx [] (.seq (ahW Dw Ce (ahX 8 (.sreg Dv [false]) .skip)) (.seq (ahW Du Ce (ahX 12 (.sreg Dt [false]) .skip)) (.seq (.dregM Ds xx Cl) (.seq (ahW Dr Cp (ahZ 0 (ahW Dq [] (.seq (ah0 27 0) (.seq (.block 1 (ahW Dp Ce (.dregM Do xw CK))) (.sreg xz Cd)))))) (ahW xy [false] .ret)))))),[(.cell true 4 2)]⟩
attribute [push_cast] Dx Dw Dv Du Dt Ds xx Dr Dq Dp Do xw xz xy
theorem Nb:aK Tryz.prog (λr i=>if r=9/\i=6 then 0 else 1) 87=some wh.raw:=ah5
def Dd:LSO:=[Bk 2,Ab 3 0]
def Dc:LSO:=[Aa 11 0,Ag 12 85 11,Aa 10 12,Am 13 10,Ap 14 10,AF 4,Ai 3 4 13,Aa 5 14]
def Db:LSO:=[Aa 15 5,Ay 16 15 0]
def Da:LSO:=[Bl 17,Aa 18 5,Ai 4 2 17,Aa 3 18]
def CZ:LSO:=[Az 20 3 4,Ag 21 86 20,Aa 19 21,Am 22 19,Ap 23 19,Bk 6,Ai 4 6 22,Aa 7 23]
def CY:LSO:=[Aa 24 7,A6 25 24]
def CX:LSO:=[Bl 26,Ai 4 2 26,Ab 3 4]
def CW:LSO:=[Az 28 4 6,Ag 29 14 28,Aa 27 29,Am 30 27,Ap 31 27,Aa 8 30,Aa 9 31]
def CV:LSO:=[Aa 32 9,Ay 33 32 0,Aa 34 33,.grp none 34 false
 [Ah 35 34 8,Ah 36 34 0,B3 37 34 35 36]
 38 (tm 37)]
def CU:LSO:=[Bl 39,Ai 4 2 39,Ab 3 4]
def xu:LSO:=[Az 40 4 6,Ag 41 87 40,Ai 4 2 41,Ab 3 0]
def bG:aI:=⟨42,(ahW Dd [] (ahW Dc Cm (.seq (ahW Db Cd (ahY 16 (.sreg Da Ce))) (ahW CZ Cm (.seq (ahW CY Cd (ahY 25 (.sreg CX Cd))) (.seq (ahW CW Cm (ahW CV Cf (ahY 38 (.sreg CU Cd)))) (ahW xu Ce .ret))))))),[(.cell true 4 2),(.tmp 3)]⟩
attribute [push_cast] Dd Dc Db Da CZ CY CX CW CV CU xu
theorem fu:ah1 58=ah2 bG:=ah5
def CT:LSO:=[A3 1 0,Bk 2,Al 3]
def CS:LSO:=[Ad 18 2 1,Ac 19 1 18,Aa 4 19]
def CR:LSO:=[Aa 20 4,Af 21 20,AI 22 21 2,Aa 23 22,.grp none 23 false
 [Ah 24 23 4,AH 25 23 24,AD 26 23 25 4]
 27 (tm 26)]
def CQ:LSO:=[Bl 28,Ai 4 2 28,Al 3]
def CP:LSO:=[Aa 30 4,B4 31 3 30 0,Ad 32 1 31,Ac 33 1 32,Ag 34 117 33,Aa 29 34,Am 35 29,Ap 36 29,Aa 5 35,Aa 6 36]
def CO:LSO:=[Aa 37 6,A6 38 37]
def CN:LSO:=[Bl 39,Ai 4 2 39,Al 3]
def At:LSO:=[Aa 40 5,o1 41 (.build [(.int .i64 0),(.sl [] 0 (some 0)),(.sl [] 0 (some 0)),(.sl [] 0 (some 0))] [(0,(1,(tm 40)))]),Bk 7,Ai 4 7 41]
def z8:LSO:=[Ab 8 0,Ab 9 0]
def z7:LSO:=[Aa 43 4,B4 44 3 43 1,Ad 45 1 44,Ac 46 1 45,Ag 47 118 46,Aa 42 47,Am 48 42,Ap 49 42,Ad 50 1 7,Ai 1 50 48,Aa 8 49]
def xf:LSO:=[Aa 51 4,o1 52 (.slV 3 (tm 51) (some (iv 2)) none none),Aa 10 52]
def xe:LSO:=[Ad 53 0 7,Ac 54 1 53,A0 55 54 4,Aa 56 55,.grp none 56 true
 [An 57 56 10,Bn 58 56 57,og 59 56 true (.bin .gtr (tm 58) (iv 0))]
 60 (tm 59)]
def xd:LSO:=[Aa 62 10,B4 63 3 62 0,Ad 64 1 63,Ac 65 1 64,Ag 66 118 65,Aa 61 66,Am 67 61,Ap 68 61,Ad 69 2 7,Ai 1 69 67,Aa 9 68]
def xc:LSO:=[Aa 70 10,o1 71 (.slV 3 (tm 70) (some (iv 1)) none none),Aa 10 71]
def xb:LSO:=[Aa 72 8,Ay 73 72 0,Aa 74 73,.grp none 74 false
 [Ah 75 74 9,BS 76 74 75 0]
 77 (tm 76),Aa 78 77,.grp none 78 false
 [Ah 79 78 10,AH 80 78 79,AD 81 78 80 1]
 82 (tm 81)]
def xa:LSO:=[Bl 83,Ai 4 2 83,Al 3]
def wZ:LSO:=[Aa 84 10,Af 85 84,Ab 86 0]
def wY:LSO:=[Ao 87 86 85]
def wX:LSO:=[Ak 88 3 84 86,Az 89 3 88,AF 12,Ai 3 12 89]
def wW:LSO:=[Ad 90 2 12,Ac 91 1 90,Af 92 91,Ab 93 0]
def wV:LSO:=[Ao 94 93 92]
def wU:LSO:=[Ak 95 3 91 93,Az 96 3 95,AF 14,Ai 3 14 96]
def wT:LSO:=[Ad 97 2 14,Ac 98 1 97,Af 99 98,Ay 100 99 2]
def wS:LSO:=[Bl 101,Ai 4 2 101,Al 3]
def wR:LSO:=[Ad 102 2 14,Ac 103 1 102,B4 104 3 103 0,Ad 105 1 104,Ac 106 1 105,o1 107 (.build [(.str []),(.sl [] 0 (some 0))] [(0,(1,(tm 106)))]),Bu 15,Ai 2 15 107]
def wQ:LSO:=[Ad 108 2 14,Ac 109 1 108,B4 110 3 109 1,Ad 111 2 110,Ac 112 1 111,Af 113 112,Ab 114 0]
def wP:LSO:=[Ao 115 114 113]
def wO:LSO:=[Ak 116 3 112 114,Az 117 3 116,AF 17,Ai 3 17 117]
def wN:LSO:=[Ad 118 1 15,Ac 119 1 118,Ad 120 1 17,Ac 121 1 120,AN 122 121,Bi 123 119 122,Ad 124 1 15,Ai 1 124 123]
def wM:LSO:=[Aj 125 114 1,Aa 114 125]
def wL:LSO:=[Ad 126 3 7,Ac 127 1 126,Az 128 2 15,o1 129 (.bslice false 2 1 [(.str []),(.sl [] 0 (some 0))] [(0,(2,(tm 128)))]),
 o1 130 (.app 1 2 40 [(.str []),(.sl [] 0 (some 0))] (tm 127) (tm 129)),Ad 131 3 7,Ai 1 131 130]
def wK:LSO:=[Aj 132 93 1,Aa 93 132]
def wJ:LSO:=[Aj 133 86 1,Aa 86 133]
def wI:LSO:=[Az 134 4 7,Ai 4 2 134,AC 3]
def cF:aI:=⟨135,(ahW CT [] (ahW CS Ce (.seq (ahW CR Cg (ahY 27 (.sreg CQ Cd))) (ahW CP Cy (.seq (ahW CO Cd (ahY 38 (.sreg CN Cd))) (ahW At Ce (ahW z8 [] (ahW z7 Cl (ahW xf Ce (.seq (ahW xe Cg (ahX 60 (ahW xd Cl (.sreg xc Ce)) .skip)) (.seq (ahW xb Ci (ahY 82 (.sreg xa Cd))) (.seq (ahW wZ [] (ahZ 0 (ahW wY [] (.seq (ah0 87 0) (.seq (.block 1 (ahW wX Ce (ahW wW Cp (ahZ 2 (ahW wV [] (.seq (ah0 94 2) (.seq (.block 3 (ahW wU Ce (.seq (ahW wT Cf (ahY 100 (.sreg wS Cd))) (ahW wR Ch (.seq (ahW wQ C9 (ahZ 4 (ahW wP [] (.seq (ah0 115 4) (.seq (.block 5 (ahW wO Ce (.sreg wN Cz))) (.sreg wM Cd)))))) (.sreg wL C4)))))) (.sreg wK Cd)))))))) (.sreg wJ Cd)))))) (ahW wI Cd .ret))))))))))))),[(.cell true 4 2),(.tmp 3)]⟩
attribute [push_cast] CT CS CR CQ CP CO CN At z8 z7 xf xe xd xc xb xa wZ wY wX wW wV wU wT wS wR wQ wP wO wN wM wL wK wJ wI
theorem iV:ah1 86=ah2 cF:=ah5
def uu:LSO:=[Ab 4 0,Ab 5 0]
def ur:LSO:=[Aa 10 0,AA 11 10]
def uq:LSO:=[Ab 4 0,Ab 5 1]
def uo:LSO:=[Aa 12 1,Af 13 12,Ab 14 0]
def um:LSO:=[Ao 15 14 13]
def ul:LSO:=[Aa 16 14,Ak 17 1 12 14,Ac 18 1 17,Aa 6 16,Aa 7 18]
def uj:LSO:=[Aa 20 7,Ag 21 58 20,Aa 19 21,Am 22 19,Ap 23 19,Bk 8,Ai 4 8 22,Aa 9 23]
def ui:LSO:=[Aa 24 9,Ay 25 24 0]
def uh:LSO:=[Aa 26 6,Aa 27 9,Aa 4 26,Aa 5 27]
def ug:LSO:=[Aa 28 0,Az 29 4 8,Ax 30 31 28 29,Ay 31 30 0]
def rR:LSO:=[Aa 32 6,Aa 4 32,Ab 5 4]
def rQ:LSO:=[Aj 33 14 1,Aa 14 33]
def rP:LSO:=[Aa 34 1,Af 35 34,Aa 4 35,Ab 5 0]
def ov:aI:=⟨36,(ahW uu [] (.seq (ahW ur Cd (ahY 11 (.sreg uq []))) (.seq (ahW uo [] (ahZ 0 (ahW um [] (.seq (ah0 15 0) (.seq (.block 1 (ahW ul Co (ahW uj Cm (.seq (ahW ui Cd (ahY 25 (.sreg uh Ct))) (ahW ug Cf (ahY 31 (.sreg rR Cj))))))) (.sreg rQ Cd)))))) (ahW rP Ct .ret)))),[(.tmp 4),(.tmp 5)]⟩
attribute [push_cast] uu ur uq uo um ul uj ui uh ug rR rQ rP
theorem JP:ah1 23=ah2 ov:=ah5
def Oj:LSO:=[Aq 4]
def Oi:LSO:=[Aq 5]
def Oh:LSO:=[Aa 8 1,Aa 9 0,o1 10 (.bslice false 1 2 [(.sl [] 0 (some 0)),(.sl [] 0 (some 0))] [(0,(1,(tm 8))),(1,(1,(tm 9)))]),Ag 11 80 10,Af 12 11,Ab 13 0]
def Og:LSO:=[Ao 14 13 12]
def Of:LSO:=[Ak 15 1 11 13,Ac 16 1 15,Aa 7 16]
def Oe:LSO:=[Aa 17 5,Aa 18 7,o1 19 (.app 0 2 32 [(.str []),(.str [])] (.av (.sl [] 0 (some 0))) (tm 18)),Bc 20 19,By 21 17 20,Aa 5 21]
def Od:LSO:=[Aj 22 13 1,Aa 13 22]
def Oc:LSO:=[Aa 23 5,Aa 4 23]
def yP:aI:=⟨24,(ahW Oj [] (ahW Oi [] (.seq (ahW Oh [true,true,true,false,false,false] (ahZ 0 (ahW Og [] (.seq (ah0 14 0) (.seq (.block 1 (ahW Of Ce (.sreg Oe Ci))) (.sreg Od Cd)))))) (ahW Oc Cd .ret)))),[(.tmp 4)]⟩
attribute [push_cast] Oj Oi Oh Og Of Oe Od Oc
theorem Mn:aK Tryz.prog (λr i=>if r=5/\i=2 then 0 else 1) 50=some yP.raw:=ah5
def eA:LSO:=[Aq 2]
def ez:LSO:=[Ab 3 0]
def ev:LSO:=[Aa 9 0,Af 10 9,Ab 11 0]
def eu:LSO:=[Ao 12 11 10]
def eo:LSO:=[Ak 13 1 9 11,Ac 14 1 13,Aa 5 14]
def em:LSO:=[Aa 15 3,Aa 16 5,Af 17 16,AB 18 15 17,Aa 3 18]
def el:LSO:=[Aa 19 3,AI 20 19 0]
def ek:LSO:=[o1 21 (.mkif 9 (.av (.str [108,101,110,32,111,117,116,32,111,102,32,114,97,110,103,101]))),
 .op ⟨none,.bad,none⟩]
def eh:LSO:=[Aj 22 11 1,Aa 11 22]
def ef:LSO:=[Aa 23 3,o1 24 (.call 108 [(.av (.sl [] 0 (some 0))),(tm 23)]),Aa 6 24]
def dK:LSO:=[Aa 25 0,Af 26 25,Ab 27 0]
def dJ:LSO:=[Ao 28 27 26]
def dI:LSO:=[Ak 29 1 25 27,Ac 30 1 29,Aa 8 30]
def dH:LSO:=[Aa 31 6,Aa 32 8,By 33 31 32,Aa 6 33]
def dG:LSO:=[Aj 34 27 1,Aa 27 34]
def dF:LSO:=[Aa 35 6,Aa 2 35]
def cB:aI:=⟨36,(ahW eA [] (ahW ez [] (.seq (ahW ev [] (ahZ 0 (ahW eu [] (.seq (ah0 12 0) (.seq (.block 1 (ahW eo Ce (ahW em Cg (ahW el Cd (ahX 20 (.sreg ek [false]) .skip))))) (.sreg eh Cd)))))) (ahW ef Ce (.seq (ahW dK [] (ahZ 2 (ahW dJ [] (.seq (ah0 28 2) (.seq (.block 3 (ahW dI Ce (.sreg dH Cf))) (.sreg dG Cd)))))) (ahW dF Cd .ret)))))),[(.tmp 2)]⟩
attribute [push_cast] eA ez ev eu eo em el ek eh ef dK dJ dI dH dG dF
theorem kI:ah1 80=ah2 cB:=ah5
def Ko:LSO:=[AK 2,Ab 3 0]
def Kn:LSO:=[Aa 7 0,Ag 8 35 7,Aa 6 8,Am 9 6,Ap 10 6,Aa 4 9,Aa 5 10]
def Km:LSO:=[Aa 11 5,Ay 12 11 0]
def Kl:LSO:=[Aa 13 5,AK 2,Aa 3 13]
def Kk:LSO:=[Aa 14 0,Af 15 14,A0 16 15 0]
def Kj:LSO:=[AK 2,Ab 3 2]
def Ki:LSO:=[Aa 17 0,B5 18 50 17,
 .op ⟨(some 19),.mkmap,none⟩,
 .op ⟨(some 20),.mkmap,none⟩,o1 21 (.build [(.sl [] 0 (some 0)),.nilmap,.nilmap,(.int .i64 0)] [(0,(1,(tm 18))),(1,(1,(tm 19))),(2,(1,(tm 20))),(3,(1,(iv 0)))]),A3 22 21,
 o1 23 (.build [.nilptr] [(0,(1,(tm 22)))]),A3 24 23,Aa 2 24,Ab 3 0]
def jU:aI:=⟨25,(ahW Ko [] (.seq (ahW Kn Ch (ahW Km Cd (ahY 12 (.sreg Kl Cj)))) (.seq (ahW Kk Ce (ahY 16 (.sreg Kj []))) (ahW Ki Cy .ret)))),[(.tmp 2),(.tmp 3)]⟩
attribute [push_cast] Ko Kn Km Kl Kk Kj Ki
theorem wb:ah1 21=ah2 jU:=ah5
def wH:LSO:=[A3 3 1,Ab 4 0]
def wG:LSO:=[Aa 17 0,AA 18 17]
def wF:LSO:=[Ab 4 1]
def wD:LSO:=[Aa 19 0,Ae 20 19,Ad 21 0 20,Ac 22 1 21,Az 23 4 3,Ax 24 13 22 23,Aa 5 24]
def wC:LSO:=[Aa 25 5,Ay 26 25 0]
def wB:LSO:=[Aa 27 5,Aa 4 27]
def wz:LSO:=[Aa 28 0,Ae 29 28,Ad 30 0 29,Ac 31 1 30,Ad 32 1 3,Ac 33 1 32,Ax 34 26 31 33,Aa 6 34]
def wy:LSO:=[Ad 35 0 3,Ac 36 1 35]
def wx:LSO:=[A0 38 36 1,Aa 37 38]
def ww:LSO:=[Aa 39 0,Ae 40 39,Ad 41 0 40,Ac 42 1 41,Ae 43 42,Ad 44 3 43,Ac 45 1 44,Aj 46 45 1,Ae 47 42,Ad 48 3 47,Ai 1 48 46]
def tX:List (aj×Kd):=
 [Ar 49 0,A1 50 49 0 1,As 51 0 50,Au 52 1 51 0 1,A1 53 52 0 1,As 54 1 53,Au 55 1 54 0 1,Ar 56 0,A1 57 56 0 1,As 58 0 57,Au 59 1 58 0 1,A1 60 59 0 1,As 61 3 60,Au 62 1 61 0 1,
 As 63 3 3,Au 64 1 63 0 0,AM 65 68 64 0 0,od 66 (.build [(.sl [] 0 (some 0)),(.sl [] 0 (some 0)),(.sl [] 0 (some 0)),(.int .i64 0)] [(2,(1,(tm 65)))]) .pure,
 od 67 (.box (tm 66)) .eff]
def rC:List aj :=
 [⟨none,(.mset .int (tm 55) (tm 62) (tm 67)),none⟩]
def tW:List (aj×Kd):=
 [Ar 68 0,Ar 69 0,A1 70 69 0 0,As 71 0 70,Au 72 1 71 0 0,A1 73 72 0 0,As 74 3 73,Au 75 1 74 0 0,As 76 1 3,Au 77 1 76 0 0]
def rB:List aj :=
 [⟨(some 78),(.call 69 [(tm 68),(tm 75),(tm 77)]),none⟩]
def tV:LSO:=[Aa 79 0,Ad 80 1 3,Ac 81 1 80,Ba 82 70 79 81 1]
def tU:LSO:=[A0 84 36 2,Aa 83 84]
def tT:LSO:=[Ad 86 1 3,Ac 87 1 86,Ag 88 61 87,Aa 85 88,Am 89 85,Ap 90 85,Aa 7 89,Aa 8 90]
def tS:LSO:=[Aa 91 0,Ae 92 91,Ad 93 0 92,Ac 94 1 93,Ae 95 94,Ad 96 2 95,Ac 97 1 96,Aa 98 7,o0 (.mdel .str (tm 97) (tm 98))]
def tR:LSO:=[Aa 99 0,Ae 100 99,Ad 101 0 100,Ac 102 1 101,Ae 103 102,Ad 104 1 103,Ac 105 1 104,Aa 106 6,o0 (.mdel .int (tm 105) (tm 106))]
def tQ:LSO:=[Aa 107 0,Ad 108 1 3,Ac 109 1 108,Ba 110 70 107 109 (-1)]
def tP:LSO:=[A0 112 36 3,Aa 111 112]
def tO:List (aj×Kd):=
 [Ar 113 0,A1 114 113 0 0,As 115 0 114,Au 116 1 115 0 0,A1 117 116 0 0,As 118 1 117,Au 119 1 118 0 0,Ar 120 6,od 121 (.mget .int false .nilptr (tm 119) (tm 120)) (.read 0 0),
 As 122 3 3,Au 123 1 122 0 0,AM 124 68 123 0 0]
def rA:List aj :=
 [⟨(some 125),(.nilchk (tm 121)),none⟩,⟨(some 126),(.faddr 2 (tm 125)),none⟩,⟨none,(.store 1 (tm 126) (tm 124)),none⟩]
def tN:LSO:=[A0 128 36 4,Aa 127 128]
def tM:LSO:=[Aa 129 0,Ae 130 129,Ad 131 0 130,Ac 132 1 131,Aa 133 6,Ba 134 32 132 133 2,Aa 9 134]
def tL:LSO:=[Aa 135 9,Af 136 135,Ab 137 0]
def tK:LSO:=[Ao 138 137 136]
def tJ:LSO:=[Ak 139 1 135 137,Ac 140 1 139,Aa 11 140]
def tI:LSO:=[Aa 142 0,Ae 143 142,Ad 144 0 143,Ac 145 1 144,Ae 146 145,Ad 147 1 146,Ac 148 1 147,Aa 149 11,AX 150 148 149,Ae 151 150,Ad 152 0 151,Ac 153 1 152,
 Ag 154 61 153,Aa 141 154,Am 155 141,Ap 156 141,Aa 12 155,Aa 13 156]
def tH:LSO:=[Aa 157 0,Ae 158 157,Ad 159 0 158,Ac 160 1 159,Ae 161 160,Ad 162 2 161,Ac 163 1 162,Aa 164 12,o0 (.mdel .str (tm 163) (tm 164))]
def tG:LSO:=[Aj 165 137 1,Aa 137 165]
def tF:LSO:=[Aa 166 0,Ad 167 1 3,Ac 168 1 167,Ba 169 70 166 168 (-1)]
def tE:LSO:=[Aa 170 9,Af 171 170,Ab 172 0]
def tD:LSO:=[Ao 173 172 171]
def tC:LSO:=[Ak 174 1 170 172,Ac 175 1 174,Aa 15 175]
def tB:LSO:=[Aa 176 0,Ae 177 176,Ad 178 0 177,Ac 179 1 178,Ae 180 179,Ad 181 1 180,Ac 182 1 181,Aa 183 15,AX 184 182 183,Ae 185 184,Ad 186 0 185,Ac 187 1 186,
 Aa 16 187]
def tz:List (aj×Kd):=
 [Ar 188 0,Ar 189 15,As 190 2 3,Au 191 1 190 0 0,Ar 192 16,Ar 193 16,Ca 194 193 0 0,As 195 1 3,Au 196 1 195 0 0,Ca 197 196 0 0,od 198 (.bin .sub (tm 194) (tm 197)) .pure,
 od 199 (.slV 1 (tm 192) none (some (tm 198)) none) (.read 0 0),od 200 (.call 50 [(tm 191),(tm 199)]) (.read 0 0)]
def rz:List aj :=
 [⟨(some 201),(.call 69 [(tm 188),(tm 189),(tm 200)]),none⟩]
def tx:LSO:=[Aj 202 172 1,Aa 172 202]
def tv:LSO:=[Aa 203 0,Ad 204 2 3,Ac 205 1 204,Ba 206 70 203 205 1]
def tu:List (aj×Kd):=
 [Ar 207 0,A1 208 207 0 0,As 209 0 208,Au 210 1 209 0 0,A1 211 210 0 0,As 212 1 211,Au 213 1 212 0 0,Ar 214 6,od 215 (.mget .int false .nilptr (tm 213) (tm 214)) (.read 0 0),
 As 216 3 3,Au 217 1 216 0 0,AM 218 68 217 0 0]
def ry:List aj :=
 [⟨(some 219),(.nilchk (tm 215)),none⟩,⟨(some 220),(.faddr 2 (tm 219)),none⟩,⟨none,(.store 1 (tm 220) (tm 218)),none⟩]
def tt:LSO:=[Ab 4 0]
def bv:aI:=⟨221,(ahW wH [] (.seq (ahW wG Cd (ahY 18 (.sreg wF []))) (.seq (.sdreg wD [.pure,(.read 0 0),.pure,(.read 0 0),(.read 0 0)] Ch) (.seq (ahW wC Cd (ahY 26 (.sreg wB Cd))) (.seq (.sdreg wz [.pure,(.read 0 0),.pure,(.read 0 0),.pure,(.read 0 0)] Ck) (.seq (ahW wy Cd (.block 0 (ahW wx Cd (ahX 37 (ahW ww CF (.seq (.dregM tX rC CL) (.seq (.dregM tW rB CK) (.sreg tV Cq)))) (ahW tU Cd (ahX 83 (ahW tT CE (ahW tS C1 (ahW tR C1 (.sreg tQ Cq)))) (ahW tP Cd (ahX 111 (.dregM tO rA CB) (ahW tN Cd (ahX 127 (ahW tM Ch (.seq (ahW tL [] (ahZ 1 (ahW tK [] (.seq (ah0 138 1) (.seq (.block 2 (ahW tJ Ce (ahW tI [false,true,false,false,false,false,false,false,false,false,false,false,false,false,false,false,false,false] (.sreg tH C1)))) (.sreg tG Cd)))))) (ahW tF Cq (.seq (ahW tE [] (ahZ 3 (ahW tD [] (.seq (ah0 173 3) (.seq (.block 4 (ahW tC Ce (ahW tB CA (.dregM tz rz CB)))) (.sreg tx Cd)))))) (ahW tv Cq (.dregM tu ry CB)))))) .skip)))))))))) (ahW tt [] .ret))))))),[(.tmp 4)]⟩
attribute [push_cast] wH wG wF wD wC wB wz wy wx ww tX rC tW rB tV tU tT tS tR tQ tP tO rA tN tM tL tK tJ tI tH tG tF tE tD tC tB tz rz tx tv tu ry tt
theorem eD:ah1 31=ah2 bv:=ah5
def ru:LSO:=[A3 3 1,Ab 4 0]
def rr:LSO:=[Aa 8 0,AA 9 8]
def rq:LSO:=[Ab 4 1]
def rp:LSO:=[Aa 10 0,Ad 11 1 3,Ac 12 1 11,Ax 13 26 10 12,Aa 5 13]
def rl:LSO:=[Ad 14 0 3,Ac 15 1 14]
def rk:LSO:=[A0 17 15 1,Aa 16 17]
def rj:LSO:=[Ad 19 1 3,Ac 20 1 19,Ag 21 35 20,Aa 18 21,Am 22 18,Ap 23 18,Aa 6 22,Aa 7 23]
def ri:LSO:=[Aa 25 7,Ay 26 25 0,Aa 24 26]
def rh:LSO:=[Ab 4 34]
def rg:LSO:=[Aa 28 5,A9 29 28 0,Aa 27 29]
def pu:LSO:=[Ab 4 68]
def pt:LSO:=[Aa 31 0,Ad 32 1 3,Ac 33 1 32,Aa 34 0,Ae 35 34,Ad 36 0 35,Ac 37 1 36,AZ 38 36 31 33 37,A6 39 38,Aa 40 39,.grp none 40 true
 [AT 41 40 1 3,AO 42 40 1 41,Bn 43 40 42,AY 44 40 43 0,An 45 40 44,.grp (some (40,true)) 45 false
 [Ah 46 45 0,A7 47 45 1 3,A4 48 45 1 47,og 49 45 false (.slV 1 (tm 48) (some (iv 1)) none none),Cb 50 45 26 46 49,Bo 51 45 50 0]
 52 (tm 51)]
 53 (tm 52),Aa 30 53]
def pr:LSO:=[Ab 4 32]
def pq:LSO:=[Aa 55 0,Ae 56 55,Ad 57 1 56,Ac 58 1 57,o1 59 (.mlen (tm 58)),Bd 60 59 4096,Aa 54 60]
def pn:LSO:=[Ab 4 80]
def pm:LSO:=[Ab 4 0]
def pl:LSO:=[A0 62 15 2,Aa 61 62]
def pk:LSO:=[A0 63 15 3,Aa 61 63]
def pj:LSO:=[A0 64 15 4,Aa 61 64]
def ph:LSO:=[Aa 65 5,A0 66 65 0]
def pg:LSO:=[Ab 4 32]
def pf:LSO:=[Ad 67 0 3,Ac 68 1 67]
def pd:LSO:=[A0 70 68 2,Aa 69 70]
def pc:LSO:=[Aa 71 0,Ae 72 71,Ad 73 1 72,Ac 74 1 73,Aa 75 5,AX 76 74 75,Ae 77 76,Ad 78 3 77,Ac 79 1 78,A9 80 79 0]
def o9:LSO:=[Ab 4 66]
def o8:LSO:=[Ab 4 0]
def o7:LSO:=[A0 82 68 3,Aa 81 82]
def o6:LSO:=[Ab 4 0]
def o5:LSO:=[A0 84 68 4,Aa 83 84]
def o4:LSO:=[Aa 85 0,Aa 86 5,Az 87 4 3,AZ 88 37 85 86 87,Aa 4 88]
def o3:LSO:=[Ab 4 1]
def aq:aI:=⟨89,(ahW ru [] (.seq (ahW rr Cd (ahY 9 (.sreg rq []))) (ahW rp Cg (.seq (ahW rl Cd (.block 0 (ahW rk Cd (ahX 16 (ahW rj Ck (.seq (.block 1 (ahW ri Ce (ahX 24 (ahW rh [] .ret) (ahW rg Ce (ahX 27 (ahW pu [] .ret) (.seq (.sdreg pt [.pure,.pure,(.read 0 0),.pure,(.read 0 0),.pure,(.read 0 0),(.read 0 0),.pure,.pure,.pure,(.read 0 0),(.read 0 0),.pure,.pure,.pure,.pure,(.read 0 0),(.read 0 0)] CI) (ahX 30 (ahW pr [] .ret) (ahW pq Ch (ahY 54 (.sreg pn [])))))))))) (ahW pm [] .ret))) (.seq (ahW pl Cd (ahX 61 .skip (ahW pk Cd (ahX 61 .skip (.sreg pj Cd))))) (ahX 61 (ahW ph Cd (ahY 66 (.sreg pg []))) .skip)))))) (.seq (ahW pf Cd (.block 2 (ahW pd Cd (ahX 69 (.seq (ahW pc Cl (ahY 80 (.sreg o9 []))) (ahW o8 [] .ret)) (ahW o7 Cd (ahX 81 (ahW o6 [] .ret) (ahW o5 Cd (ahY 83 (.sreg o4 Cg))))))))) (ahW o3 [] .ret)))))),[(.tmp 4)]⟩
attribute [push_cast] ru rr rq rp rl rk rj ri rh rg pu pt pr pq pn pm pl pk pj ph pg pf pd pc o9 o8 o7 o6 o5 o4 o3
theorem aG:ah1 13=ah2 aq:=ah5
def rf:LSO:=[Ab 4 0]
def re:LSO:=[Aa 7 0,AA 8 7]
def rd:LSO:=[Ab 4 0]
def ra:LSO:=[Aa 10 1,Ag 11 61 10,Aa 9 11,Am 12 9,Ap 13 9,Aa 5 12,Aa 6 13]
def q9:LSO:=[Aa 14 6,Ay 15 14 0]
def q0:LSO:=[Ab 4 0]
def qZ:LSO:=[Aa 16 0,Ae 17 16,Ad 18 2 17,Ac 19 1 18,Aa 20 5,o1 21 (.mget .str false (.int .i64 0) (tm 19) (tm 20)),Aa 4 21]
def aS:aI:=⟨22,(ahW rf [] (.seq (ahW re Cd (ahY 8 (.sreg rd []))) (ahW ra Cm (.seq (ahW q9 Cd (ahY 15 (.sreg q0 []))) (ahW qZ Ch .ret))))),[(.tmp 4)]⟩
attribute [push_cast] rf re rd ra q9 q0 qZ
theorem bX:ah1 26=ah2 aS:=ah5
def D4:LSO:=[A3 1 0,Al 2]
def D2:LSO:=[Ad 9 1 1,Ac 10 1 9,Ad 11 2 1,Ac 12 1 11,o1 13 (.bslice false 1 2 [(.sl [] 0 (some 0)),(.sl [] 0 (some 0))] [(0,(1,(tm 10))),(1,(1,(tm 12)))]),Af 14 13,
 Ab 15 0]
def D0:LSO:=[Ao 16 15 14]
def DZ:LSO:=[Ak 17 1 13 15,Ac 18 1 17,Aa 4 18]
def DY:LSO:=[Aa 19 4,Af 20 19,A9 21 20 40]
def DX:LSO:=[Al 2]
def DW:LSO:=[Aa 22 4,Af 23 22,Ab 24 0]
def DV:LSO:=[Ao 25 24 23]
def DU:LSO:=[Ak 26 1 22 24,Ac 27 1 26,Aa 6 27]
def DT:LSO:=[Aa 28 6,Af 29 28,Ab 30 0]
def xM:LSO:=[Ao 31 30 29]
def xL:LSO:=[Ak 32 2 28 30,Az 33 2 32,BG 8,Ai 2 8 33]
def xK:LSO:=[Aa 34 6,Af 35 34,A9 36 35 10,Aa 37 36,.grp none 37 false
 [A7 38 37 1 8,A4 39 37 1 38,Bw 40 37 39,AD 41 37 40 5000]
 42 (tm 41)]
def xJ:LSO:=[Al 2]
def xI:LSO:=[Aj 43 30 1,Aa 30 43]
def xH:LSO:=[Aj 44 24 1,Aa 24 44]
def xG:LSO:=[Aj 45 15 1,Aa 15 45]
def xF:LSO:=[Ad 46 3 1,Ac 47 1 46,Ag 48 27 47,Aa 2 48]
def wl:aI:=⟨49,(ahW D4 [] (.seq (ahW D2 C9 (ahZ 0 (ahW D0 [] (.seq (ah0 16 0) (.seq (.block 1 (ahW DZ Ce (.seq (ahW DY Ce (ahY 21 (.sreg DX []))) (ahW DW [] (ahZ 2 (ahW DV [] (.seq (ah0 25 2) (.seq (.block 3 (ahW DU Ce (ahW DT [] (ahZ 4 (ahW xM [] (.seq (ah0 31 4) (.seq (.block 5 (ahW xL Ce (ahW xK Cg (ahY 42 (.sreg xJ []))))) (.sreg xI Cd)))))))) (.sreg xH Cd))))))))) (.sreg xG Cd)))))) (ahW xF Cf .ret))),[(.tmp 2)]⟩
attribute [push_cast] D4 D2 D0 DZ DY DX DW DV DU DT xM xL xK xJ xI xH xG xF
theorem Ng:ah1 10=ah2 wl:=ah5
attribute [push_cast] bG cF ov yP cB jU bv aq aS wl
open Go Go.Sort Go.Proofs
variable {L:List Blk}{K:aeX}
set_option maxHeartbeats 8000000
set_option maxRecDepth 100000
theorem UT(z:Array Value):∀k,(Builtin.zeroCells z k).size=k*z.size:=by intro k;simp[Builtin.zeroCells]
theorem ZN:∃a,Tryz.prog.info? 74=some a/\a.zero=some (.slice none 0 0)/\a.size=1/\a.bytes=24:=by
 have h:(Tryz.prog.info? 74).map (λi=>(i.zero,i.size,i.bytes))=some (some (.slice none 0 0),1,24):=ah5;cases hi:Tryz.prog.info? 74 with
 |none=>rw[hi]at h;cases h
 | some a =>
   rw[hi]at h;simp only[afi,aeZ,afb]at h;exact⟨a,rfl,h⟩
theorem ZS{L:List Blk}{K:aeX}(h:K (.sl [] 0 (some 0)) L):aeW 108 [.sl [] 0 (some 0),.int .i64 0] L K :=
 iN Tryz.func108 rfl ah5 (λw0 S0 E w vs k a=>by simp only[VRL]at a;obtain⟨v,_,rfl,a,_,_,rfl,d,rfl⟩:=a;have b:=a;simp only[VR]at a d;obtain⟨p,c,rfl,_,j,_⟩:=a;have g:c=0:=j 0 rfl;subst g;subst d;exact(Any8.slices_Grow_room Tryz.growD p 0 0 0 w (ae0 _) ah3 ah3 ah3).mono λe w' ⟨f,i⟩=>⟨_,f,b,by subst i;exact QZ.refl _⟩) h
theorem abV{n:Nat}(z:0<n)(A:n<=4000000)(h:K (.lsl L.length 0 0 none 1) (L++[.cells []])):aeW 108 [.sl [] 0 (some 0),.int .i64 (n:Int)] L K:=λw0 S0 E w vs x f=>by
 simp only[VRL,VR]at f;obtain⟨_,_,rfl,⟨p,c,rfl,_,t,_⟩,_,_,rfl,rfl,rfl⟩:=f;have s:c=0:=t 0 rfl;subst s;obtain⟨m,g,q,B,y⟩:=ZN;refine .inl ⟨jJ Tryz.func108 rfl ah5 _ _,(Any8.slices_Grow_grow Tryz.growD m (.slice none 0 0) g q ah3 p 0 0 n [] w (ae0 _) ah3 (by rw[y];omega) ah3 ah4 (λ_=>rfl) (λa _ j v u=>by simp at u)).mono ?_⟩;rintro e w' ⟨rfl,rfl⟩;have r:Rel w0 S0 E L w.drew:=x.grown ⟨λ_ _=>rfl,ae0 _,rfl,rfl,rfl⟩
 let cs:Array Value:=([]:List Value).toArray++Builtin.zeroCells (Value.slice none 0 0).cells (0+n-0)++Builtin.zeroCells (Value.slice none 0 0).cells (grownCap w (0+n) 0 74-(0+n))
 have b:cs.size=n+(grownCap w (0+n) 0 74-n):=by simp only[cs,Array.size_append,UT];have:(Value.slice none 0 0).cells.size=1:=rfl;rw[this];simp
 have d:=r.push (.cells cs 74) (.cells []) ⟨w.heap.size,0,cs.size⟩ rfl rfl ⟨⟨w.heap.size,0,cs.size⟩,cs,74,(0,0),ah4,(show(w.heap.push (Obj.cells cs 74))[w.heap.size]?=some (Obj.cells cs 74 (0,0))by simp),rfl,ah4,(λj a l=>by simp at l),λo _ _=>ah3⟩;refine⟨_,_,_,_,rfl,d.1,h,?_,d.2⟩;simp only[VR];exact⟨⟨w.heap.size,0,cs.size⟩,grownCap w (0+n) 0 74,0,ah4,rfl,λ_=>rfl,ae5 _,(λk i=>by cases i),by simp only[b];omega⟩
abbrev Q5(l:List AV):AV:=.sl l l.length none
theorem abu{ls:List (List AV)}{k:Nat}(h:k<ls.length):(ls.map Q5).getD k .undef=Q5 (ls.getD k []):=by simp[h]
theorem VS{ls:List (List AV)}{k:Nat}(h:k<ls.length):(ls.take (k+1)).flatten=(ls.take k).flatten++ls.getD k []:=by rw[afs h,List.flatten_append];simp[h]
theorem Z4(ls:List (List AV))(k:Nat):(ls.take k).flatten.length<=ls.flatten.length:=by
 have h:ls.flatten=(ls.take k).flatten++(ls.drop k).flatten:=by rw[<- List.flatten_append,ago]
 rw[h];simp
theorem RZ{ls:List (List AV)}{cap:Option Nat}(P:ls.length<=1100000)(J:ls.flatten.length<=1100000)(d:∀l∈ls,l.all AV.one=true)(g:∀p,AV.refsL p ls.flatten=true){L:List Blk}{K:aeX}(h:K (.sl ls.flatten ls.flatten.length none) L):
  aeW 80 [.sl (ls.map Q5) ls.length cap] L K:=by
 replace h:=hid h;have A:=hid (λk=>@VS ls k);have x:=hid (Z4 ls);have v:=hid (λk=>@abu ls k);replace d:=hid d;replace g:=hid g;refine aeV kI ?_;refine ao (λn T' L'=>∃k:Nat,n=ls.length-k/\k<=ls.length/\T'=[(11,.int .i64 (k:Int)),(10,.int .i64 ls.length),(9,.sl (ls.map Q5) ls.length cap),(3,.int .i64 ((ls.take k).flatten.length:Int)),(2,.sl [] 0 (some 0)),(0,.sl (ls.map Q5) ls.length cap)]/\L=L') (CutS (b:=ae0 _)) ⟨0,rfl,ae5 _,rfl,rfl⟩ ?_;rintro _ _ _ ⟨k,rfl,C,rfl,rfl⟩;by_cases a:k<ls.length;have g1:(k:Int)<(ls.length:Int):=ah3;have H:=aeU k ah3;have f:=A.o k a;have w:=v.o k a;have q:=x.o (k+1);obtain⟨l,s⟩:=aeS (ls.getD k []);rw[s]at f w;have B:(ls.take (k+1)).flatten.length=(ls.take k).flatten.length+l.length:=by rw[f,afc]
 rw[B]at q;obtain⟨m,r⟩:=aeS ((ls.take k).flatten.length);rw[r]at q B⊢;replace f:=hid f;replace r:=hid r;replace s:=hid s;have g3:IntKind.i64.wrap ((m:Int)+(l.length:Int))=(m:Int)+(l.length:Int):=ae ah3 ah3;have g4:¬((m:Int)+(l.length:Int)<0):=ah3;refine wk ?_;exact ah8 ah3 (CutL (b:=ae0 _)) ⟨k+1,rfl,a,rfl,rfl⟩;have j:k=ls.length:=ah3;subst j;clear a C;have g1:¬(ls.length:Int)<(ls.length:Int):=ah3;obtain⟨m,r⟩:=aeS (ls.flatten.length);rw[afo,r];rw[r]at h J;rcases agf m with M|y;subst M;have t:=hid (afK.1 r);have kk1:=@hid _ @ZS;refine wk ?_;refine cG (l:=[]) (n:=0) 6 1 rfl (afD 1).symm ?_;refine ao (λn T' L'=>∃k:Nat,n=ls.length-k/\k<=ls.length/\T'=[(27,.int .i64 (k:Int)),(26,.int .i64 ls.length),(25,.sl (ls.map Q5) ls.length cap),(6,.gsl [] 0 L.length 1)]/\L'=L++[.spare 0 1]) ah7 ⟨0,rfl,ae5 _,rfl,rfl⟩ ?_;rintro _ _ _ ⟨k,rfl,C,rfl,rfl⟩;by_cases a:k<ls.length;have g1:(k:Int)<(ls.length:Int):=ah3;have H:=aeU k ah3;have w:=v.o k a;have q:ls.getD k []=[]:=List.flatten_eq_nil_iff.1 t.o _ (by rw[afh,afn a];exact age _);rw[q]at w;replace w:(ls.map Q5).getD k .undef=.sl [] 0 none:=w;clear q;refine wk ?_;exact ah8 ah3 ah6 ⟨k+1,rfl,a,rfl,rfl⟩;have j:k=ls.length:=ah3;subst j;have g1:¬(ls.length:Int)<(ls.length:Int):=ah3;refine wk ?_;refine aB (af (by rfl) ?_);have:=h.o;rw[t.o]at this;exact this;have kk1:=@hid _ (λL K=>abV y ah3 (K:=K) (L:=L));refine wk ?_;refine ao (λn T' L'=>∃(k i:Nat) (X:List Blk) (c:List AV),n=ls.length-k/\k<=ls.length/\Hid (c=(ls.take k).flatten)/\c.length<=m/\i=L.length+X.length/\T'=[(27,.int .i64 (k:Int)),(26,.int .i64 ls.length),(25,.sl (ls.map Q5) ls.length cap),(6,.lsl i 0 c.length none 1)]/\L'=L++(X++[.cells c])) ah7 ⟨0,L.length,[],[],rfl,ae5 _,hid rfl,ae5 _,rfl,rfl,rfl⟩ ?_;rintro _ _ _ ⟨k,i,X,c,rfl,C,F,I,u,rfl,rfl⟩;have z:(L++(X++[Blk.cells c]))[i]?=some (.cells c):=by subst u;simp
 replace u:=hid u;by_cases a:k<ls.length;have g1:(k:Int)<(ls.length:Int):=ah3;have H:=aeU k ah3;have f:=A.o k a;have w:=v.o k a;have q:=x.o (k+1);obtain⟨l,s⟩:=aeS (ls.getD k []);have E:l.all AV.one=true:=d.o l (by rw[<- s];simp[a]);rw[s]at f w;rw[<- F.o]at f;have B:c.length+l.length<=m:=by rw[f,afc,r]at q;exact q
 have Q:(c.length+l.length)*24<=140737488355328:=ah3;have O:c.length+l.length<=140737488355328:=ah3;replace f:=hid f;replace s:=hid s;clear q;have D:(L++(X++[Blk.cells c])).set i .dead=L++(X++[.dead]):=by rw[u.o];simp
 have G:(L++(X++[Blk.dead])).length=i+1:=by rw[u.o];simp;omega
 refine wk ?_;refine ah8 ?_ ah6 ⟨k+1,i+1,X++[.dead],c++l,rfl,a,hid f.o.symm,by simpa using B,by rw[u.o];simp;omega,rfl,?_⟩;omega;simp[afu];have j:k=ls.length:=ah3;subst j;have g1:¬(ls.length:Int)<(ls.length:Int):=ah3;refine wk ?_;refine GX (i:=i) (l:=c) z ?_;rw[show(L++(X++[Blk.cells c])).set i .dead=L++(X++[.dead])by rw[u.o];simp];have e:=F.o;rw[afo]at e;have N:(AV.lsl i 0 c.length none 1).snap i c=.sl c c.length none:=by simp[AV.snap,afu]
 rw[N,e,r];exact af (by simp only[AV.refs,g.o]) h.o
theorem MP{d:List Rdn}{cap e:Option Nat}(w:d.length<=1100000)(hr:∀r∈d,r.length<=1100000)(h:K (.sl (d.map aH) d.length none) L):
  aeW 50 [.sl (d.map aH) d.length cap,.sl [] 0 e] L K:=by
 replace h:=hid h;have j:=hid (λk=>@yW d k);replace hr:=hid hr;have kk1:Hid (Ctr Tryz.prog 80 [.sl [.sl [] 0 e,.sl (d.map aH) d.length cap] 2 (some 2)] (.sl (d.map aH) d.length none)):=@hid _ (by
  intro L K q;refine cL ?_;simp only[AV.frzL,AV.frz,ce];have:=@RZ [[],d.map aH] none ah4 (by simpa using w) (λl t=>by simp at t;rcases t with rfl|rfl;rfl;rw[afd];intro a v;obtain⟨r,_,rfl⟩:=ae1.1 v;rfl) (λp=>by simpa using fb p d) L K
  simp only[ahE,ahF,afq,afH,afe,afQ,ae6,afF,afg,Q5]at this;exact this q)
 refine aeV Mn ?_;refine cG (l:=[]) (n:=0) 5 1 rfl (afD 1).symm ?_;refine ao (λm T' L'=>∃(k:Nat) (C:List AV) (X:List Blk),m=d.length-k/\k<=d.length/\Hid (C=(d.take k).map aH)/\T'=[(13,.int .i64 (k:Int)),(12,.int .i64 d.length),(11,.sl (d.map aH) d.length none),(5,.gsl C k L.length 1)]/\L'=L++(.spare k 1::X)) ah7 ⟨0,[],[],rfl,ae5 _,hid rfl,rfl,ah4⟩ ?_;rintro _ _ _ ⟨k,C,X,rfl,y,i,rfl,rfl⟩;by_cases b:k<d.length;have g1:(k:Int)<(d.length:Int):=ah3;have B:=aeU k ah3;have x:=j.o k b;have A:k<(d.map aH).length:=by simpa using b
 obtain⟨r,c⟩:=aeS (d.getD k []);have u:=hr.o r (by rw[<- c];simp[b]);have f:(d.take (k+1)).map aH=C++[.sl (bQ r) r.length none]:=by rw[i.o,afs b,afk,show d[k]=r by rw[<- c];simp[b]];rfl
 rw[c]at x;have z:=yQ r;have D:=iW r;replace f:=hid f;clear c i;refine wk ?_;exact ah8 ah3 ah6 ⟨k+1,_,_,rfl,b,hid f.o.symm,rfl,rfl⟩;have s:k=d.length:=ah3;subst s;have g1:¬(d.length:Int)<(d.length:Int):=ah3;have g:=i.o;rw[afo]at g;subst g;clear i;refine wk ?_;refine aB ?_;simp only[AV.frz,ce];exact af (by simp only[AV.refs,fb]) h.o
def smA(n:Nat)(a:Ava):Bool:=decide (n<=10)&&decide (a.2.length<=5000)
def smR(r:Rdn):Bool:=r.all (smA r.length)
def smD(d:List Rdn):Bool:=decide (d.length<=40)&&d.all smR
def smU(u:Upd):Bool:=smD u.dn&&(smD u.tw&&X8 u.attrs)
def XM(d:List Rdn):Prop:=(d.length:Int)<=9223372036854775807/\∀r∈d,(r.length:Int)<=9223372036854775807
theorem YZ(hd:XM u.dn)(ht:XM u.tw)(hl:(u.attrs.length:Int)<=9223372036854775807)(hz:∀a∈u.attrs,(a.2.length:Int)<=9223372036854775807)(h:K (.bool (smU u)) L):
  aeW 10 [.agg (cP u)] L K:=by
 obtain⟨k,d,t,l⟩:=u;simp only[cP,smU]at hd ht hl hz h⊢;obtain⟨J,G⟩:=aeS (X8 l);have kk1:Hid (Ctr Tryz.prog 27 [.sl (bj l) l.length none] (.bool J)):=@hid _ (by intro L K q;exact aei hl hz (by rw[G];exact q));rw[G]at h;obtain⟨g,y⟩:∃g,g=[d,t]:=⟨_,rfl⟩;obtain⟨R,Q⟩:=aeS ((g.all smD&&J));have N:(smD d&&(smD t&&J))=R:=by rw[<- Q,y];simp[ahH]
 rw[N]at h;replace h:=hid h;have a4:g.length=2:=by rw[y];rfl
 have F:∀x∈g,XM x:=λx D=>by rw[y]at D;simp at D;rcases D with rfl|rfl<;>assumption
 have v:AV.sl [dnA d,dnA t] 2 (some 2)=.sl (g.map dnA) 2 (some 2):=by rw[y];rfl
 replace F:=hid F;obtain⟨U,I⟩:∃U,U=[AV.int .i64 k,dnA d,dnA t,.sl (bj l) l.length none]:=⟨_,rfl⟩;have a7:U.getD 3 .undef=.sl (bj l) l.length none:=by rw[I];rfl
 have a5:U.length=4:=by rw[I];rfl
 clear G hz N hd ht;replace v:=hid v;replace I:=hid I;replace y:=hid y;refine aeV Ng ?_;rw[v.o,<- I.o];clear v;refine ao (λm T' L'=>∃(i:Nat) (X:List Blk),m=2-i/\i<=2/\Hid (((g.drop i).all smD&&J)=R)/\T'=[(15,.int .i64 (i:Int)),(14,.int .i64 2),(13,.sl (g.map dnA) 2 (some 2)),(1,.ptr L.length 0)]/\L'=L++(.cells U::X)) ah7 ⟨0,[],rfl,ah3,hid (by simpa using Q),rfl,ah4⟩ ?_;rintro _ _ _ ⟨i,X,rfl,hi,P,rfl,rfl⟩;by_cases ad:i<2;have g1:(i:Int)<2:=ah3;have g2:=aeU i ah3;obtain⟨x,D⟩:=aeS (g.getD i []);have A:i<g.length:=ah3;have M:=F.o x (by rw[<- D];simp[A]);have e2:(g.map dnA).getD i .undef=dnA x:=by rw[<- D];simp[A]
 have e3:i<(g.map dnA).length:=by simpa using A
 have n:g.drop i=x::g.drop (i+1):=by rw[afL A,<- D];simp[A]
 have f:=P.o;rw[n,af2]at f;obtain⟨S,H⟩:=aeS (((g.drop (i+1)).all smD&&J));rw[ahH,H]at f;clear P n D Q;by_cases a3:(40:Int)<(x.length:Int);have s:=h.o;rw[<- f,smD,decide_eq_false ah3]at s;replace s:=hid s;clear f H;refine wk ?_;exact af rfl s.o;have E:(x.all smR&&S)=R:=by rw[<- f,smD,decide_eq_true ah3,afU]
 have ap:x.length<=40:=ah3;have W:=hid M.2;clear f M;have ab:=hid (λk=>@yW x k);refine wk ?_;refine ao (λm T' L'=>∃(j:Nat) (Y:List Blk),m=x.length-j/\j<=x.length/\X.length<=Y.length/\Hid (((x.drop j).all smR&&S)=R)/\T'=[(24,.int .i64 (j:Int)),(23,.int .i64 x.length),(22,dnA x),(15,.int .i64 (i:Int)),(14,.int .i64 2),(13,.sl (g.map dnA) 2 (some 2)),(1,.ptr L.length 0)]/\L'=L++(.cells U::Y)) ah7 ⟨0,_,rfl,ah3,ae0 _,hid (by simpa using E),rfl,rfl⟩ ?_;rintro _ _ _ ⟨j,Y,rfl,hj,a1,O,rfl,rfl⟩;by_cases w:j<x.length;have j1:(j:Int)<(x.length:Int):=ah3;have j2:=aeU j ah3;have e4:=ab.o j w;have e5:j<(x.map aH).length:=by simpa using w
 obtain⟨r,hr⟩:=aeS (x.getD j []);have a2:=W.o r (by rw[<- hr];simp[w]);have n:x.drop j=r::x.drop (j+1):=by rw[afL w,<- hr];simp[w]
 rw[hr]at e4;have e:=O.o;rw[n,af2]at e;obtain⟨S2,C⟩:=aeS (((x.drop (j+1)).all smR&&S));rw[ahH,C,smR]at e;clear O n hr E;refine wk ?_;refine ao (λm T' L'=>∃(p:Nat) (Z:List Blk),m=r.length-p/\p<=r.length/\Y.length<=Z.length/\Hid (((r.drop p).all (smA r.length)&&S2)=R)/\T'=[(30,.int .i64 (p:Int)),(29,.int .i64 r.length),(28,aH r),(6,aH r),(24,.int .i64 (j:Int)),(23,.int .i64 x.length),(22,dnA x),(15,.int .i64 (i:Int)),(14,.int .i64 2),(13,.sl (g.map dnA) 2 (some 2)),(1,.ptr L.length 0)]/\L'=L++(.cells U::Z)) ah7 ⟨0,_,rfl,ah3,ae0 _,hid (by simpa using e),rfl,rfl⟩ ?_;rintro _ _ _ ⟨p,Z,rfl,hp,a6,T,rfl,rfl⟩;by_cases B:p<r.length;have p1:(p:Int)<(r.length:Int):=ah3;have p2:=aeU p ah3;have e6:=oc B;have e7:p*2+2<=(bQ r).length:=by rw[iW];omega
 obtain⟨⟨ty,va⟩,ha⟩:∃a,r.getD p ([],[])=a:=⟨_,rfl⟩;have n:r.drop p=(ty,va)::r.drop (p+1):=by rw[afL B,<- ha];simp[B]
 rw[ha]at e6;simp only[GR]at e6;have c:=T.o;rw[n,af2,ahH]at c;obtain⟨S3,z⟩:=aeS (((r.drop (p+1)).all (smA r.length)&&S2));rw[z]at c;clear T n ha e H C;by_cases a0:(10:Int)<(r.length:Int);have s:=h.o;rw[<- c,smA,decide_eq_false ah3]at s;replace s:=hid s;clear c z;refine wk ?_;exact af rfl s.o;by_cases av:(5000:Int)<(va.length:Int);have s:=h.o;rw[<- c,smA,decide_eq_true ah3,decide_eq_false (by simp only;omega)]at s;replace s:=hid s;clear c z;refine wk ?_;exact af rfl s.o;have al:S3=R:=by rw[<- c,smA,decide_eq_true ah3,decide_eq_true (by simp only;omega)];rfl
 subst al;replace z:=hid z;clear c;refine wk ?_;exact ah8 ah3 (CutL (b:=by simp;omega)) ⟨p+1,_,rfl,B,by simp;omega,z,rfl,rfl⟩;have ai:p=r.length:=ah3;subst ai;have p1:¬(r.length:Int)<(r.length:Int):=ah3;have c:=T.o;rw[agy,agO,afU,<- C]at c;replace c:=hid c;clear T e H C;refine wk ?_;exact ah8 ah3 (CutL (b:=by simp;omega)) ⟨j+1,_,rfl,w,ah3,c,rfl,rfl⟩;have an:j=x.length:=ah3;subst an;have j1:¬(x.length:Int)<(x.length:Int):=ah3;have e:=O.o;rw[agy,agO,afU,<- H]at e;replace e:=hid e;clear O H E;refine wk ?_;exact ah8 ah3 ah6 ⟨i+1,_,rfl,ad,e,rfl,rfl⟩;have V:i=2:=ah3;subst V;have f:=P.o;rw[agu ah3,agO,afU]at f;subst f;clear P Q;refine wk ?_;exact af rfl h.o
def ad9(u:Upd):Prop:=dnB u.dn/\dnB u.tw/\u.attrs.length<=1100000/\∀a∈u.attrs,a.2.length<=1100000
theorem adJ(N:ad9 u)(h:K (.agg (cP (dV u))) L):aeW 87 [.agg (cP u)] L K:=by
 obtain⟨k,d,t,l⟩:=u;obtain⟨hd,H,I,F⟩:=N;simp only[cP,dV]at hd H I F h⊢;obtain⟨t',f⟩:=aeS ((if k=4 then t else[]));obtain⟨b,e⟩:=aeS ((if k=2 then[]else l));rw[f,e]at h;have w:dnB t':=by rw[<- f];split;exact H;exact⟨ah4,ah4⟩
 have P:b.length<=1100000:=by rw[<- e];split;simp;exact I
 have g:∀a∈b,a.2.length<=1100000:=by rw[<- e];split;simp;exact F
 replace h:=hid h;have kk1:Hid (∀{cap:Option Nat}{L:List Blk}{K:aeX},K (dnA d) L->aeW 50 [dnA d,.sl [] 0 cap] L K):=@hid _ (by intro cap L K q;exact MP hd.1 hd.2 q);have kk2:Hid (∀{cap:Option Nat}{L:List Blk}{K:aeX},K (dnA t') L->aeW 50 [dnA t',.sl [] 0 cap] L K):=@hid _ (by intro cap L K q;exact MP w.1 w.2 q);refine aa Nb (by simp[wh]) ?_;simp only[wh,am]
 iterate 3 first
  |refine lF ?_
  | (first|refine jO ah5 ?_|refine fW ah5 ?_|refine fZ ?_|refine Eb ?_|refine oA (fun _=>?_)|refine ed ?_|refine jQ ?_)
    simp(config:={maxSteps:=2000000}) only[Kon,push_cast,reduceIte,Nat.reduceEqDiff,Nat.reduceAdd,Nat.reduceMul,Nat.reduceSub,Nat.reduceLT,Nat.reduceLeDiff,Int.reduceLT,Int.reduceLE,Int.reduceAdd,Int.reduceSub,Int.reduceNeg,Int.reduceToNat,Int.reduceEq,reduceCtorEq, *]
  | (first|refine jK ah5 ?_|refine iX ?_|refine fY ?_|refine jP ?_|refine oF (d9 ?_))
    simp only[push_cast,reduceIte,Nat.reduceEqDiff,Nat.reduceAdd,Nat.reduceMul,Nat.reduceSub,Nat.reduceLT,Nat.reduceLeDiff,Int.reduceLT,Int.reduceLE,Int.reduceAdd,Int.reduceSub,Int.reduceNeg,Int.reduceToNat,Int.reduceEq,reduceCtorEq, *]
  |exact oB
  |first|apply oC|apply jL|apply oD|apply jM|apply oE|apply jN
  |refine gg ?_
  |refine fX ?_
  |first|refine gc rfl ?_|refine gf rfl ?_|refine cO rfl ?_ ?_|refine iM rfl (λ_=>?_) (λ_=>?_)|refine iL rfl (λ_=>?_) (λ_=>?_)
  |((first|refine cN (λ_=>?_) (λ_=>?_)|refine dZ (λ_=>?_) (λ_=>?_))<;>try simp(config:={maxSteps:=2000000}) only[Kon,push_cast,reduceIte,Nat.reduceEqDiff,Nat.reduceAdd,Nat.reduceMul,Nat.reduceSub,Nat.reduceLT,Nat.reduceLeDiff,Int.reduceLT,Int.reduceLE,Int.reduceAdd,Int.reduceSub,Int.reduceNeg,Int.reduceToNat,Int.reduceEq,reduceCtorEq, *])
  |refine And.intro trivial ?_
  |refine And.intro ah3 ?_
  |refine eZ rfl (λ_=>?_) (λ_=>?_)
  |refine And.intro ?_ ?_
 refine Pp (λB L2=>∃r,r.frz=dnA t'/\B=[(2,.ptr (L.length+1) 0),(1,.ptr L.length 0)]/\L2=L++[.cells [.int .i64 k,dnA d,r,.sl (bj l) l.length none],.cells [.int .i64 0,.sl [] 0 (some 0),.sl [] 0 (some 0),.sl [] 0 (some 0)]]) ?_ ?_;by_cases h4:k=4;rw[if_pos h4]at f;subst f;clear e h kk1 kk2;refine wk ?_;exact zC _ _ ah7 ⟨_,by simp only[AV.frz,ce],rfl,rfl⟩;rw[if_neg h4]at f;subst f;clear e h kk1 kk2;refine wk ?_;exact zC _ _ ah7 ⟨.sl [] 0 (some 0),rfl,rfl,rfl⟩;rintro _ _ ⟨r,p,rfl,rfl⟩ -;refine Pp (λB L2=>∃v,v.frz=.sl (bj b) b.length none/\B=[(2,.ptr (L.length+1) 0),(1,.ptr L.length 0)]/\L2=L++[.cells [.int .i64 k,dnA d,r,v],.cells [.int .i64 0,.sl [] 0 (some 0),.sl [] 0 (some 0),.sl [] 0 (some 0)]]) ?_ ?_;by_cases G:k=2;rw[if_pos G]at e;subst e;clear f h kk1 kk2 p;refine wk ?_;exact zC _ _ ah7 ⟨.sl [] 0 (some 0),rfl,rfl,rfl⟩;rw[if_neg G]at e;subst e;clear f h kk1 kk2 p;refine wk ?_;exact zC _ _ ah7 ⟨_,by simp only[AV.frz,oe],rfl,rfl⟩;rintro _ _ ⟨v,x,rfl,rfl⟩ -;refine acC L.length (c:=[.int .i64 k,dnA d,r,v]) ah4 ?_;have J:(L++[Blk.cells [.int .i64 k,dnA d,r,v],.cells [.int .i64 0,.sl [] 0 (some 0),.sl [] 0 (some 0),.sl [] 0 (some 0)]]).set L.length (.cells (AV.frzL [.int .i64 k,dnA d,r,v]))=L++[.cells [.int .i64 k,dnA d,dnA t',.sl (bj b) b.length none],.cells [.int .i64 0,.sl [] 0 (some 0),.sl [] 0 (some 0),.sl [] 0 (some 0)]]:=by simp only[AV.frzL,p,x,AV.frz,ce];simp
 rw[J];clear J p x f e;replace g:=hid g;refine wk ?_;refine⟨⟨bu (kk2.o ⟨rfl,rfl⟩) rfl,bu (kk1.o ⟨rfl,rfl⟩) rfl⟩,?_⟩;clear kk1 kk2;refine wk ?_;refine My (L.length+2) 3 2 (c:=[.int .i64 k,dnA d,dnA t',.sl [] 0 (some 0)]) (l:=[]) (n:=0) ah4 rfl (afD 2).symm ?_;refine ao (λm T' L'=>∃(i:Nat) (D:List AV) (X:List Blk),m=b.length-i/\i<=b.length/\Hid (D=bj (b.take i))/\T'=[(26,.int .i64 (i:Int)),(25,.int .i64 b.length),(24,.sl (bj b) b.length none),(3,.ptr (L.length+2) 0),(2,.ptr (L.length+1) 0),(1,.ptr L.length 0)]/\L'=L++(.cells [.int .i64 k,dnA d,dnA t',.sl (bj b) b.length none] :: .cells [.int .i64 0,.sl [] 0 (some 0),.sl [] 0 (some 0),.sl [] 0 (some 0)] :: .cells [.int .i64 k,dnA d,dnA t',.gsl D i (L.length+3) 2] :: .spare i 2::X)) ah7 ⟨0,[],[],rfl,ae5 _,hid rfl,rfl,ah4⟩ ?_;rintro _ _ _ ⟨i,D,X,rfl,Q,A,rfl,rfl⟩;by_cases j:i<b.length;have g3:(i:Int)<(b.length:Int):=ah3;have S:=aeU i ah3;have E:=zx j;have R:i*2+2<=(bj b).length:=by rw[GS];omega
 obtain⟨⟨n,vs⟩,z⟩:∃a,b.getD i ([],[])=a:=⟨_,rfl⟩;have O:vs.length<=1100000:=g.o (n,vs) (by rw[<- z];simp[j]);rw[z]at E;simp only[atA]at E;have s:bj (b.take (i+1))=D++[.str n,.sl (vs.map AV.str) vs.length none]:=by rw[A.o,afs j,show b[i]=(n,vs)by rw[<- z];simp[j],QR];rfl
 have M:=jF vs;replace s:=hid s;clear z A g;refine wk ?_;exact ah8 ah3 ah6 ⟨i+1,_,_,rfl,j,hid s.o.symm,rfl,rfl⟩;have C:i=b.length:=ah3;subst C;have g3:¬(b.length:Int)<(b.length:Int):=ah3;have y:=A.o;rw[afo]at y;have M:=oe b;subst y;clear A g;refine wk ?_;refine aB ?_;simp only[AV.frz,AV.frzL,ce,M];exact af (by simp only[AV.refs,AV.refsL,fb,qU];rfl) h.o
def szB(B:Nat):Nat->Nd->Prop
 |0,n=>n.data.length<=B/\n.kids.length<=B
 |k+1,n=>n.data.length<=B/\n.kids.length<=B/\∀x∈n.kids,szB B k x
theorem Sc{B:Nat}:∀{k:Nat}{n:Nd},szB B k n->n.data.length<=B/\n.kids.length<=B
 |0,_,h=>h
 |_+1,_,h=>⟨h.1,h.2.1⟩
def Y5:Option Upd->AV
 |none=>.tup [.agg [.int .i64 0,.sl [] 0 none,.sl [] 0 none,.sl [] 0 none],.bool false]
 |some u=>.tup [.agg (cP u),.bool true]
theorem G5{l:List Nd}{k:Nat}(h:k<l.length):(aC l).getD (k*3+1) .undef=.str (l.getD k cr).data:=by have a:=congrArg (λl=>l[1]?) (y8 h);simp only[afz (show 1<3 by omega),afE]at a;rw[afh,a,dX];rfl
theorem XH{l:List Nd}{k:Nat}(h:k<l.length):(aC l).getD (k*3+2) .undef=.sl (aC (l.getD k cr).kids) (l.getD k cr).kids.length none:=by have a:=congrArg (λl=>l[2]?) (y8 h);simp only[afz (show 2<3 by omega),afE]at a;rw[afh,a,dX];rfl
theorem MK:∀(l:List Nd) (k:Nat),(aC l).drop (k*3)=aC (l.drop k)
 |[],k=>by have e:aC []=[]:=(by rw[aC]);rw[List.drop_nil,e,List.drop_nil]
 |n::l,0=>ah4
 |n::l,k+1=>by rw[ahj,<- MK l k,aC,List.drop_append,dX];rw[ahk (by simp;omega),afH];congr 1;simp;omega
def adg(l:List Nd):Option Upd :=
 if l.length<2\/4<l.length then none else
 match Vh (l.getD 0 cr).data with
 |none=>none
 | some k =>
   let p:=lh (l.getD 1 cr).data
   let r:=l.drop 2
   let q:=if k=4/\r≠[]then lh (r.getD 0 cr).data else([],0)
   let r':=if k=4 then r.drop 1 else r
   if p.2≠0\/q.2≠0\/1<r'.length then none else
   match r' with
   |[]=>some ⟨k,p.1,q.1,[]⟩
   |x::_=>(yR x.kids).map λa=>⟨k,p.1,q.1,a⟩
theorem Wq(t:Int)(d:List UInt8)(l:List Nd):U6 (.mk t d l)=adg l:=rfl
theorem Y3(hz:szB 1100000 4 n)(h:K (Y5 (U6 n)) L):aeW 86 [.agg (ndA n)] L K:=by
 obtain⟨tg,dt,l⟩:=n;rw[bT];rw[Wq,adg]at h;obtain⟨_,bb,C⟩:=hz;simp only[Nd.kids]at bb C;by_cases hl:l.length<2\/4<l.length;rw[if_pos hl]at h;simp only[Y5]at h;replace h:=hid h;clear C;rcases hl with h2|h4;have g1:(l.length:Int)<2:=ah3;clear h2;refine aeV iV ?_;exact aB (af rfl h.o);have g1:¬(l.length:Int)<2:=ah3;have g2:(4:Int)<(l.length:Int):=ah3;clear h4;refine aeV iV ?_;exact aB (af rfl h.o);rw[if_neg hl]at h;have g1:¬(l.length:Int)<2:=ah3;have g2:¬(4:Int)<(l.length:Int):=ah3;have g3:(0:Int)<(l.length:Int):=ah3;have g4:(1:Int)<(l.length:Int):=ah3;have g5:(2:Int)<=(l.length:Int):=ah3;have f0:(aC l).getD 1 .undef=.str (l.getD 0 cr).data:=G5 (k:=0) ah3;have f1:(aC l).getD 4 .undef=.str (l.getD 1 cr).data:=G5 (k:=1) ah3;have f2:=iD l;have f3:(aC l).drop 6=aC (l.drop 2):=MK l 2;have b0:1<(aC l).length:=ah3;have b1:4<(aC l).length:=ah3;obtain⟨n0,P⟩:=aeS (l.getD 0 cr);obtain⟨n1,W⟩:=aeS (l.getD 1 cr);have z0:=Sc (C n0 (by rw[<- P];simp[show 0<l.length by omega]));rw[P]at f0 h;rw[W]at f1 h;rcases hnum:Vh n0.data with _|k;rw[hnum]at h;simp only[Y5]at h;replace h:=hid h;have kk1:Hid (Ctr Tryz.prog 117 [.str n0.data] (.tup [.int .i64 0,.bool false])):=@hid _ (by intro L K q;exact RJ z0.1 (by rw[hnum];exact q));clear C hnum P W z0 hl;refine aeV iV ?_;exact aB (af rfl h.o);rw[hnum]at h;simp only at h;have kk1:Hid (Ctr Tryz.prog 117 [.str n0.data] (.tup [.int .i64 k,.bool true])):=@hid _ (by intro L K q;exact RJ z0.1 (by rw[hnum];exact q));obtain⟨⟨T,e1⟩,ap⟩:∃q,lh n1.data=q:=⟨_,rfl⟩;have kk2:Hid (Ctr Tryz.prog 118 [.str n1.data] (.tup [dnA T,.int .i64 e1])):=@hid _ (by intro L K q;exact Wx (by rw[ap];exact q));rw[ap]at h;simp only at h;obtain⟨r,hr⟩:=aeS (l.drop 2);have a8:r.length+2=l.length:=by rw[<- hr];simp;omega
 have I:∀x∈r,szB 1100000 3 x:=λx hx=>C x (by rw[<- hr]at hx;exact agv hx)
 rw[hr]at f3 h;have f4:((l.length:Int)).toNat-2=r.length:=ah3;have f5:(aC r).take (r.length*3)=aC r:=by rw[<- iD r,afo]
 have f6:l.length-2=r.length:=ah3;clear C hnum P W z0 hl ap hr;replace I:=hid I;refine aa iV (by simp[cF]) ?_;simp only[cF,am]
 iterate 42 first
  |refine lF ?_
  | (first|refine jO ah5 ?_|refine fW ah5 ?_|refine fZ ?_|refine Eb ?_|refine oA (fun _=>?_)|refine ed ?_|refine jQ ?_|refine kk1.o ?_|refine kk2.o ?_|refine dD (kk1.o ⟨rfl,rfl⟩) (kk1.o ⟨rfl,rfl⟩) ?_|refine dD (kk2.o ⟨rfl,rfl⟩) (kk2.o ⟨rfl,rfl⟩) ?_|refine bu (kk1.o ⟨rfl,rfl⟩) ?_|refine bu (kk2.o ⟨rfl,rfl⟩) ?_)
    simp(config:={maxSteps:=2000000}) only[Kon,push_cast,reduceIte,Nat.reduceEqDiff,Nat.reduceAdd,Nat.reduceMul,Nat.reduceSub,Nat.reduceLT,Nat.reduceLeDiff,Int.reduceLT,Int.reduceLE,Int.reduceAdd,Int.reduceSub,Int.reduceNeg,Int.reduceToNat,Int.reduceEq,reduceCtorEq, *]
  | (first|refine jK ah5 ?_|refine iX ?_|refine fY ?_|refine jP ?_|refine oF (d9 ?_))
    simp only[push_cast,reduceIte,Nat.reduceEqDiff,Nat.reduceAdd,Nat.reduceMul,Nat.reduceSub,Nat.reduceLT,Nat.reduceLeDiff,Int.reduceLT,Int.reduceLE,Int.reduceAdd,Int.reduceSub,Int.reduceNeg,Int.reduceToNat,Int.reduceEq,reduceCtorEq, *]
  |exact oB
  |first|apply oC|apply jL|apply oD|apply jM|apply oE|apply jN
  |refine gg ?_
  |refine fX ?_
  |first|refine gc rfl ?_|refine gf rfl ?_|refine cO rfl ?_ ?_|refine iM rfl (λ_=>?_) (λ_=>?_)|refine iL rfl (λ_=>?_) (λ_=>?_)
  |((first|refine cN (λ_=>?_) (λ_=>?_)|refine dZ (λ_=>?_) (λ_=>?_))<;>try simp(config:={maxSteps:=2000000}) only[Kon,push_cast,reduceIte,Nat.reduceEqDiff,Nat.reduceAdd,Nat.reduceMul,Nat.reduceSub,Nat.reduceLT,Nat.reduceLeDiff,Int.reduceLT,Int.reduceLE,Int.reduceAdd,Int.reduceSub,Int.reduceNeg,Int.reduceToNat,Int.reduceEq,reduceCtorEq, *])
  |refine And.intro trivial ?_
  |refine And.intro ah3 ?_
  |refine eZ rfl (λ_=>?_) (λ_=>?_)
  |refine And.intro ?_ ?_
 obtain⟨q,M⟩:=aeS ((if k=4/\r≠[]then lh (r.getD 0 cr).data else([],0)));obtain⟨y,e2⟩:=q;obtain⟨G,t⟩:=aeS ((if k=4 then r.drop 1 else r));rw[M,t]at h;simp only at h;have z:∀x∈G,szB 1100000 3 x:=λx hx=>by rw[<- t]at hx;split at hx;exact I.o x (agv hx);exact I.o x hx
 replace h:=hid h;refine Pp (λT2 L2=>∃ct:Option Nat,T2=[(10,.sl (aC G) G.length none),(9,.int .i64 e2),(8,.int .i64 e1),(7,.ptr (L.length+2) 0),(3,.bool false),(2,.ptr (L.length+1) 0)]/\L2=L++[.cells [.int .i64 tg,.str dt,.sl (aC l) l.length none],.cells [.int .i64 0,.sl [] 0 (some 0),.sl [] 0 (some 0),.sl [] 0 (some 0)],.cells [.int .i64 k,dnA T,.sl (y.map aH) y.length ct,.sl [] 0 (some 0)]]) ?_ ?_
 .clear f0 f1 f2 f3 f4 b0 b1 kk1 kk2;by_cases h4:k=4
  .rw[if_pos h4]at t;by_cases J:r=[]
   .rw[if_neg (λe=>e.2 J)]at M;cases M;subst J;subst t;subst h4;have e0:aC []=[]:=(by rw[aC]);refine wk ?_;exact zC [(10,.sl (aC []) ([]:List Nd).length none),(9,.int .i64 0),(8,.int .i64 e1),(7,.ptr (L.length+2) 0),(3,.bool false),(2,.ptr (L.length+1) 0)] _ (GZ (kF rfl (by rw[e0];rfl) (by repeat' first|exact GV|refine kF rfl rfl ?_)) ah4) ⟨some 0,rfl,rfl⟩
   rw[if_pos ⟨h4,J⟩]at M;have a9:0<r.length:=afP.2 J;have p1:(0:Int)<(r.length:Int):=ah3;have p2:(1:Int)<=(r.length:Int):=ah3;have f0:(aC r).getD 1 .undef=.str (r.getD 0 cr).data:=G5 (k:=0) a9;have f2:=iD r;have f3:(aC r).drop 3=aC (r.drop 1):=MK r 1;have b1:1<(aC r).length:=ah3;have f7:G.length=r.length-1:=(by rw[<- t];simp);have f8:(aC G).take ((r.length-1)*3)=aC G:=(by rw[<- f7,<- iD G,afo]);obtain⟨n2,a6⟩:=aeS (r.getD 0 cr);rw[a6]at f0 M;rw[t]at f3;have kk1:Hid (Ctr Tryz.prog 118 [.str n2.data] (.tup [dnA y,.int .i64 e2])):=@hid _ (by intro L K q;exact Wx (by rw[M];exact q));have f9:=ce y;clear M t a6 J;subst h4;refine wk ?_;exact zC _ _ ah6 ⟨none,rfl,rfl⟩
  rw[if_neg h4]at t;rw[if_neg (λe=>h4 e.1)]at M;cases M;subst t;refine wk ?_;exact zC _ _ ah6 ⟨some 0,rfl,rfl⟩
 rintro _ _ ⟨ct,rfl,rfl⟩ -;clear M t I f0 f1 f2 f3 f4 f5 f6 b0 b1 kk1 kk2 a8 g1 g2 g3 g4 g5;by_cases B:e1≠0\/e2≠0\/1<G.length;have s:=h.o;rw[if_pos B]at s;simp only[Y5]at s;replace s:=hid s;have hb:e1≠0\/e2≠0\/(1:Int)<(G.length:Int):=ah3;clear h B z;by_cases c1:e1=0;by_cases c2:e2=0;have c3:(1:Int)<(G.length:Int):=ah3;clear hb;subst c1;subst c2;refine wk ?_;exact aB (af rfl s.o);clear hb;subst c1;refine wk ?_;exact aB (af rfl s.o);clear hb;refine wk ?_;exact aB (af rfl s.o);have s:=h.o;rw[if_neg B]at s;have ab:e1=0/\e2=0/\G.length<=1:=ah3;obtain⟨rfl,rfl,ad⟩:=ab;clear h B;rcases G with _|⟨x,r2⟩;simp only[Y5]at s;replace s:=hid s;have e0:aC []=[]:=by rw[aC]
 clear z;refine wk ?_;refine ao (λm T' L'=>m=0/\T'=[(86,.int .i64 0),(85,.int .i64 0),(84,.sl [] 0 none),(7,.ptr (L.length+2) 0),(2,.ptr (L.length+1) 0)]/\L'=L++[.cells [.int .i64 tg,.str dt,.sl (aC l) l.length none],.cells [.int .i64 0,.sl [] 0 (some 0),.sl [] 0 (some 0),.sl [] 0 (some 0)],.cells [.int .i64 k,dnA T,.sl (y.map aH) y.length ct,.sl [] 0 (some 0)]]) ah7 ⟨rfl,rfl,rfl⟩ ?_;rintro _ _ _ ⟨rfl,rfl,rfl⟩;refine wk ?_;refine aB ?_;simp only[AV.frz,AV.frzL,ce];refine af ?_ s.o;simp only[AV.refs,AV.refsL,fb];rfl;have bl:r2=[]:=by simp at ad;exact ad
 subst bl;obtain⟨_,a7,S⟩:=z x ah4;clear z ad;simp only at s;obtain⟨g,av⟩:=aeS (x.kids);rw[av]at s a7 S;obtain⟨A,hA⟩:=aeS (yR g);rw[hA]at s;have F:A=none->K (.tup [.agg [.int .i64 0,.sl [] 0 none,.sl [] 0 none,.sl [] 0 none],.bool false]) L:=λe=>by rw[e]at s;exact s
 have u:∀a,A=some a->K (.tup [.agg [.int .i64 k,dnA T,dnA y,.sl (bj a) a.length none],.bool true]) L:=λa e=>by rw[e]at s;exact s
 have V:aC [x]=[.int .i64 x.tag,.str x.data,.sl (aC g) g.length none]:=by rw[aC,dX,av,aC,afq]
 rw[V];replace F:=hid F;replace u:=hid u;replace S:=hid S;obtain⟨N0,a2⟩:=aeS (Blk.cells [.int .i64 tg,.str dt,.sl (aC l) l.length none]);rw[a2];clear s av V a2;refine wk ?_;refine My (L.length+2) 3 2 (c:=[.int .i64 k,dnA T,.sl (y.map aH) y.length ct,.sl [] 0 (some 0)]) (l:=[]) (n:=0) ah4 rfl (afD 2).symm ?_;refine ao (λm T' L'=>∃(i:Nat) (d:List Atr) (D:List AV) (X:List Blk),m=1-i/\i<=1/\Hid (if i=0 then d=[]else A=some d)/\Hid (D=bj d)/\T'=[(86,.int .i64 (i:Int)),(85,.int .i64 1),(84,.sl [.int .i64 x.tag,.str x.data,.sl (aC g) g.length none] 1 none),(7,.ptr (L.length+2) 0),(3,.bool false),(2,.ptr (L.length+1) 0)]/\L'=L++(N0 :: .cells [.int .i64 0,.sl [] 0 (some 0),.sl [] 0 (some 0),.sl [] 0 (some 0)] :: .cells [.int .i64 k,dnA T,.sl (y.map aH) y.length ct,.gsl D d.length (L.length+3) 2] :: .spare d.length 2::X)) ah7 ⟨0,[],[],[],rfl,ah3,hid ah4,hid rfl,rfl,ah4⟩ ?_;rintro _ _ _ ⟨i,d,D,X,rfl,hi,hI,hD,rfl,rfl⟩;by_cases a_:i=0;rotate_left;have a':i=1:=ah3;subst a';have al:=hI.o;rw[if_neg ah3]at al;have s:=hid (u.o d al);have Q:=hD.o;have e0:=oe d;subst Q;clear hI hD al u F;refine wk ?_;refine aB ?_;simp only[AV.frz,AV.frzL,ce,e0];refine af ?_ s.o;simp only[AV.refs,AV.refsL,fb,qU];rfl;subst a_;have U:=hI.o;rw[if_pos rfl]at U;subst U;have Q:=hD.o;have bd:bj []=[]:=rfl;rw[bd]at Q;subst Q;clear hI hD;refine wk ?_;refine ao (λm T' L'=>∃(d:List Atr) (j:Nat) (D:List AV) (Y:List Blk),m=g.length-j/\j<=g.length/\X.length+1<=Y.length/\Hid ((yR (g.drop j)).map (λr=>d++r)=A)/\Hid (D=bj d/\j=d.length)/\T'=[(93,.int .i64 (j:Int)),(92,.int .i64 g.length),(91,.sl (aC g) g.length none),(86,.int .i64 0),(85,.int .i64 1),(84,.sl [.int .i64 x.tag,.str x.data,.sl (aC g) g.length none] 1 none),(7,.ptr (L.length+2) 0),(3,.bool false),(2,.ptr (L.length+1) 0)]/\L'=L++(N0 :: .cells [.int .i64 0,.sl [] 0 (some 0),.sl [] 0 (some 0),.sl [] 0 (some 0)] :: .cells [.int .i64 k,dnA T,.sl (y.map aH) y.length ct,.gsl D j (L.length+3) 2] :: .spare j 2::Y)) ah7 ⟨[],0,[],_,rfl,ae5 _,ah4,hid (by rw[ahi,hA];cases A<;>rfl),hid ⟨rfl,rfl⟩,rfl,rfl⟩ ?_;rintro _ _ _ ⟨d,j,D,Y,rfl,hj,bs,hJ,N,rfl,rfl⟩;by_cases H:j<g.length
 .have j1:(j:Int)<(g.length:Int):=ah3;have j2:=aeU j ah3;have e3:=y8 H;have e4:j*3+3<=(aC g).length:=(by rw[iD];omega);obtain⟨a,ha⟩:=aeS (g.getD j cr);have a5:g.drop j=a::g.drop (j+1):=(by rw[afL H,<- ha];simp[H]);obtain⟨_,bo,a4⟩:=S.o a (by rw[<- ha];simp[H]);rw[ha,dX]at e3;have f:=hJ.o;rw[a5,yR]at f;clear hJ a5 ha hA;by_cases h2:a.kids.length=2;rotate_left;rw[if_pos h2]at f;have s:=hid (F.o f.symm);have g2:¬(a.kids.length:Int)=2:=ah3;clear f h2 F u;refine wk ?_;exact aB (af rfl s.o);rw[if_neg ah3]at f;have g2:(a.kids.length:Int)=2:=ah3;have f0:(aC a.kids).getD 1 .undef=.str (a.kids.getD 0 cr).data:=G5 (k:=0) ah3;have f1:(aC a.kids).getD 5 .undef=.sl (aC (a.kids.getD 1 cr).kids) (a.kids.getD 1 cr).kids.length none:=XH (k:=1) ah3;have b0:1<(aC a.kids).length:=(by rw[iD];omega);have b1:5<(aC a.kids).length:=(by rw[iD];omega);obtain⟨nm,a3⟩:=aeS ((a.kids.getD 0 cr).data);obtain⟨w,a1⟩:=aeS ((a.kids.getD 1 cr).kids);have bx:w.length<=1100000:=by rw[<- a1];exact(Sc (a4 _ (by simp[show 1<a.kids.length by omega]))).2
  rw[a3]at f0 f;rw[a1]at f1 f;have an:(yR (g.drop (j+1))).map (λr=>(d++[(nm,wq w)])++r)=A:=by rw[<- f];cases yR (g.drop (j+1))<;>simp
  replace an:=hid an;clear f a3 a1 a4 F u h2;refine wk ?_;refine My (L.length+(Y.length+1+1+1+1+1)) 1 1 (c:=[.str nm,.sl [] 0 (some 0)]) (l:=[]) (n:=0) ah4 rfl (afD 1).symm ?_;refine ao (λm T' L'=>∃(p:Nat) (E:List AV) (Z:List Blk),m=w.length-p/\p<=w.length/\Hid (E=(wq (w.take p)).map AV.str)/\T'=[(114,.int .i64 (p:Int)),(113,.int .i64 w.length),(112,.sl (aC w) w.length none),(15,.ptr (L.length+(Y.length+1+1+1+1+1)) 0),(93,.int .i64 (j:Int)),(92,.int .i64 g.length),(91,.sl (aC g) g.length none),(86,.int .i64 0),(85,.int .i64 1),(84,.sl [.int .i64 x.tag,.str x.data,.sl (aC g) g.length none] 1 none),(7,.ptr (L.length+2) 0),(3,.bool false),(2,.ptr (L.length+1) 0)]/\L'=L++(N0 :: .cells [.int .i64 0,.sl [] 0 (some 0),.sl [] 0 (some 0),.sl [] 0 (some 0)] :: .cells [.int .i64 k,dnA T,.sl (y.map aH) y.length ct,.gsl D j (L.length+3) 2] :: .spare j 2::(Y++(.cells [.int .i64 a.tag,.str a.data,.sl (aC a.kids) a.kids.length none] :: .cells [.str nm,.gsl E p (L.length+(Y.length+1+1+1+1+1+1)) 1] :: .spare p 1::Z)))) ah7 ⟨0,[],[],rfl,ae5 _,hid rfl,rfl,ah4⟩ ?_;rintro _ _ _ ⟨p,E,Z,rfl,hp,hE,rfl,rfl⟩;by_cases O:p<w.length;have p1:(p:Int)<(w.length:Int):=ah3;have p2:=aeU p ah3;have e5:=y8 O;have e6:p*3+3<=(aC w).length:=(by rw[iD];omega);obtain⟨v,hv⟩:=aeS (w.getD p cr);rw[hv,dX]at e5;have a0:(wq (w.take (p+1))).map AV.str=E++[.str v.data]:=by rw[hE.o,afs O,show w[p]=v by rw[<- hv];simp[O]];simp[wq]
  replace a0:=hid a0;clear hv hE;refine wk ?_;exact ah8 ah3 ah6 ⟨p+1,_,Z++[.cells [.int .i64 v.tag,.str v.data,.sl (aC v.kids) v.kids.length none]],rfl,O,hid a0.o.symm,rfl,ah4⟩;have bn:p=w.length:=ah3;subst bn;have p1:¬(w.length:Int)<(w.length:Int):=ah3;have R:=hE.o;rw[afo]at R;have e5:AV.frzL E=E:=(by rw[R];exact jF _);have ai:D++[.str nm,.sl E w.length none]=bj (d++[(nm,wq w)]):=by rw[N.o.1,QR,R];simp only[bj,afT,List.flatMap_nil,afq,atA,wq,ae6]
  replace ai:=hid ai;clear hE R;refine wk ?_;refine ah8 ah3 (CutL (b:=by simp;omega)) ⟨d++[(nm,wq w)],j+1,_,_,rfl,H,?_,an,hid ⟨ai.o,by rw[N.o.2];simp⟩,rfl,rfl⟩;simp;omega
 have bk:j=g.length:=ah3;subst bk;have j1:¬(g.length:Int)<(g.length:Int):=ah3;have f:=hJ.o;rw[agy,yR]at f;simp only[afi,afq]at f;replace f:=hid f;clear hJ;refine wk ?_;exact ah8 ah3 ah6 ⟨1,d,D,Y,rfl,ah3,hid (by rw[if_neg ah3];exact f.o.symm),hid N.o.1,rfl,by rw[<- N.o.2]⟩
theorem Px{B C:Nat}(h:B<=C):∀{k:Nat}{n:Nd},szB B k n->szB C k n
 |0,_,hz=>⟨by have:=hz.1;omega,by have:=hz.2;omega⟩
 |_+1,_,hz=>⟨by have:=hz.1;omega,by have:=hz.2.1;omega,λx a=>Px h (hz.2.2 x a)⟩
theorem WI{p:List UInt8->Except Int (Nd×List UInt8)}(g:∀s n r,p s=.ok (n,r)->r.length<s.length):∀(F:Nat) (u:List UInt8) (l:List Nd),qH p F u=.ok l->l.length<=u.length/\∀x∈l,∃v r,v.length<=u.length/\p v=.ok (x,r)
 |0,[],l,h=>by cases h;simp
 |0,_::_,l,h=>by cases h;simp
 |F+1,[],l,h=>by cases h;simp
 | F+1,c::u,l,h=>by
   rw[WJ ah4]at h;split at h
   .cases h
   rename_i n r d;split at h
   .cases h
   rename_i j k;cases h;have f:=g _ _ _ d;obtain⟨m,i⟩:=WI g F r j k;refine⟨by simp at f⊢;omega,λx e=>?_⟩;rcases afp.1 e with rfl|e
   .exact⟨_,_,ae0 _,d⟩
   .obtain⟨v,r',a,b⟩:=i x e;exact⟨v,r',ah3,b⟩
theorem Zo:∀(f:Nat){s:List UInt8}{n:Nd}{r:List UInt8},nP f s=.ok (n,r)->∀k,szB s.length k n
 |0,s,n,r,h,k=>by cases h
 | f+1,s,n,r,h,k=>by
   rw[nP]at h;split at h
   .cases h
   simp only at h;split at h
   .cases h
   split at h
   .cases h
   rename_i size a g;split at h
   .cases h
   rename_i d;split at h
   .cases h;cases k with
    |zero=>exact⟨by simp only[Nd.data,afZ,agb];omega,by simp[Nd.kids]⟩
    |succ k=>exact⟨by simp only[Nd.data,afZ,agb];omega,by simp[Nd.kids],λx b=>by simp[Nd.kids]at b⟩
   split at h
   .cases h
   .rename_i ks hm;cases h;obtain⟨j,e⟩:=WI (λs n r=>Zp) _ _ _ hm;have l:((s.drop a).take size).length<=s.length:=(by simp only[afZ,agb];omega);cases k with
    |zero=>exact⟨by simp[Nd.data],by simp only[Nd.kids];omega⟩
    | succ k =>
      refine⟨by simp[Nd.data],by simp only[Nd.kids];omega,λx b=>?_⟩;obtain⟨v,i,m,c⟩:=e x b;exact Px ah3 (Zo f c k)
theorem YG(h:OL s=.ok n)(k:Nat):szB s.length k n:=by unfold OL at h;split at h;cases h;rename_i b r a;split at h;cases h;exact Zo _ a k;cases h
theorem WY{B:Nat}:∀{l:List Nd}{a:List Atr},yR l=some a->(∀x∈l,szB B 2 x)->a.length<=l.length/\∀y∈a,y.1.length<=B/\y.2.length<=B/\∀v∈y.2,v.length<=B
 |[],a,h,_=>by cases h;simp
 | x::l,a,h,hz=>by
   rw[yR]at h;split at h
   .cases h
   rename_i m;rw[afr]at h;obtain⟨r,g,rfl⟩:=h;obtain⟨k,e⟩:=WY g λy b=>hz y (by simp[b])
   refine⟨by simp;omega,λy b=>?_⟩;rcases afp.1 b with rfl|b
   .obtain⟨_,_,hk⟩:=hz x ah4;have d:=Sc (hk (x.kids.getD 0 cr) (by simp[show 0<x.kids.length by omega]));obtain⟨_,j,f⟩:=hk (x.kids.getD 1 cr) (by simp[show 1<x.kids.length by omega]);refine⟨d.1,by simpa[wq]using j,λv c=>?_⟩;simp only[wq,ae1]at c;obtain⟨w,i,rfl⟩:=c;exact(Sc (f w i)).1
   .exact e y b
theorem adf(H:s.length<=1100000)(w:OL s=.ok n)(b:U6 n=some u):dnB u.dn/\dnB u.tw/\jm u:=by
 obtain⟨t,d,l⟩:=n;obtain⟨_,_,h⟩:=YG w 4;simp only[Nd.kids]at h;rw[Wq,adg]at b;split at b;cases b;split at b;cases b;rename_i k o;simp only at b;have e:∀s,dnB (lh s).1:=λs=>⟨by have:=(Wz s).1;omega,λr hr=>by have:=(Wz s).2 r hr;omega⟩
 have f:dnB (if k=4/\l.drop 2≠[]then lh ((l.drop 2).getD 0 cr).data else([],0)).1:=by split;exact e _;exact⟨ah4,ah4⟩
 have p:∀x∈(if k=4 then(l.drop 2).drop 1 else l.drop 2),x∈l:=λx g=>by split at g;exact agv (agv g);exact agv g
 obtain⟨q,i⟩:=aeS ((if k=4/\l.drop 2≠[]then lh ((l.drop 2).getD 0 cr).data else([],0)));obtain⟨m,c⟩:=aeS ((if k=4 then(l.drop 2).drop 1 else l.drop 2));rw[i,c]at b;rw[i]at f;rw[c]at p;by_cases j:(lh (l.getD 1 cr).data).2≠0\/q.2≠0\/1<m.length;rw[if_pos j]at b;cases b;rw[if_neg j]at b;rcases m with _|⟨x,K⟩;cases b;exact⟨e _,f,ah4,ah4⟩;simp only at b;rw[afr]at b;obtain⟨a,D,rfl⟩:=b;obtain⟨_,I,B⟩:=h x (p x ah4);obtain⟨F,E⟩:=WY D B;refine⟨e _,f,⟨by simp only;omega,λy z=>?_⟩⟩;obtain⟨J,G,C⟩:=E y z;exact⟨ah3,ah3,λv A=>by have:=C v A;omega⟩
def rdA(p:Upd×Int):AV:=.tup [.agg (cP p.1),.int .i64 p.2]
theorem adj(t:s.length<=1100000)(h:K (rdA (rdU s)) L):aeW 58 [.str s] L K:=by
 have b:∀e,rdU s=(OA,e)->K (.tup [.agg [.int .i64 0,.sl [] 0 none,.sl [] 0 none,.sl [] 0 none],.int .i64 e]) L:=λe p=>by rw[p]at h;exact h
 rcases hw:OL s with e|n;have i:=hid (b e (by rw[rdU,hw]));have p:=aa4 hw;have kk1:Hid (Ctr Tryz.prog 85 [.str s] (.tup [.agg [.int .i64 0,.str [],.sl [] 0 none],.int .i64 e])):=@hid _ (by intro L K q;exact Wc ah3 (by rw[hw];exact q));clear b hw h;refine aeV fu ?_;exact aB (af rfl i.o);have kk1:Hid (Ctr Tryz.prog 85 [.str s] (.tup [.agg [.int .i64 n.tag,.str n.data,.sl (aC n.kids) n.kids.length none],.int .i64 0])):=@hid _ (by intro L K q;exact Wc ah3 (by rw[hw,ac5,dX];exact q));have j:szB 1100000 4 n:=Px ah3 (YG hw 4);rcases hy:U6 n with _|u;have i:=hid (b 4 (by rw[rdU,hw];simp only[hy]));have kk2:Hid (Ctr Tryz.prog 86 [.agg [.int .i64 n.tag,.str n.data,.sl (aC n.kids) n.kids.length none]] (.tup [.agg [.int .i64 0,.sl [] 0 none,.sl [] 0 none,.sl [] 0 none],.bool false])):=@hid _ (by intro L K q;rw[<- dX];exact Y3 j (by rw[hy];exact q));clear b hw h hy j;refine aeV fu ?_;exact aB (af rfl i.o);obtain⟨hd,l,k⟩:=adf t hw hy;have g:ad9 u:=⟨hd,l,by have:=k.1;omega,λa v=>by have:=(k.2 a v).2.1;omega⟩;have kk2:Hid (Ctr Tryz.prog 86 [.agg [.int .i64 n.tag,.str n.data,.sl (aC n.kids) n.kids.length none]] (.tup [.agg (cP u),.bool true])):=@hid _ (by intro L K q;rw[<- dX];exact Y3 j (by rw[hy];exact q));obtain⟨⟨w,e⟩,d⟩:∃q,wrU u=q:=⟨_,rfl⟩;have kk3:Hid (Ctr Tryz.prog 14 [.agg (cP u)] (.tup [.str w,.int .i64 e])):=@hid _ (by intro L K q;exact Sb hd l k (by rw[d];exact q));have c:rdU s=if e≠0\/w≠s then(OA,4)else(dV u,0):=by rw[rdU,hw];simp only[hy,d]
 by_cases f:e≠0\/w≠s;have i:=hid (b 4 (by rw[c,if_pos f]));clear b hw h hy j c d g hd l k;by_cases r:e=0;have x:¬w=s:=by rcases f with m|m;exact absurd r m;exact m
 clear f;subst r;refine aeV fu ?_;exact aB (af rfl i.o);clear f;refine aeV fu ?_;exact aB (af rfl i.o);rw[c,if_neg f,rdA]at h;simp only[not_or,ne_eq,ag6]at f;obtain⟨rfl,rfl⟩:=f;have kk4:Hid (Ctr Tryz.prog 87 [.agg (cP u)] (.agg (cP (dV u)))):=@hid _ (by intro L K q;exact adJ g q);replace h:=hid h;clear b hw hy j c d g hd l k;refine aeV fu ?_;exact af (by simp only[AV.refs,AV.refsL,fb,qU];rfl) h.o
end Go.Proofs.YtajkbcmleihaoaaGreatDoor.Av
set_option maxRecDepth 100000
namespace Go.Proofs.YtajkbcmleihaoaaGreatDoor.Av
open Go
def Fh:LSO:=[AK 4,Ab 5 0]
def Fg:LSO:=[Aa 13 1,Ag 14 21 13,Aa 12 14,Am 15 12,Ap 16 12,Aa 6 15,Aa 7 16]
def Ff:LSO:=[Aa 17 7,Ay 18 17 0]
def Fe:LSO:=[Aa 19 7,AK 4,Aa 5 19]
def Fd:LSO:=[Aa 21 0,Ag 22 22 21,Aa 20 22,Am 23 20,Ap 24 20,AS 25 20,Aa 8 23,Aa 9 24,Aa 7 25]
def Fc:LSO:=[Aa 26 7,Ay 27 26 0]
def Fb:LSO:=[Aa 28 7,AK 4,Aa 5 28]
def Fa:LSO:=[Aa 30 6,Aa 31 9,Ax 32 23 30 31,Aa 29 32,Am 33 29,Ap 34 29,Aa 10 33,Aa 11 34]
def E9:LSO:=[Aa 35 11,Ay 36 35 0]
def E8:LSO:=[Aa 37 11,AK 4,Aa 5 37]
def zM:LSO:=[Aa 38 6,Ae 39 38,Ad 40 0 39,Ac 41 1 40,Aa 42 6,Aa 43 8,
 o1 44 (.build [.nilptr,.nilptr,.nilptr,(.bool false)] [(0,(1,(tm 41))),(1,(1,(tm 42))),(2,(1,(tm 43)))]),A3 45 44,Aa 4 45,Ab 5 0]
def zm:aI:=⟨46,(ahW Fh [] (ahW Fg Cm (.seq (ahW Ff Cd (ahY 18 (.sreg Fe Cj))) (ahW Fd Cs (.seq (ahW Fc Cd (ahY 27 (.sreg Fb Cj))) (.seq (ahW Fa Ck (ahW E9 Cd (ahY 36 (.sreg E8 Cj)))) (ahW zM Cy .ret))))))),[(.tmp 4),(.tmp 5)]⟩
attribute [push_cast] Fh Fg Ff Fe Fd Fc Fb Fa E9 E8 zM
theorem OW:ah1 7=ah2 zm:=ah5
def rM:LSO:=[A3 3 1,Ab 4 0,Ab 5 0]
def rL:LSO:=[Aa 10 0,AA 11 10,Aa 9 11]
def rK:LSO:=[Ab 4 1,Ab 5 1]
def rJ:LSO:=[Aa 13 0,Ae 14 13,Ad 15 3 14,Ac 16 1 15,Aa 12 16]
def rI:LSO:=[Ab 4 80,Ab 5 12]
def rH:LSO:=[Aa 17 0,Ae 18 17,Ad 19 1 18,Ac 20 1 19,Ae 21 20,Ad 22 0 21,Ac 23 1 22,Az 24 4 3,Ax 25 13 23 24,Aa 6 25]
def rG:LSO:=[Aa 26 6,Ay 27 26 0]
def rF:LSO:=[Aa 28 6,Aa 4 28,Ab 5 0]
def rE:LSO:=[Az 30 4 3,Ag 31 14 30,Aa 29 31,Am 32 29,Ap 33 29,Aa 7 32,Aa 8 33]
def rD:LSO:=[Aa 34 8,Ay 35 34 0,Aa 36 35,.grp none 36 false
 [Ah 37 36 7,Bw 38 36 37,AD 39 36 38 262144]
 40 (tm 39)]
def pM:LSO:=[Ab 4 80,Ab 5 0]
def pL:LSO:=[Aa 41 0,Ae 42 41,Ad 43 2 42,Ac 44 1 43,Aa 45 7,Ax 46 28 44 45,Aa 8 46]
def pK:LSO:=[Aa 47 8,A0 48 47 11]
def pJ:List (aj×Kd):=
 [Ar 49 0,A1 50 49 0 0,As 51 2 50,Au 52 1 51 0 0,Ar 53 0,A1 54 53 0 0,As 55 1 54,Au 56 1 55 0 0,A1 57 56 0 0,As 58 0 57,Au 59 1 58 0 0,AM 60 30 59 0 0]
def ni:List aj :=
 [⟨(some 61),(.call 29 [(tm 52),(tm 60)]),none⟩,⟨(some 8),(.mv (tm 61)),none⟩]
def pI:LSO:=[Aa 62 8,A0 63 62 0]
def pH:LSO:=[Aa 64 0,Ae 65 64,Ad 66 2 65,Ac 67 1 66,Aa 68 7,Ax 69 28 67 68,Aa 8 69]
def pG:LSO:=[Aa 70 8]
def pF:LSO:=[A0 72 70 0,Aa 71 72]
def pE:List (aj×Kd):=
 [Ar 73 0,A1 74 73 0 0,As 75 1 74,Au 76 1 75 0 0,BY 77 4 3 0 0]
def nh:List aj :=
 [⟨(some 78),(.call 31 [(tm 76),(tm 77)]),none⟩,⟨(some 4),(.mv (tm 78)),none⟩,⟨(some 5),(.mv (iv 0)),none⟩]
def pD:LSO:=[A0 80 70 11,Aa 79 80]
def pC:LSO:=[A0 81 70 5,Aa 79 81]
def pB:LSO:=[Ab 4 80,Ab 5 0]
def pA:LSO:=[Aa 82 0,Ae 83 82,Ad 84 3 83,o0 (.store 1 (tm 84) (.av (.bool true)))]
def pw:LSO:=[Aa 85 8,Ab 4 80,Aa 5 85]
def cA:aI:=⟨86,(ahW rM [] (.seq (.block 0 (ahW rL Ce (ahX 9 (ahW rK [] .ret) (ahW rJ Cg (ahY 12 (.sreg rI [])))))) (.seq (.seq (.sdreg rH [.pure,(.read 0 0),.pure,(.read 0 0),(.read 0 0),.pure,(.read 0 0),(.read 0 0)] Cl) (ahW rG Cd (ahY 27 (.sreg rF Cj)))) (ahW rE Cm (.seq (ahW rD Cf (ahY 40 (.sreg pM []))) (ahW pL Ch (.seq (ahW pK Cd (ahX 48 (.seq (.dregM pJ ni CD) (ahW pI Cd (ahX 63 (.sreg pH Ch) .skip))) .skip)) (.seq (ahW pG [] (.block 1 (ahW pF Cd (ahX 71 (.seq (.dregM pE nh Cr) .ret) (.seq (ahW pD Cd (ahX 79 .skip (.sreg pC Cd))) (ahY 79 (.sreg pB []))))))) (ahW pA Cu (ahW pw Cj .ret)))))))))),[(.tmp 4),(.tmp 5)]⟩
attribute [push_cast] rM rL rK rJ rI rH rG rF rE rD pM pL pK pJ ni pI pH pG pF pE nh pD pC pB pA pw
theorem jq:ah1 11=ah2 cA:=ah5
def gM:LSO:=[Ab 2 0]
def gL:LSO:=[Aa 5 0,AA 6 5,Aa 4 6]
def gK:LSO:=[Ab 2 1]
def gJ:LSO:=[Aa 8 0,Ae 9 8,Ad 10 3 9,Ac 11 1 10,Aa 7 11]
def gI:LSO:=[Ab 2 12]
def gH:List (aj×Kd):=
 [Ar 12 0,A1 13 12 0 0,As 14 2 13,Au 15 1 14 0 0,Ar 16 0,A1 17 16 0 0,As 18 1 17,Au 19 1 18 0 0,A1 20 19 0 0,As 21 0 20,Au 22 1 21 0 0,AM 23 30 22 0 0]
def gw:List aj :=
 [⟨(some 24),(.call 29 [(tm 15),(tm 23)]),none⟩,⟨(some 3),(.mv (tm 24)),none⟩]
def gG:LSO:=[Aa 25 0,Aa 26 3,Ay 27 26 0,Aa 28 27,.grp none 28 true
 [An 29 28 3,Bt 30 28 29 11]
 31 (tm 30),Aa 32 31,.grp none 32 true
 [An 33 32 3,Bt 34 32 33 5]
 35 (tm 34),Ae 36 25,Ad 37 3 36,Ai 1 37 35]
def gF:LSO:=[Aa 38 3,Aa 2 38]
def eI:aI:=⟨39,(ahW gM [] (.seq (.block 0 (ahW gL Ce (ahX 4 (ahW gK [] .ret) (ahW gJ Cg (ahY 7 (.sreg gI [])))))) (.seq (.dregM gH gw CD) (ahW gG CJ (ahW gF Cd .ret))))),[(.tmp 2)]⟩
attribute [push_cast] gM gL gK gJ gI gH gw gG gF
theorem qO:ah1 17=ah2 eI:=ah5
def xE:LSO:=[Aq 0]
def xD:LSO:=[o1 1 (.build [(.str []),(.str [])] [(0,(1,(.av (.str [100,99])))),(1,(1,(.av (.str [122]))))]),
 o1 2 (.bslice false 2 1 [(.str []),(.str [])] [(0,(2,(tm 1)))]),Bc 3 2,Aa 0 3]
def sS:aI:=⟨4,(ahW xE [] (ahW xD Cf .ret)),[(.tmp 0)]⟩
attribute [push_cast] xE xD
theorem Mi:ah1 8=ah2 sS:=ah5
def DS:LSO:=[Al 0]
def DR:LSO:=[o1 8 (.call 6 [(iv 40)]),Aa 1 8]
def DQ:LSO:=[Aa 10 1,Bb 11 8,Ax 12 7 10 11,Aa 9 12,Am 13 9,Ap 14 9,Aa 2 13,Aa 3 14]
def DP:LSO:=[Aa 15 3,Ay 16 15 0,Aa 17 16,.grp none 17 false
 [Ah 18 17 2,BO 19 17 18]
 20 (tm 19)]
def DO:LSO:=[Al 0]
def DN:LSO:=[Aa 22 2,Bb 23 8,o1 24 (.build [(.int .i64 0),(.sl [] 0 (some 0)),(.sl [] 0 (some 0)),(.sl [] 0 (some 0))] [(0,(1,(iv 1))),(1,(1,(tm 23)))]),
 Ax 25 11 22 24,Aa 21 25,Am 26 21,Ap 27 21,Aa 4 26,Aa 5 27]
def DM:LSO:=[Aa 28 1,o1 29 (.build [(.int .u64 0),(.int .i64 0),(.int .i64 0)] [(1,(1,(iv (-1))))]),Ax 30 24 28 29]
def DL:LSO:=[Aa 32 1,Bb 33 8,Ax 34 7 32 33,Aa 31 34,Am 35 31,Ap 36 31,Aa 6 35,Aa 7 36]
def DK:LSO:=[Aa 37 4,A0 38 37 0,Aa 39 38,.grp none 39 true
 [An 40 39 5,AY 41 39 40 0]
 42 (tm 41),Aa 43 42,.grp none 43 true
 [An 44 43 7,AY 45 43 44 0]
 46 (tm 45),Aa 47 46,.grp none 47 true
 [An 48 47 6,og 49 47 true (.eqk true .ptr (tm 48) (.av .nilptr))]
 50 (tm 49),Aa 51 50,.grp none 51 true
 [An 52 51 6,B6 53 51 52,AT 54 51 0 53,AO 55 51 1 54,BN 56 51 25 55,AY 57 51 56 1]
 58 (tm 57),Aa 59 58,.grp none 59 true
 [An 60 59 6,B6 61 59 60,AT 62 59 0 61,AO 63 59 1 62,og 64 59 true (.call 8 []),B7 65 59 26 63 64,AY 66 59 65 1]
 67 (tm 66),Aa 0 67]
def wj:aI:=⟨68,(ahW DS [] (ahW DR Cd (ahW DQ Cr (.seq (ahW DP Cf (ahY 20 (.sreg DO []))) (ahW DN Cx (ahW DM Cu (ahW DL Cr (.seq (.sdreg DK [.pure,.pure,.pure,.pure,.pure,.pure,.pure,.pure,.pure,.pure,.pure,.pure,.pure,.pure,.pure,.pure,(.read 0 0),.pure,(.read 0 0),(.read 0 0),.pure,.pure,.pure,.pure,(.read 0 0),.pure,(.read 0 0),(.read 0 0)] CA) .ret)))))))),[(.tmp 0)]⟩
attribute [push_cast] DS DR DQ DP DO DN DM DL DK
theorem Nf:ah1 9=ah2 wj:=ah5
def uD:LSO:=[Aq 2]
def uC:LSO:=[Aq 3]
def uB:LSO:=[Aa 8 0,Ae 9 8,Ad 10 0 9,Ac 11 1 10,Aa 12 0,Ae 13 12,Ad 14 0 13,Ac 15 1 14,Aa 16 0,Ae 17 16,Ad 18 0 17,Ac 19 1 18,Ag 20 33 19,Ax 21 26 15 20,
 Ba 22 32 11 21 2,Af 23 22,Ab 24 0]
def uA:LSO:=[Ao 25 24 23]
def uz:LSO:=[Ak 26 1 22 24,Ac 27 1 26,Aa 5 27]
def uy:LSO:=[Aa 29 0,Ae 30 29,Ad 31 0 30,Ac 32 1 31,Aa 33 5,Ax 34 34 32 33,Aa 28 34,Am 35 28,Ap 36 28,Aa 6 35,Aa 7 36]
def ux:LSO:=[Aa 37 3,Aa 38 6,Aa 39 7,o1 40 (.build [(.int .i64 0),(.sl [] 0 (some 0)),(.sl [] 0 (some 0))] [(1,(1,(tm 38))),(2,(1,(tm 39)))]),
 o1 41 (.bslice false 3 1 [(.int .i64 0),(.sl [] 0 (some 0)),(.sl [] 0 (some 0))] [(0,(3,(tm 40)))]),
 o1 42 (.app 1 3 56 [(.int .i64 0),(.sl [] 0 (some 0)),(.sl [] 0 (some 0))] (tm 37) (tm 41)),Aa 3 42]
def uw:LSO:=[Aj 43 24 1,Aa 24 43]
def uv:LSO:=[Aa 44 3,Aa 2 44]
def ow:aI:=⟨45,(ahW uD [] (ahW uC [] (.seq (.seq (.sdreg uB [.pure,(.read 0 0),.pure,(.read 0 0),.pure,(.read 0 0),.pure,(.read 0 0),.pure,(.read 0 0),.pure,(.read 0 0),(.read 0 0),(.read 0 0),(.read 0 0),(.read 0 0),.pure] [true,true,true,false,false,false,false,false,false,false,false,false,false,false,false,false,false]) (ahZ 0 (ahW uA [] (.seq (ah0 25 0) (.seq (.block 1 (ahW uz Ce (ahW uy C5 (.sreg ux Ch)))) (.sreg uw Cd)))))) (ahW uv Cd .ret)))),[(.tmp 2)]⟩
attribute [push_cast] uD uC uB uA uz uy ux uw uv
theorem JQ:ah1 12=ah2 ow:=ah5
def nA:LSO:=[Al 4]
def nz:LSO:=[o1 16 (.call 6 [(iv 300)]),Aa 5 16]
def ny:LSO:=[Aa 18 5,Bb 19 8,Ax 20 7 18 19,Aa 17 20,Am 21 17,Ap 22 17,Aa 6 21,Aa 7 22]
def nw:LSO:=[Bb 23 9,A6 24 23,Aa 25 24,.grp none 25 false
 [Ah 26 25 7,BS 27 25 26 0]
 28 (tm 27),Aa 29 28,.grp none 29 false
 [Ah 30 29 0,AH 31 29 30,AD 32 29 31 20]
 33 (tm 32)]
def nv:LSO:=[Bb 34 9,Aa 4 34]
def nu:LSO:=[Aa 35 0,Af 36 35,Ab 37 0]
def nr:LSO:=[Ao 38 37 36]
def nq:LSO:=[Aa 39 37,Ak 40 4 35 37,Az 41 4 40,Bk 9,Aa 8 39,Ai 4 9 41]
def nn:LSO:=[Az 42 4 9,Ag 43 10 42,A6 44 43]
def nj:LSO:=[AC 4]
def ma:LSO:=[Aa 46 6,Az 47 4 9,Ax 48 11 46 47,Aa 45 48,Am 49 45,Ap 50 45,Aa 10 49,Aa 11 50]
def l9:LSO:=[Aa 51 11,Ay 52 51 0]
def l8:LSO:=[Al 4]
def l7:LSO:=[Aa 53 8,Aa 54 1,Af 55 54,Ao 56 53 55,Aa 57 56,.grp none 57 true
 [An 58 57 1,An 59 57 8,og 60 57 true (.iaddr 1 (tm 58) (tm 59)),AO 61 57 1 60]
 62 (tm 61)]
def l6:LSO:=[Aa 63 6,Ag 64 17 63,Aa 12 64]
def lZ:LSO:=[Aa 65 12,Ay 66 65 0,Aa 67 66,.grp none 67 true
 [An 68 67 12,Bt 69 67 68 11]
 70 (tm 69)]
def lY:LSO:=[Al 4]
def lX:LSO:=[Aa 71 6,Ag 72 12 71,Aa 13 72]
def lW:LSO:=[Aa 74 5,Bb 75 8,Ax 76 7 74 75,Aa 73 76,Am 77 73,Ap 78 73,Aa 6 77,Aa 7 78]
def lV:LSO:=[Aa 79 7,Ay 80 79 0,Aa 81 80,.grp none 81 false
 [Ah 82 81 6,BB 83 81 12 82,Ah 84 81 13,Cb 85 81 16 83 84,Bx 86 81 85]
 87 (tm 86)]
def lU:LSO:=[Al 4]
def lT:LSO:=[Aj 88 37 1,Aa 37 88]
def lS:LSO:=[Aa 90 5,Bb 91 8,Ax 92 7 90 91,Aa 89 92,Am 93 89,Ap 94 89,Aa 14 93,Aa 15 94]
def lR:LSO:=[Aa 95 15,A0 96 95 0,Aa 97 96,.grp none 97 true
 [An 98 97 14,BN 99 97 12 98,An 100 97 6,BN 101 97 12 100,B7 102 97 16 99 101]
 103 (tm 102),Aa 4 103]
def jX:aI:=⟨104,(ahW nA [] (ahW nz Cd (ahW ny Cr (.seq (ahW nw Ci (ahY 33 (.sreg nv Cd))) (.seq (ahW nu [] (ahZ 0 (ahW nr [] (.seq (ah0 38 0) (.seq (.block 1 (ahW nq Co (.seq (ahW nn Ce (ahY 44 (.sreg nj []))) (.seq (ahW ma Ck (ahW l9 Cd (ahY 52 (.sreg l8 [])))) (ahW l7 Ci (ahX 62 (.seq (ahW l6 Ce (ahW lZ Cf (ahY 70 (.sreg lY [])))) (ahW lX Ce (ahW lW Cr (ahW lV Cf (ahY 87 (.sreg lU [])))))) .skip)))))) (.sreg lT Cd)))))) (ahW lS Cr (ahW lR Cg .ret))))))),[(.tmp 4)]⟩
attribute [push_cast] nA nz ny nw nv nu nr nq nn nj ma l9 l8 l7 l6 lZ lY lX lW lV lU lT lS lR
theorem Eh:ah1 4=ah2 jX:=ah5
attribute [push_cast] zm cA eI sS wj ow jX
end Go.Proofs.YtajkbcmleihaoaaGreatDoor.Av
