/- Joined texts of the walk, made small by a program. -/
import Derived.Test.YtajkbcmleihaoaaGreatDoorWk8
import Derived.Test.YtajkbcmleihaoaaGreatDoorWk7
import Derived.Test.YtajkbcmleihaoaaGreatDoorWk5
import Derived.Shelf.Strings.Builder1
import Derived.Shelf.Strings.Builder2
import Derived.Shelf.Strings.OnBuilder
import Derived.Shelf.Small.Utf8
import Derived.Shelf.Small.Bits
import Derived.Shelf.Small.Strs
import Derived.Shelf.Strconv.Itoa0
import Derived.Shelf.Strings.Search1
import Derived.Shelf.Strings.Search2
import Derived.Shelf.Strings.Cut
import Derived.Shelf.LaysM
import Derived.Shelf.Strings.Shaped
import Derived.Shelf.Sort.Plain
import Derived.Shelf.Strings.Prefix
import Derived.Shelf.Strings.Runes
import Derived.Shelf.Strings.AsciiSet
import Derived.Shelf.Bits.Mul64
import Derived.Shelf.Unicode.DecodeSlow
import Derived.Shelf.Unicode.DecodeAny
import Derived.Shelf.Unicode.DecodeLast
import Derived.Shelf.Slices.Equal
import Derived.Shelf.Slices.In.SortNone
import Derived.Ground.SlsfProg
import Derived.Shelf.SlSortCmp.Insertion
import Derived.Shelf.SlSortCmp.SiftDown1
import Derived.Shelf.SlSortCmp.HeapSort1
import Derived.Shelf.SlSortCmp.Insertion1
import Derived.Shelf.SlSortCmp.Median1
import Derived.Shelf.SlSortCmp.Pivot1
import Derived.Shelf.SlSortCmp.ReverseRange1
import Derived.Shelf.SlSortCmp.PartialInsertion1
import Derived.Shelf.SlSortCmp.PartitionEqual1
import Derived.Shelf.SlSortCmp.Partition1
import Derived.Shelf.SlSortCmp.Pdq1
import Derived.Shelf.SlSortCmp.Whole1
import Derived.Shelf.Spec.SlicesGrow
import Derived.Ground.Names8Prog
import Derived.Test.YtajkbcmleihaoaaGreatDoorProg
import Derived.Test.YtajkbcmleihaoaaGreatDoorWk4
import Derived.Test.YtajkbcmleihaoaaGreatDoorRows
import Derived.KernelRfl
set_option linter.unusedSimpArgs false
set_option linter.unusedVariables false
namespace Go.Proofs.YtajkbcmleihaoaaGreatDoor.Av
open Go
set_option maxHeartbeats 8000000
set_option maxRecDepth 100000
structure Upd where
 kind:Int
 dn:List Rdn
 tw:List Rdn
 attrs:List Atr
abbrev NZ:Upd:=⟨0,[],[],[]⟩
def QE(l:List Atr):Nd:=.mk 48 [] (l.map G5)
def D4(k:Int)(s t:List UInt8)(l:List Atr):Nd :=
 .mk 48 [] (([.mk 2 [b8 k.toNat] [],bA s]++if k=4 then[bA t]else[])++if k=2 then[]else[QE l])
def wrU(u:Upd):List UInt8×Int :=
 if u.kind<1\/4<u.kind then([],24)else if(prS u.dn).2≠0 then([],(prS u.dn).2)else if u.kind=4/\(prS u.tw).2≠0 then([],(prS u.tw).2)
 else fe 4 (D4 u.kind (prS u.dn).1 (prS u.tw).1 u.attrs)
def kV(u:Upd):Upd:=⟨u.kind,u.dn,if u.kind=4 then u.tw else[],if u.kind=2 then[]else u.attrs⟩
def vW(l:List Nd):List (List UInt8):=l.map Nd.data
def yx:List Nd->Option (List Atr)
 |[]=>some []
 |a::l=>if a.kids.length≠2 then none else(yx l).map λr=>((a.kids.getD 0 ce).data,vW (a.kids.getD 1 ce).kids)::r
def UB(n:Nd):Option Upd :=
 let l:=n.kids
 if l.length<2\/4<l.length then none else
 match UK (l.getD 0 ce).data with
 |none=>none
 | some k =>
   let p:=kH (l.getD 1 ce).data
   let r:=l.drop 2
   let q:=if k=4/\r≠[]then kH (r.getD 0 ce).data else([],0)
   let r':=if k=4 then r.drop 1 else r
   if p.2≠0\/q.2≠0\/1<r'.length then none else
   match r' with
   |[]=>some ⟨k,p.1,q.1,[]⟩
   |x::_=>(yx x.kids).map λa=>⟨k,p.1,q.1,a⟩
def rdU(s:List UInt8):Upd×Int:=match Oa s with
 |.error e=>(NZ,e)
 | .ok n=>match UB n with
   |none=>(NZ,4)
   |some u=>if(wrU u).2≠0\/(wrU u).1≠s then(NZ,4)else(kV u,0)
def VU(a:Nd):Option Atr :=
 if a.tag≠48\/a.kids.length≠2\/(a.kids.getD 0 ce).tag≠4\/(a.kids.getD 1 ce).tag≠49 then none else
 if(a.kids.getD 1 ce).kids.all (λv=>decide (v.tag=4))=true then some ((a.kids.getD 0 ce).data,vW (a.kids.getD 1 ce).kids)else none
def Me:List Nd->Option (List Atr)
 |[]=>some []
 | a::l=>match VU a with
   |none=>none
   |some x=>(Me l).map λr=>x::r
def G7(n:Nd):Option Upd :=
 let l:=n.kids
 let k:Int:=((l.getD 0 ce).data.getD 0 0).toNat
 if n.tag≠48\/l.length<2\/(l.getD 0 ce).tag≠2\/(l.getD 0 ce).data.length≠1 then none else
 if k<1\/4<k\/l.length≠1+(if k=4 then 2 else 1)+(if k=2 then 0 else 1)then none else
 if(kH (l.getD 1 ce).data).2≠0\/(l.getD 1 ce).tag≠4 then none else
 if k=4/\((kH (l.getD 2 ce).data).2≠0\/(l.getD 2 ce).tag≠4)then none else
 if k=2 then some ⟨k,(kH (l.getD 1 ce).data).1,[],[]⟩else
 let x:=l.getD (l.length-1) ce
 if x.tag≠48 then none else
 (Me x.kids).map λa=>⟨k,(kH (l.getD 1 ce).data).1,if k=4 then(kH (l.getD 2 ce).data).1 else[],a⟩
theorem RQ{d:List Rdn}(h:(prS d).2=0):kH (prS d).1=(d,0):=by unfold prS at h⊢;split at h;rename_i a;exact absurd h a;rename_i a;split at h;cases h;rename_i c;split at h;cases h;rename_i b;rw[if_neg a,if_neg c,if_neg b];exact Tc (by simpa using a) ahd
theorem OP(d:List Rdn):(prS d).1.length<=4096:=by
 unfold prS
 repeat' split
 all_goals first|(simp;done)|(simp only;omega)
theorem abA(t:UInt8){n:Nat}(c:n<=1048576)(rest:List UInt8):MH (t::(yM n++rest))=.ok (n,1+(yM n).length):=by
 unfold yM;split;rename_i h;simp[MH,JD,show n%256=n by omega,h];split;rename_i a h;have e:bW [b8 n]=n:=by simp only[bW,aft,agD,JD];omega
 simp[MH,e,show ¬1048576<n by omega];rw[if_neg ahd,if_neg ahd];split;rename_i a b h;have e:bW [b8 (n/256),b8 n]=n:=by simp only[bW,aft,agD,JD];omega
 simp[MH,e,show ¬1048576<n by omega];rw[if_neg ahd,if_neg ahd];rename_i a b h;have e:bW [b8 (n/65536),b8 (n/256),b8 n]=n:=by simp only[bW,aft,agD,JD];omega
 simp[MH,e,show ¬1048576<n by omega];rw[if_neg ahd,if_neg ahd]
theorem Ta{t:Nat}(j:t<256)(a:t%32≠31){body:List UInt8}(h:body.length<=1048576)(rest:List UInt8)(f:Nat):
  ng (f+1) (b8 t::(yM body.length++body)++rest)=if t/32%2=0 then .ok (.mk t body [],rest)else match qq (ng f) body.length body with
   |.error e=>.error e
   |.ok ks=>.ok (.mk t [] ks,rest):=by
 have c:b8 t::(yM body.length++body)++rest=b8 t::(yM body.length++(body++rest)):=ahe;have d:=abA (b8 t) h (body++rest);have i:(b8 t).toNat=t:=by rw[JD];omega
 have b:((b8 t::(yM body.length++(body++rest))).drop (1+(yM body.length).length))=body++rest:=by rw[Nat.add_comm,agx,List.drop_left]
 have g:((b8 t::(yM body.length++(body++rest))).drop (1+(yM body.length).length+body.length))=rest:=by rw[<- afU,b,List.drop_left]
 rw[c,ng,if_neg ahe];simp only[d,b,g,List.getD_cons_zero,i,if_neg a,List.take_left];rw[if_neg (by simp;omega)];rfl
theorem YQ{t:Int}{d:List UInt8}:∀h:Nat,fe h (.mk t d [])=if 1048576<d.length then([],5)else(b8 t.toNat::(yM d.length++d),0)
 |0=>rfl
 |h+1=>by rw[fe,if_neg (by simp[sy])];rfl
theorem S9{t:Int}(c:t=2\/t=4){d rest:List UInt8}{h f:Nat}(a:(fe h (.mk t d [])).2=0):ng (f+1) ((fe h (.mk t d [])).1++rest)=.ok (.mk t d [],rest):=by rw[YQ]at a⊢;split at a;cases a;rename_i b;rw[if_neg b];have:=Ta (t:=t.toNat) ahd ahd (body:=d) ahd rest f;rw[if_pos ahd]at this;rw[this];congr 3;omega
theorem Tq{p:Nd->List UInt8×Int}{q:List UInt8->Except Int (Nd×List UInt8)}:∀(d:List Nd) (a:List UInt8),(∀k∈d,(p k).2=0->(p k).1≠[]/\∀rest,q ((p k).1++rest)=.ok (k,rest))->(sy p a d).2=0 ->
  ∃b,(sy p a d).1=a++b/\∀F,b.length<=F->qq q F b=.ok d
 |[],a,_,_=>⟨[],by simp[sy],λF _=>by cases F<;>rfl⟩
 | n::l,a,hq,hc=>by
   rw[sy]at hc⊢;split at hc
   .rename_i h;exact absurd hc h
   rename_i i;have g:(p n).2=0:=(by simpa using i);rw[if_neg i];obtain⟨b,u,v⟩:=Tq l (a++(p n).1) (λk s=>hq k (by simp[s])) hc;obtain⟨m,h4⟩:=hq n ahe g;refine⟨(p n).1++b,by rw[u];simp,λF t=>?_⟩;have j:=afa.2 m;rw[aez]at t;obtain⟨f,rfl⟩:∃f,F=f+1:=⟨F-1,ahd⟩;obtain⟨c,r,e⟩:∃c r,(p n).1++b=c::r:=by
    rcases hh:(p n).1 with _|⟨c,r⟩
    .exact absurd hh m
    .exact⟨c,r++b,rfl⟩
   have o:=h4 b;rw[e]at o⊢;rw[qq,o]
   .simp only[v f ahd]
   .simp
theorem acG{h:Nat}{n:Nd}(a:(fe h n).2=0):(fe h n).1≠[]:=by
 obtain⟨t,d,b⟩:=n;cases h with
 | zero =>
   rw[fe]at a⊢;split at a
   .cases a
   .rename_i e;rw[if_neg e];simp
 | succ h =>
   rw[fe]at a⊢;split at a
   .rename_i e;exact absurd a e
   rename_i e;rw[if_neg e];split at a
   .cases a
   .rename_i e;rw[if_neg e];simp
theorem VZ:∀(h:Nat) (n:Nd) (rest:List UInt8) (f:Nat),okN h n->(fe h n).2=0->h<f->ng f ((fe h n).1++rest)=.ok (n,rest)
 |0,.mk t d ks,rest,f,ho,hp,hf=>by obtain⟨i,rfl,_⟩:=ho;obtain⟨a,rfl⟩:∃a,f=a+1:=⟨f-1,ahd⟩;exact S9 i hp
 | h+1,.mk t d ks,rest,f,ho,hp,hf=>by
   obtain⟨a,rfl⟩:∃a,f=a+1:=⟨f-1,ahd⟩;rcases ho with⟨i,rfl,_⟩|⟨i,rfl,_,m⟩
   .exact S9 i hp
   have c:(sy (fe h) [] ks).2=0:=by
    rw[fe]at hp;split at hp
    .rename_i e;exact absurd hp e
    .rename_i e;simpa using e
   obtain⟨b,l,o⟩:=Tq (p:=fe h) (q:=ng a) ks [] (λk j g=>⟨acG g,λrest=>VZ h k rest a (m k j) g ahd⟩) c;rw[ae5]at l;rw[fe,if_neg (by simpa using c),l]at hp⊢;split at hp
   .cases hp
   rename_i r;rw[if_neg r];have:=Ta (t:=t.toNat) ahd ahd (body:=b) ahd rest a;rw[if_neg ahd,o _ (aek _)]at this;simp only at this;rw[show((t.toNat:Nat):Int)=t by omega]at this;exact this
theorem aaz{h:Nat}{n:Nd}(a:okN h n)(c:(fe h n).2=0)(b:h<64):Oa (fe h n).1=.ok n:=by have:=VZ h n [] 64 a c b;rw[aeL]at this;rw[Oa,this];simp
theorem W6{k:Int}(a:1<=k)(h4:k<=4):UK [b8 k.toNat]=some k:=by have:k=1\/k=2\/k=3\/k=4:=ahd;rcases this with rfl|rfl|rfl|rfl<;>decide
theorem Xm{k:Int}(a:1<=k)(h4:k<=4):UY k=[b8 k.toNat]:=by have:k=1\/k=2\/k=3\/k=4:=ahd;rcases this with rfl|rfl|rfl|rfl<;>decide
theorem Xg{k:Int}(a:1<=k)(h4:k<=4):((b8 k.toNat).toNat:Int)=k:=by rw[JD];omega
theorem WA(l:List (List UInt8)):vW (l.map bA)=l:=by
 induction l with
 |nil=>rfl
 |cons x l ih=>simp only[vW,aex]at ih⊢;rw[ih];rfl
theorem WZ(a:Atr):VU (G5 a)=some a:=by
 have e:(a.2.map bA).all (λv=>decide (v.tag=4))=true:=by rw[aev];intro x b;obtain⟨y,_,rfl⟩:=ael.1 b;rfl
 simp[VU,G5,Nd.kids,Nd.tag,bA,Nd.data]at e⊢;simp[WA]
theorem qG:∀l:List Atr,Me (l.map G5)=some l
 |[]=>rfl
 |a::l=>by rw[aex,Me,WZ,qG l];rfl
theorem YE{k:Int}(b:1<=k)(h4:k<=4){s t:List UInt8}{l:List Atr}(a:(kH s).2=0)(c:k=4->(kH t).2=0):
  G7 (D4 k s t l)=some ⟨k,(kH s).1,if k=4 then(kH t).1 else[],if k=2 then[]else l⟩:=by
 have d:=Xg b h4;have:k=1\/k=2\/k=3\/k=4:=ahd;rcases this with rfl|rfl|rfl|rfl;simp[G7,D4,Nd.kids,Nd.tag,Nd.data,bA,QE,a,qG,b8];simp[G7,D4,Nd.kids,Nd.tag,Nd.data,bA,QE,a,qG,b8];simp[G7,D4,Nd.kids,Nd.tag,Nd.data,bA,QE,a,qG,b8];simp[G7,D4,Nd.kids,Nd.tag,Nd.data,bA,QE,a,c rfl,qG,b8]
theorem Jb:∀(l:List Nd){r:List Atr},Me l=some r->yx l=some r
 |[],r,h=>h
 | a::l,r,h=>by
   rw[Me]at h;split at h
   .cases h
   rename_i x b;rw[aeK]at h;obtain⟨e,d,rfl⟩:=h;unfold VU at b;split at b
   .cases b
   rename_i c;split at b
   .cases b;rw[yx,if_neg (by simp only[not_or]at c;exact c.2.1),Jb l d];rfl
   .cases b
theorem YD{n:Nd}{u:Upd}(h:G7 n=some u):UB n=some u:=by
 obtain⟨H,I,l⟩:=n;obtain⟨k,g⟩:∃k:Int,(((l.getD 0 ce).data.getD 0 0).toNat:Int)=k:=⟨_,rfl⟩;unfold G7 at h;simp only[Nd.kids,g]at h;have f:∀{c:Prop} [Decidable c]{x:Option Upd},(if c then none else x)=some u->¬c/\x=some u:=λ{c} _ {x} e=>by by_cases A:c;rw[if_pos A]at e;cases e;rw[if_neg A]at e;exact⟨A,e⟩
 obtain⟨B,h⟩:=f h;obtain⟨C,h⟩:=f h;obtain⟨m,h⟩:=f h;obtain⟨D,h⟩:=f h;simp only[not_or]at B C m;obtain⟨_,G,_,p⟩:=B;obtain⟨E,F,i⟩:=C;have j:UK (l.getD 0 ce).data=some k:=by
  have hd:(l.getD 0 ce).data=[b8 k.toNat]:=by rcases hdd:(l.getD 0 ce).data with _|⟨c,_|⟨J,r⟩⟩;rw[hdd]at p;simp at p;rw[hdd]at g;simp at g;rw[<- g];simp[b8];rw[hdd]at p;simp at p
  rw[hd];exact W6 ahd ahd
 have q:l.length=1+(if k=4 then 2 else 1)+(if k=2 then 0 else 1):=by simpa using i
 have w:l.length<=4:=by rw[q];split<;>split<;>omega
 unfold UB;simp only[Nd.kids,j];rw[if_neg ahd];clear j g p G i;by_cases y:k=4;subst y;have z:l.length=4:=by rw[q];decide
 obtain⟨a,b,c,d,rfl⟩:∃a b c d,l=[a,b,c,d]:=by
  match l,z with
  |[a,b,c,d],_=>exact⟨a,b,c,d,rfl⟩
 rw[if_neg (by decide)]at h;obtain⟨_,h⟩:=f h;clear f;rw[aeK]at h;obtain⟨r,o,rfl⟩:=h;simp at o m D⊢;simp[m.1,D.1,Jb _ o];by_cases t:k=2;subst t;have s:l.length=2:=by rw[q];decide
 rw[if_pos rfl]at h;cases h;obtain⟨a,b,rfl⟩:∃a b,l=[a,b]:=by
  match l,s with
  |[a,b],_=>exact⟨a,b,rfl⟩
 simp at m;simp[m.1];have v:l.length=3:=by rw[q,if_neg y,if_neg t]
 obtain⟨a,b,c,rfl⟩:∃a b c,l=[a,b,c]:=by
  match l,v with
  |[a,b,c],_=>exact⟨a,b,c,rfl⟩
 rw[if_neg t]at h;obtain⟨_,h⟩:=f h;clear f;rw[aeK]at h;obtain⟨r,o,rfl⟩:=h;simp at o m;simp[y,m.1,Jb _ o]
theorem WQ{n:Nd}{u:Upd}(h:G7 n=some u):kV u=u:=by
 obtain⟨k,d⟩:∃k:Int,(((n.kids.getD 0 ce).data.getD 0 0).toNat:Int)=k:=⟨_,rfl⟩;unfold G7 at h;simp only[d]at h;have a:∀{c:Prop} [Decidable c]{x:Option Upd},(if c then none else x)=some u->x=some u:=λ{c} _ {x} e=>by by_cases f:c;rw[if_pos f]at e;cases e;rw[if_neg f]at e;exact e
 have h:=a (a (a (a h)));by_cases b:k=2;rw[if_pos b]at h;cases h;simp[kV,b];rw[if_neg b]at h;have h:=a h;rw[aeK]at h;obtain⟨r,i,rfl⟩:=h;by_cases g:k=4;simp[kV,g];simp[kV,g,b]
def qF(u:Upd):Prop:=u.attrs.length<=1100000/\∀a∈u.attrs,(a.1.length:Int)<=140737488351232/\a.2.length<=1100000/\∀v∈a.2,(v.length:Int)<=140737488351232
theorem Y2{a:Atr}(c:(a.1.length:Int)<=140737488351232)(d:a.2.length<=1100000)(e:∀v∈a.2,(v.length:Int)<=140737488351232):okN 2 (G5 a):=by refine .inr ⟨.inl rfl,rfl,ahe,λk b=>?_⟩;simp only[aeJ,afq,or_false]at b;rcases b with rfl|rfl;exact GM c 1;refine .inr ⟨.inr rfl,rfl,by simpa using d,λk b=>?_⟩;obtain⟨v,f,rfl⟩:=ael.1 b;exact GM (e v f) 0
theorem acK{l:List Atr}(b:l.length<=1100000)(h:∀a∈l,(a.1.length:Int)<=140737488351232/\a.2.length<=1100000/\∀v∈a.2,(v.length:Int)<=140737488351232):okN 3 (QE l):=by refine .inr ⟨.inl rfl,rfl,by simpa using b,λk c=>?_⟩;obtain⟨a,d,rfl⟩:=ael.1 c;obtain⟨e,f,g⟩:=h a d;exact Y2 e f g
theorem Y1{k:Int}{s t:List UInt8}{l:List Atr}(d:(s.length:Int)<=140737488351232)(e:(t.length:Int)<=140737488351232)(c:l.length<=1100000)(h:∀a∈l,(a.1.length:Int)<=140737488351232/\a.2.length<=1100000/\∀v∈a.2,(v.length:Int)<=140737488351232):okN 4 (D4 k s t l):=by refine .inr ⟨.inl rfl,rfl,?_,λx b=>?_⟩;simp only[aez,aeB,aeY];split<;>split<;>simp;rcases aen.1 b with b|b;rcases aen.1 b with b|b;simp only[aeJ,afq,or_false]at b;rcases b with rfl|rfl;exact .inl ⟨.inl rfl,rfl,ahe⟩;exact GM d 3;split at b;rw[aeG.1 b];exact GM e 3;cases b;split at b;cases b;rw[aeG.1 b];exact acK c h
theorem X8{u:Upd}(h:(wrU u).2=0):1<=u.kind/\u.kind<=4/\(prS u.dn).2=0/\(u.kind=4->(prS u.tw).2=0)/\wrU u=fe 4 (D4 u.kind (prS u.dn).1 (prS u.tw).1 u.attrs):=by unfold wrU at h⊢;split at h;cases h;rename_i c;split at h;rename_i b;exact absurd h b;rename_i b;split at h;rename_i a;exact absurd h a.2;rename_i a;rw[if_neg c,if_neg b,if_neg a];refine⟨ahd,ahd,by simpa using b,λe=>?_,rfl⟩;simp only[not_and]at a;simpa using a e
theorem aaw(u:Upd):wrU (kV u)=wrU u:=by
 by_cases h4:u.kind=4;have:kV u=u:=by obtain⟨k,d,t,l⟩:=u;simp only at h4;subst h4;simp[kV]
 rw[this];by_cases a:u.kind=2;simp[wrU,kV,D4,a];simp[wrU,kV,D4,a,h4]
theorem acr{u:Upd}(a:qF u)(h:(wrU u).2=0):Oa (wrU u).1=.ok (D4 u.kind (prS u.dn).1 (prS u.tw).1 u.attrs):=by obtain⟨c,h4,hd,d,e⟩:=X8 h;rw[e]at h⊢;have l1:=OP u.dn;have b:=OP u.tw;exact aaz (Y1 ahd ahd a.1 a.2) h ahd
theorem Yz{u:Upd}(h:(wrU u).2=0):G7 (D4 u.kind (prS u.dn).1 (prS u.tw).1 u.attrs)=some (kV u):=by obtain⟨c,h4,hd,a,e⟩:=X8 h;rw[YE c h4 (by rw[RQ hd]) λe=>by rw[RQ (a e)],RQ hd];congr 2;split;rename_i b;rw[RQ (a b)];rfl
theorem adv{u:Upd}(a:qF u)(h:(wrU u).2=0):rdU (wrU u).1=(kV u,0):=by have c:=aaw u;have b:kV (kV u)=kV u:=WQ (Yz h);rw[rdU,acr a h];simp only[YD (Yz h),c];rw[if_neg (by simp[h]),b]
theorem aaA{s:List UInt8}{e:Int}(h:Oa s=.error e):e≠0:=by unfold Oa at h;split at h;rename_i a;cases h;exact OQ _ _ _ a;split at h;cases h;cases h;decide
variable {L:List Blk}{K:aeh}
abbrev dnA(d:List Rdn):AV:=.sl (d.map aH) d.length none
abbrev bV(u:Upd):List AV:=[.int .i64 u.kind,dnA u.dn,dnA u.tw,.sl (bh u.attrs) u.attrs.length none]
def dnB(d:List Rdn):Prop:=d.length<=1100000/\∀r∈d,r.length<=1100000
theorem OG{u:Upd}(hd:dnB u.dn)(ht:dnB u.tw)(Z:qF u)(h:K (Uv (wrU u)) L):aeg 14 [.agg (bV u)] L K:=by
 obtain⟨k,d,t,l⟩:=u;simp only[bV]at hd ht Z⊢;unfold wrU Uv at h;simp only at h;by_cases Q:k<1\/4<k;rw[if_pos Q]at h;replace h:=hid h;obtain⟨b,hb⟩:=aec (decide (k<1\/(4:Int)<k));have av:b=true:=by rw[<- hb,decide_eq_true_iff];omega
 subst av;clear hd ht Z;refine aa vF (by simp[ij]) ?_;simp only[ij,am];by_cases h1:k<1;clear Q hb;refine wk ?_;exact af rfl h.o;have h2:4<k:=ahd;clear Q hb;refine wk ?_;exact af rfl h.o;rw[if_neg Q]at h;have g1:¬k<1:=ahd;have g2:¬4<k:=ahd;have ab:UY k=[b8 k.toNat]:=Xm ahd ahd;obtain⟨c,hc⟩:=aec (b8 k.toNat);have kk1:Hid (Ctr Tryz.prog 39 [.int .i64 k] (.str [c])):=@hid _ (by intro L K q;exact UZ ahd ahd (by rw[ab,hc];exact q));have kk2:Hid (Ctr Tryz.prog 38 [.int .i64 2,.str [c]] (.agg [.int .i64 2,.str [c],.sl [] 0 none])):=@hid _ (by intro L K q;exact Za (by rw[bQ];exact q));clear Q;refine aa vF (by simp[ij]) ?_;simp only[ij,am]
 iterate 21 first
  |refine kX ?_
  | (first|refine ju ahf ?_|refine fO ahf ?_|refine fR ?_|refine DR ?_|refine nQ (fun _=>?_)|refine dS ?_|refine jw ?_|refine kk1.o ?_|refine kk2.o ?_|refine dv (kk1.o ⟨rfl,rfl⟩) (kk1.o ⟨rfl,rfl⟩) ?_|refine dv (kk2.o ⟨rfl,rfl⟩) (kk2.o ⟨rfl,rfl⟩) ?_|refine bq (kk1.o ⟨rfl,rfl⟩) ?_|refine bq (kk2.o ⟨rfl,rfl⟩) ?_)
    simp(config:={maxSteps:=2000000}) only[Kon,push_cast,reduceIte,Nat.reduceEqDiff,Nat.reduceAdd,Nat.reduceMul,Nat.reduceSub,Nat.reduceLT,Nat.reduceLeDiff,Int.reduceLT,Int.reduceLE,Int.reduceAdd,Int.reduceSub,Int.reduceNeg,Int.reduceToNat,Int.reduceEq,reduceCtorEq, *]
  | (first|refine jo ahf ?_|refine iF ?_|refine fQ ?_|refine jv ?_|refine nW (dR ?_))
    simp only[push_cast,reduceIte,Nat.reduceEqDiff,Nat.reduceAdd,Nat.reduceMul,Nat.reduceSub,Nat.reduceLT,Nat.reduceLeDiff,Int.reduceLT,Int.reduceLE,Int.reduceAdd,Int.reduceSub,Int.reduceNeg,Int.reduceToNat,Int.reduceEq,reduceCtorEq, *]
  |exact nR
  |first|apply nS|apply jq|apply nT|apply jr|apply nV|apply jt
  |refine fU ?_
  |refine fP ?_
  |first|refine fS rfl ?_|refine fT rfl ?_|refine cG rfl ?_ ?_|refine ir rfl (λ_=>?_) (λ_=>?_)|refine iq rfl (λ_=>?_) (λ_=>?_)
  |((first|refine cF (λ_=>?_) (λ_=>?_)|refine dQ (λ_=>?_) (λ_=>?_))<;>try simp(config:={maxSteps:=2000000}) only[Kon,push_cast,reduceIte,Nat.reduceEqDiff,Nat.reduceAdd,Nat.reduceMul,Nat.reduceSub,Nat.reduceLT,Nat.reduceLeDiff,Int.reduceLT,Int.reduceLE,Int.reduceAdd,Int.reduceSub,Int.reduceNeg,Int.reduceToNat,Int.reduceEq,reduceCtorEq, *])
  |refine And.intro trivial ?_
  |refine And.intro ahd ?_
  |refine eQ rfl (λ_=>?_) (λ_=>?_)
  |refine And.intro ?_ ?_
 obtain⟨f,r⟩:∃f,f=if k=4 then[d,t]else[d]:=⟨_,rfl⟩
 refine O0 (λT2 L2=>∃X,T2=[(5,.sl (f.map dnA) f.length none),(4,.sl [.int .i64 2,.str [c],.sl [] 0 none] 1 (some 1)),(1,.ptr L.length 0)]/\L2=L++(.cells [.int .i64 k,dnA d,dnA t,.sl (bh l) l.length none]::X)) ?_ ?_
 .by_cases h4:k=4
  .subst h4;rw[if_pos rfl]at r;subst r;have e1:=b9 t;clear kk1 kk2 hd ht Z h;refine wk ?_;exact zh [(5,.sl (List.map dnA [d,t]) 2 none),(4,.sl [.int .i64 2,.str [c],.sl [] 0 none] 1 (some 1)),(1,.ptr L.length 0)] _ (GF (zf rfl (by simp only[AV.frz,AV.frzL,b9,aex,afh]) (by repeat' first|exact GA|refine j6 rfl rfl ?_)) ahe) ⟨_,rfl,rfl⟩
  .rw[if_neg h4]at r;subst r;clear kk1 kk2 hd ht Z h;refine wk ?_;exact zh [(5,.sl (List.map dnA [d]) 1 none),(4,.sl [.int .i64 2,.str [c],.sl [] 0 none] 1 (some 1)),(1,.ptr L.length 0)] _ (GF (zf rfl (by simp only[AV.frz,AV.frzL,b9,aex,afh]) (by repeat' first|exact GA|refine j6 rfl rfl ?_)) ahe) ⟨_,rfl,rfl⟩
 rintro _ _ ⟨X,rfl,rfl⟩ -;have a4:f.length<=2:=by rw[r];split<;>simp
 have S:∀x∈f,dnB x:=λx y=>by rw[r]at y;split at y;simp at y;rcases y with rfl|rfl<;>assumption;simp at y;subst y;assumption
 obtain⟨R,F⟩:=aec ((if(prS d).2≠0 then([],(prS d).2)else if k=4/\(prS t).2≠0 then([],(prS t).2)else fe 4 (D4 k (prS d).1 (prS t).1 l)));rw[F]at h;have g:∀i,i<f.length->(∀j,j<i->(prS (f.getD j [])).2=0)->(prS (f.getD i [])).2≠0->R=([],(prS (f.getD i [])).2):=λi hi w O=>by rw[<- F];rw[r]at hi w O⊢;by_cases h4:k=4;rw[if_pos h4]at hi w O⊢;rcases i with _|_|i;have I:(prS d).2≠0:=O;rw[if_pos I];rfl;have I:(prS t).2≠0:=O;rw[if_neg (by simpa using w 0 ahd),if_pos ⟨h4,I⟩];rfl;simp at hi;omega;rw[if_neg h4]at hi w O⊢;rcases i with _|i;have I:(prS d).2≠0:=O;rw[if_pos I];rfl;simp at hi
 have z:(∀j,j<f.length->(prS (f.getD j [])).2=0)->R=fe 4 (D4 k (prS d).1 (prS t).1 l):=λw=>by rw[<- F];rw[r]at w;by_cases h4:k=4;rw[if_pos h4]at w;rw[if_neg (by simpa using w 0 ahe),if_neg (λe=>e.2 (by simpa using w 1 ahe))];rw[if_neg h4]at w;rw[if_neg (by simpa using w 0 ahe),if_neg (λe=>h4 e.1)]
 have U:D4 k (prS d).1 (prS t).1 l=.mk 48 [] ((.mk 2 [c] []::f.map λx=>bA (prS x).1)++if k=2 then[]else[QE l]):=by rw[r,D4,hc];by_cases h4:k=4;rw[if_pos h4,if_pos h4];rfl;rw[if_neg h4,if_neg h4];rfl
 have T:okN 4 (D4 k (prS d).1 (prS t).1 l):=Y1 (by have:=OP d;omega) (by have:=OP t;omega) Z.1 Z.2;rw[U]at z T;replace g:=hid g;replace z:=hid z;replace T:=hid T;replace S:=hid S;replace h:=hid h;clear U F hd ht r ab hc kk1 kk2;refine wk ?_;refine aam 4 3 (X.length+1) (L:=L) (X:=.cells [.int .i64 k,dnA d,dnA t,.sl (bh l) l.length none]::X) (l:=[.int .i64 2,.str [c],.sl [] 0 none]) (n:=1) ahe rfl rfl ?_;refine ao (λm T' L'=>∃(i:Nat) (C:List AV),m=f.length-i/\i<=f.length/\Hid (∀j,j<i->(prS (f.getD j [])).2=0)/\Hid (C=aC (.mk 2 [c] []::(f.take i).map λx=>bA (prS x).1))/\T'=[(37,.int .i64 (i:Int)),(36,.int .i64 f.length),(35,.sl (f.map dnA) f.length none),(4,.gsl C (i+1) (L.length+(X.length+1)) 3),(1,.ptr L.length 0)]/\L'=L++(.cells [.int .i64 k,dnA d,dnA t,.sl (bh l) l.length none]::(X++[.spare (i+1) 3]))) ahg ⟨0,_,rfl,aep _,hid ahe,hid rfl,rfl,ahe⟩ ?_;rintro _ _ _ ⟨i,C,rfl,hi,w,hC,rfl,rfl⟩;by_cases A:i<f.length;have g3:(i:Int)<(f.length:Int):=ahd;have w2:=aee i ahd;obtain⟨x,y⟩:=aec (f.getD i []);have M:x∈f:=by rw[<- y];simp[A]
 have e2:(f.map dnA).getD i .undef=dnA x:=by rw[<- y];simp[A]
 have e3:i<(f.map dnA).length:=by simpa using A
 obtain⟨⟨s,e⟩,p⟩:∃q,prS x=q:=⟨_,rfl⟩;have kk1:Hid (Ctr Tryz.prog 35 [dnA x] (.tup [.str s,.int .i64 e])):=@hid _ (by intro L K q;refine yE (S.o x M).1 (S.o x M).2 ?_;rw[p];exact q)
 by_cases O:e=0;subst O;have kk2:Hid (Ctr Tryz.prog 40 [.str s] (.agg [.int .i64 4,.str s,.sl [] 0 none])):=@hid _ (by intro L K q;exact Us (by rw[bA,bQ];exact q));have Y:∀j,j<i+1->(prS (f.getD j [])).2=0:=λj a0=>by rcases aeN j i with h1|h1;exact w.o j h1;have:j=i:=ahd;subst this;rw[y,p]
 have V:aC (.mk 2 [c] []::(f.take (i+1)).map λx=>bA (prS x).1)=C++[.int .i64 4,.str s,.sl [] 0 none]:=by rw[hC.o,aeM A,show f[i]=x by rw[<- y];simp[A],aeD,<- ae6,sn];simp only[aex,afh,p,aC,bA,bQ,aeL];rfl
 replace V:=hid V;replace Y:=hid Y;clear p M y w hC g z T;refine wk ?_;exact ahi ahd ahg ⟨i+1,_,rfl,A,Y,hid V.o.symm,rfl,rfl⟩;have G:=h.o;rw[g.o i A w.o (by rw[y,p];exact O),y,p]at G;replace G:=hid G;clear p M y w hC g z T;refine wk ?_;exact af rfl G.o;have ap:i=f.length:=ahd;subst ap;have g3:¬(f.length:Int)<(f.length:Int):=ahd;have F:=z.o w.o;have W:=hC.o;rw[aeI]at W;obtain⟨J,D⟩:=aec ((Nd.mk 2 [c] []::f.map λx=>bA (prS x).1));have B:J.length=f.length+1:=by rw[<- D];simp
 have v:=T.o;rw[D]at F W v;obtain⟨⟨s,e⟩,p⟩:∃q,R=q:=⟨_,rfl⟩;have G:=h.o;rw[p]at G F;subst W;have e0:=cT J;have E:∀{h n:Nat}{m:List Nd}(al:m.length=n) (ai:m.length<=1100000) (ho:∀x∈m,okN h x){i:Nat}{L:List Blk}{K:aeh},K (.agg [.int .i64 48,.str [],.sl (aC m) n none]) L->aeg 43 [.int .i64 48,.gsl (aC m) n i 3] L K:=by intro h n m al ai ho i L K q;subst al;exact dT (by simpa only[AV.frzL,AV.frz,cT]using VO (h:=h) (cap:=none) ai ho (by rw[bQ];exact q))
 by_cases h2:k=2;rw[if_pos h2,aeL]at v F;have kk1:Hid (∀{i:Nat}{L:List Blk}{K:aeh},K (.agg [.int .i64 48,.str [],.sl (aC J) (f.length+1) none]) L->aeg 43 [.int .i64 48,.gsl (aC J) (f.length+1) i 3] L K):=@hid _ (by intro i L K q;refine E (h:=3) B ahd (λn hn=>?_) q;rcases v with⟨ho,_⟩|⟨_,_,_,Q⟩;omega;exact Q n hn)
 have kk2:Hid (Ctr Tryz.prog 45 [.agg [.int .i64 48,.str [],.sl (aC J) (f.length+1) none]] (.tup [.str s,.int .i64 e])):=@hid _ (by intro L K q;have:=@ach _ v L K;rw[bQ,<- F,B]at this;exact this q)
 replace G:=hid G;subst h2;clear F hC w g z T p D v E;refine wk ?_;exact af rfl G.o;rw[if_neg h2]at v F;obtain⟨N,H⟩:=aec (aC (l.map G5));obtain⟨ad,P⟩:=Z;simp only at ad P;have an:∀x∈J++[QE l],okN 3 x:=λn hn=>by rcases v with⟨ho,_⟩|⟨_,_,_,Q⟩;omega;exact Q n hn
 have eL:aC (J++[QE l])=aC J++[.int .i64 48,.str [],.sl N l.length none]:=by rw[sn,<- H];simp only[aC,QE,bQ,aeu,aeL]
 have kk1:Hid (Ctr Tryz.prog 41 [.sl (bh l) l.length none,.func 42 []] (.sl N l.length none)):=@hid _ (by intro L K q;exact aba ahd P (by rw[H];exact q))
 have kk2:Hid (Ctr Tryz.prog 43 [.int .i64 48,.sl N l.length none] (.agg [.int .i64 48,.str [],.sl N l.length none])):=@hid _ (by
  intro L K q;have:=@VO 2 48 (l.map G5) none (by rw[aeu];omega) (λx y=>by obtain⟨a,ha,rfl⟩:=ael.1 y;obtain⟨a1,a2,a3⟩:=P a ha;exact Y2 a1 a2 a3) L K
  rw[bQ,H,aeu]at this;exact this q)
 have kk3:Hid (∀{i:Nat}{L:List Blk}{K:aeh},K (.agg [.int .i64 48,.str [],.sl (aC J++[.int .i64 48,.str [],.sl N l.length none]) (f.length+1+1) none]) L->aeg 43 [.int .i64 48,.gsl (aC J++[.int .i64 48,.str [],.sl N l.length none]) (f.length+1+1) i 3] L K):=@hid _ (by intro i L K q;rw[<- eL]at q⊢;exact E (h:=3) (by simp[B]) (by simp;omega) an q)
 have kk4:Hid (Ctr Tryz.prog 45 [.agg [.int .i64 48,.str [],.sl (aC J++[.int .i64 48,.str [],.sl N l.length none]) (f.length+1+1) none]] (.tup [.str s,.int .i64 e])):=@hid _ (by intro L K q;have:=@ach _ v L K;rw[bQ,<- F,eL,aez,B]at this;exact this q)
 have e1:AV.frzL N=N:=by rw[<- H];exact cT _
 replace G:=hid G;clear F hC w g z T p D v E an ad P H eL;refine wk ?_;exact af rfl G.o
def Ly:Except Int (Nd×List UInt8)->AV
 |.error e=>.tup [.agg [.int .i64 0,.str [],.sl [] 0 none],.str [],.int .i64 e]
 |.ok (n,r)=>.tup [.agg (ndA n),.str r,.int .i64 0]
def abo(acc:List Nd):Except Int (List Nd)->Except Int (List Nd)
 |.error e=>.error e
 |.ok l=>.ok (acc++l)
theorem V9{p:List UInt8->Except Int (Nd×List UInt8)}{F:Nat}{u:List UInt8}(h:u≠[]):qq p (F+1) u=match p u with
  |.error e=>.error e
  | .ok (n,r)=>match qq p F r with
    |.error e=>.error e
    |.ok l=>.ok (n::l):=by
 rcases u with _|⟨c,v⟩;exact absurd rfl h;rw[qq];rfl;exact h
theorem acf:∀x:_root_.Fin 256,IntKind.u8.wrap ((BitVec.ofInt IntKind.u8.bits (x.val:Int) &&& BitVec.ofInt IntKind.u8.bits 31).toNat:Nat)=((x.val%32:Nat):Int)/\IntKind.u8.wrap ((BitVec.ofInt IntKind.u8.bits (x.val:Int) &&& BitVec.ofInt IntKind.u8.bits 32).toNat:Nat)=((x.val/32%2*32:Nat):Int):=by decide +kernel
theorem O7:∀(f:Nat){s:List UInt8}{b:Int}(U:s.length<=1100000) (hd:b+f=65) (h1:1<=b){L:List Blk}{K:aeh}(h:K (Ly (ng f s)) L),aeg 152 [.str s,.int .i64 b] L K
 |0,s,b,U,hd,h1,L,K,h=>by have e:b=65:=ahd;subst e;replace h:=hid h;refine aef du ?_;exact aB (af rfl h.o)
 | f+1,s,b,U,hd,h1,L,K,h=>by
   have V:∀{Z:List UInt8}(P:Z.length<=1100000){L:List Blk}{K:aeh}(h:K (Ly (ng f Z)) L),aeg 152 [.str Z,.int .i64 (b+1)] L K:=by intro Z P L K h;exact O7 f P ahd ahd h
   replace V:=@hid _ @V;have g1:¬(64:Int)<b:=ahd;have w1:IntKind.i64.wrap (b+1)=b+1:=ac ahd ahd;rw[ng]at h;by_cases D:s=[]
   .rw[if_pos D]at h;subst D;replace h:=hid h;refine aef du ?_;exact aB (af rfl h.o)
   rw[if_neg D]at h;obtain⟨t,ht⟩:=aec ((s.getD 0 0).toNat);have w:t<256:=(by rw[<- ht];exact(s.getD 0 0).toNat_lt);have an:0<s.length:=afa.2 D;have g2:(0:Int)<(s.length:Int):=ahd;have S:=(acf ⟨t,w⟩).1;have T:=(acf ⟨t,w⟩).2;simp only[ht]at h S T;obtain⟨y,hy⟩:∃y:Int,((t%32:Nat):Int)=y:=⟨_,rfl⟩;obtain⟨z,I⟩:∃z:Int,((t/32%2*32:Nat):Int)=z:=⟨_,rfl⟩;rw[hy]at S;rw[I]at T;have wt:IntKind.i64.wrap (t:Int)=(t:Int):=ac ahd ahd;by_cases x:t%32=31
   .rw[if_pos x]at h;replace h:=hid h;have ai:y=31:=ahd;subst ai;clear x I hy;refine aef du ?_;exact aB (af rfl h.o)
   rw[if_neg x]at h;have g3:¬y=31:=ahd;clear x hy;rcases hbn:MH s with e|⟨size,a⟩
   .rw[hbn]at h;simp only at h;replace h:=hid h;have R:=Wm hbn;have kk1:Hid (Ctr Tryz.prog 181 [.str s] (.tup [.int .i64 0,.int .i64 0,.int .i64 e])):=@hid _ (by intro L K q;exact T6 U (by rw[hbn];exact q));clear hbn I;refine aef du ?_;exact aB (af rfl h.o)
   obtain⟨b2,b6,b7,b8⟩:=Wn hbn;have kk1:Hid (Ctr Tryz.prog 181 [.str s] (.tup [.int .i64 (size:Int),.int .i64 (a:Int),.int .i64 0])):=@hid _ (by intro L K q;exact T6 U (by rw[hbn];exact q));rw[hbn]at h;simp only at h;clear hbn;have w2:IntKind.i64.wrap ((s.length:Int)-(a:Int))=(s.length:Int)-(a:Int):=ac ahd ahd;have w3:IntKind.i64.wrap ((a:Int)+(size:Int))=(a:Int)+(size:Int):=ac ahd ahd;by_cases p:s.length<a+size
   .rw[if_pos p]at h;replace h:=hid h;have g4:(s.length:Int)-(a:Int)<(size:Int):=ahd;clear p I;refine aef du ?_;exact aB (af rfl h.o)
   rw[if_neg p]at h;have g4:¬(s.length:Int)-(a:Int)<(size:Int):=ahd;have g5:(a:Int)<=(a:Int)+(size:Int):=ahd;have g6:(a:Int)+(size:Int)<=(s.length:Int):=ahd;have e3:((a:Int)+(size:Int)).toNat=a+size:=ahd;have e4:a+size-a=size:=ahd;obtain⟨G,E⟩:=aec ((s.drop a).take size);obtain⟨r,hr⟩:=aec (s.drop (a+size));have ap:G.length=size:=(by rw[<- E];simp;omega);have e5:r.take (s.length-(a+size))=r:=(by rw[<- hr,<- afu,aeI]);rw[E,hr]at h;by_cases A:t/32%2=0
   .rw[if_pos A]at h;simp only[Ly,bQ]at h;replace h:=hid h;have ad:z=0:=ahd;subst ad;clear A I p;refine aef du ?_;exact aB (af rfl h.o)
   rw[if_neg A]at h;have al:z=32:=ahd;subst al;obtain⟨M,W⟩:=aec (qq (ng f) size G);rw[W]at h;have j:∀e,M=.error e->K (.tup [.agg [.int .i64 0,.str [],.sl [] 0 none],.str [],.int .i64 e]) L:=λe R=>by rw[R]at h;exact h
   have g:∀Y,M=.ok Y->K (.tup [.agg [.int .i64 (t:Int),.str [],.sl (aC Y) Y.length none],.str r,.int .i64 0]) L:=λY R=>by rw[R]at h;simp only[Ly,bQ]at h;exact h
   replace j:=hid j;replace g:=hid g;have av:size<=1100000:=ahd;clear A I p h;refine aef du ?_;refine L7 (L.length+1) 2 3 (c:=[.int .i64 (t:Int),.str [],.sl [] 0 (some 0)]) (l:=[]) (n:=0) ahe rfl (aeW 3).symm ?_;refine ao (λm T' L'=>∃(i:List Nd) (F k:Nat) (u:List UInt8) (C:List AV) (X:List Blk),m=u.length/\u.length<=F/\u.length+k<=size/\Hid (abo i (qq (ng f) F u)=M)/\Hid (C=aC i/\k=i.length)/\T'=[(11,.str u),(10,.ptr (L.length+1) 0),(8,.int .i64 (a:Int)),(7,.int .i64 (size:Int)),(4,.ptr L.length 0),(0,.str s),(1,.int .i64 b)]/\L'=L++(.cells [.int .i64 0,.str [],.sl [] 0 (some 0)] :: .cells [.int .i64 (t:Int),.str [],.gsl C k (L.length+2) 3] :: .spare k 3::X)) ahh ⟨[],size,0,G,[],[],rfl,ahd,ahd,hid (by rw[W];cases M<;>rfl),hid ⟨rfl,rfl⟩,rfl,ahe⟩ ?_;rintro _ _ _ ⟨i,F,k,u,C,X,rfl,hF,hk,N,B,rfl,rfl⟩;by_cases hu:u=[]
   .subst hu;have d:=N.o;have Q:qq (ng f) F []=.ok []:=(by cases F<;>rfl);rw[Q]at d;have J:=g.o i (by rw[<- d];simp[abo]);obtain⟨rfl,rfl⟩:=B.o;have e0:=cT i;replace J:=hid J;clear d Q N B g j;refine wk ?_;refine aB ?_;simp only[AV.frz,AV.frzL,e0];exact af (by simp only[AV.refs,AV.refsL,fX];rfl) J.o
   .have hup:0<u.length:=afa.2 hu;obtain⟨O,rfl⟩:∃O,F=O+1:=⟨F-1,ahd⟩;have d:=N.o;rw[V9 hu]at d;rcases hpu:ng f u with e|⟨n,v⟩
    .rw[hpu]at d;have J:=hid (j.o e (by rw[<- d];rfl));have R:=OQ f u e hpu;have kk1:Hid (Ctr Tryz.prog 152 [.str u,.int .i64 (b+1)] (.tup [.agg [.int .i64 0,.str [],.sl [] 0 none],.str [],.int .i64 e])):=@hid _ (by intro L K q;refine V.o ahd ?_;rw[hpu];exact q)
     clear N d j g hpu W;refine wk ?_;exact aB (af rfl J.o)
    .rw[hpu]at d;simp only at d;have ab:=YV hpu;have kk1:Hid (Ctr Tryz.prog 152 [.str u,.int .i64 (b+1)] (.tup [.agg [.int .i64 n.tag,.str n.data,.sl (aC n.kids) n.kids.length none],.str v,.int .i64 0])):=@hid _ (by intro L K q;refine V.o ahd ?_;rw[hpu,Ly,dP];exact q)
     have H:abo (i++[n]) (qq (ng f) O v)=M:=by rw[<- d];cases qq (ng f) O v<;>simp[abo]
     have e0:=cT n.kids;replace H:=hid H;clear N d j g hpu W;refine wk ?_;exact ahi ab ahg ⟨i++[n],O,k+1,v,C++[.int .i64 n.tag,.str n.data,.sl (aC n.kids) n.kids.length none],_,rfl,ahd,ahd,H,hid ⟨by rw[B.o.1,sn,aC,dP];rfl,by rw[B.o.2];simp⟩,rfl,rfl⟩
theorem Td{s:List UInt8}(a:s.length<=1100000)(h:K (Ly (ng 64 s)) L):aeg 116 [.str s] L K:=by rcases hp:ng 64 s with e|⟨n,r⟩;rw[hp]at h;replace h:=hid h;have kk1:Hid (Ctr Tryz.prog 152 [.str s,.int .i64 1] (.tup [.agg [.int .i64 0,.str [],.sl [] 0 none],.str [],.int .i64 e])):=@hid _ (by intro L K q;exact O7 64 a ahd ahd (by rw[hp];exact q));clear hp;refine aef Gn ?_;exact aB (af rfl h.o);rw[hp,Ly,dP]at h;replace h:=hid h;have kk1:Hid (Ctr Tryz.prog 152 [.str s,.int .i64 1] (.tup [.agg [.int .i64 n.tag,.str n.data,.sl (aC n.kids) n.kids.length none],.str r,.int .i64 0])):=@hid _ (by intro L K q;exact O7 64 a ahd ahd (by rw[hp,Ly,dP];exact q));clear hp;have b:=cT n.kids;refine aef Gn ?_;refine af ?_ h.o;simp only[AV.refs,AV.refsL,fX];rfl
def acs:Except Int Nd->AV
 |.error e=>.tup [.agg [.int .i64 0,.str [],.sl [] 0 none],.int .i64 e]
 |.ok n=>.tup [.agg (ndA n),.int .i64 0]
theorem VD{s:List UInt8}(a:s.length<=1100000)(h:K (acs (Oa s)) L):aeg 85 [.str s] L K:=by unfold Oa at h;rcases hp:ng 64 s with e|⟨n,r⟩;rw[hp]at h;replace h:=hid h;have b:=OQ _ _ _ hp;have kk1:Hid (Ctr Tryz.prog 116 [.str s] (.tup [.agg [.int .i64 0,.str [],.sl [] 0 none],.str [],.int .i64 e])):=@hid _ (by intro L K q;exact Td a (by rw[hp];exact q));clear hp;refine aef sA ?_;exact aB (af rfl h.o);rw[hp]at h;simp only at h;have kk1:Hid (Ctr Tryz.prog 116 [.str s] (.tup [.agg [.int .i64 n.tag,.str n.data,.sl (aC n.kids) n.kids.length none],.str r,.int .i64 0])):=@hid _ (by intro L K q;exact Td a (by rw[hp,Ly,dP];exact q));have c:=cT n.kids;by_cases hr:r=[];rw[if_pos hr]at h;rw[acs,dP]at h;replace h:=hid h;subst hr;clear hp;refine aef sA ?_;refine af ?_ h.o;simp only[AV.refs,AV.refsL,fX];rfl;rw[if_neg hr]at h;replace h:=hid h;clear hp;refine aef sA ?_;exact aB (af rfl h.o)
end Go.Proofs.YtajkbcmleihaoaaGreatDoor.Av
namespace Go.Proofs
open Go.Shelf
def Tryz.growD_ren:Go.Shelf.Ren:=⟨λ|4=>108|n=>n,λ|22=>24|25=>74|3=>3|4=>4|9=>9|20=>20|0=>0|n=>n,λ|n=>n⟩
theorem Tryz.growD:Go.Proofs.Lays8.n4 Tryz.prog Tryz.growD_ren:={
 mixed:=by kernel_rfl
 f4:=⟨Tryz.f108.name,by decide,Tryz.func108.trans (congrArg some (by kernel_rfl))⟩
 t0:=Tryz.underlying0
 a0:=Tryz.isAgg0
 z0:=Tryz.sizeOf0
 v0:=Tryz.zeroValue0
 t3:=Tryz.underlying3
 a3:=Tryz.isAgg3
 z3:=Tryz.sizeOf3
 v3:=Tryz.zeroValue3
 t4:=Tryz.underlying4
 a4:=Tryz.isAgg4
 z4:=Tryz.sizeOf4
 v4:=Tryz.zeroValue4
 t9:=Tryz.underlying9
 a9:=Tryz.isAgg9
 z9:=Tryz.sizeOf9
 v9:=Tryz.zeroValue9
 t20:=Tryz.underlying20
 a20:=Tryz.isAgg20
 z20:=Tryz.sizeOf20
 v20:=Tryz.zeroValue20
 t22:=Tryz.underlying24
 a22:=Tryz.isAgg24
 z22:=Tryz.sizeOf24
 v22:=Tryz.zeroValue24}
end Go.Proofs
set_option maxRecDepth 100000
namespace Go.Proofs.YtajkbcmleihaoaaGreatDoor.Av
open Go
variable {u:Upd}{n:Nd}{s:List UInt8}
def Dd:LSO:=[A1 1 0,Bj 2]
def Dc:LSO:=[Ad 6 0 1,Ac 7 1 6,Az 8 7 4]
def Db:LSO:=[Ad 9 2 1,o0 (.store 1 (tm 9) (.av (.sl [] 0 (some 0))))]
def Da:LSO:=[Ad 10 0 1,Ac 11 1 10,A0 12 11 2]
def CZ:LSO:=[Ad 13 3 1,o0 (.store 1 (tm 13) (.av (.sl [] 0 (some 0))))]
def CY:List (aj×Kd):=
 [Au 14 0 1,Aw 15 1 14 0 1,Au 16 1 1,Aw 17 1 16 0 1,od 18 (.call 50 [(tm 17),(.av (.sl [] 0 (some 0)))]) (.read 0 1),Au 19 2 1,Aw 20 1 19 0 1,
 od 21 (.call 50 [(tm 20),(.av (.sl [] 0 (some 0)))]) (.read 0 1),
 od 22 (.build [(.int .i64 0),(.sl [] 0 (some 0)),(.sl [] 0 (some 0)),(.sl [] 0 (some 0))] [(0,(1,(tm 15))),(1,(1,(tm 18))),(2,(1,(tm 21)))]) .pure,
 od 3 (.alloc [(.int .i64 0),(.sl [] 0 (some 0)),(.sl [] 0 (some 0)),(.sl [] 0 (some 0))]) .eff]
def xa:List aj :=
 [⟨none,(.store 4 (tm 3) (tm 22)),none⟩]
def CX:LSO:=[Ad 23 3 1,Ac 24 1 23,Af 25 24,Ab 26 0]
def CW:LSO:=[Ap 27 26 25]
def CV:LSO:=[Ak 28 2 24 26,Ay 29 2 28,B0 5,Ai 2 5 29]
def CU:List (aj×Kd):=
 [Au 30 3 3,Aw 31 1 30 0 1,Au 32 0 5,Aw 33 1 32 0 1,Au 34 1 5,Aw 35 1 34 0 0,od 36 (.app 0 1 16 [(.str [])] (.av (.sl [] 0 (some 0))) (tm 35)) .eff,
 od 37 (.build [(.str []),(.sl [] 0 (some 0))] [(0,(1,(tm 33))),(1,(1,(tm 36)))]) .pure,od 38 (.bslice false 2 1 [(.str []),(.sl [] 0 (some 0))] [(0,(2,(tm 37)))]) (.read 0 0)]
def wZ:List aj :=
 [⟨(some 39),(.app 1 2 40 [(.str []),(.sl [] 0 (some 0))] (tm 31) (tm 38)),none⟩,⟨(some 40),(.faddr 3 (tm 3)),none⟩,⟨none,(.store 1 (tm 40) (tm 39)),none⟩]
def xc:LSO:=[Aj 41 26 1,Aa 26 41]
def xb:LSO:=[Ay 42 4 3,Ai 4 2 42]
def vP:aI:=⟨43,(ag6 Dd [] (.seq (ag6 Dc Cd (ag7 8 (.sreg Db [false]) .skip)) (.seq (ag6 Da Cd (ag7 12 (.sreg CZ [false]) .skip)) (.seq (.dregM CY xa Cl) (.seq (ag6 CX Co (ag9 0 (ag6 CW [] (.seq (aha 27 0) (.seq (.block 1 (ag6 CV Cd (.dregM CU wZ CJ))) (.sreg xc Cc)))))) (ag6 xb [false] .ret)))))),[(.cell true 4 2)]⟩
attribute [push_cast] Dd Dc Db Da CZ CY xa CX CW CV CU wZ xc xb
theorem Mz:aL Tryz.prog (λr i=>if r=9/\i=6 then 0 else 1) 87=some vP.raw:=ahf
def z8:LSO:=[Bj 2,Ab 3 0]
def z7:LSO:=[Aa 11 0,Ag 12 85 11,Aa 10 12,Am 13 10,An 14 10,AF 4,Ai 3 4 13,Aa 5 14]
def z6:LSO:=[Aa 15 5,Az 16 15 0]
def zZ:LSO:=[Bk 17,Aa 18 5,Ai 4 2 17,Aa 3 18]
def zY:LSO:=[Ay 20 3 4,Ag 21 86 20,Aa 19 21,Am 22 19,An 23 19,Bj 6,Ai 4 6 22,Aa 7 23]
def zX:LSO:=[Aa 24 7,A6 25 24]
def zW:LSO:=[Bk 26,Ai 4 2 26,Ab 3 4]
def zV:LSO:=[Ay 28 4 6,Ag 29 14 28,Aa 27 29,Am 30 27,An 31 27,Aa 8 30,Aa 9 31]
def zU:LSO:=[Aa 32 9,Az 33 32 0,Aa 34 33,.grp none 34 false
 [Ah 35 34 8,Ah 36 34 0,Bu 37 34 35 36]
 38 (tm 37)]
def zT:LSO:=[Bk 39,Ai 4 2 39,Ab 3 4]
def wY:LSO:=[Ay 40 4 6,Ag 41 87 40,Ai 4 2 41,Ab 3 0]
def bE:aI:=⟨42,(ag6 z8 [] (ag6 z7 Ck (.seq (ag6 z6 Cc (ag8 16 (.sreg zZ Cd))) (ag6 zY Ck (.seq (ag6 zX Cc (ag8 25 (.sreg zW Cc))) (.seq (ag6 zV Ck (ag6 zU Ce (ag8 38 (.sreg zT Cc)))) (ag6 wY Cd .ret))))))),[(.cell true 4 2),(.tmp 3)]⟩
attribute [push_cast] z8 z7 z6 zZ zY zX zW zV zU zT wY
theorem fi:ahb 58=ahc bE:=ahf
def zS:LSO:=[A1 1 0,Bj 2,Al 3]
def zR:LSO:=[Ad 18 2 1,Ac 19 1 18,Aa 4 19]
def zQ:LSO:=[Aa 20 4,Af 21 20,AH 22 21 2,Aa 23 22,.grp none 23 false
 [Ah 24 23 4,AI 25 23 24,AD 26 23 25 4]
 27 (tm 26)]
def zP:LSO:=[Bk 28,Ai 4 2 28,Al 3]
def zO:LSO:=[Aa 30 4,B4 31 3 30 0,Ad 32 1 31,Ac 33 1 32,Ag 34 117 33,Aa 29 34,Am 35 29,An 36 29,Aa 5 35,Aa 6 36]
def zN:LSO:=[Aa 37 6,A6 38 37]
def zM:LSO:=[Bk 39,Ai 4 2 39,Al 3]
def zL:LSO:=[Aa 40 5,o1 41 (.build [(.int .i64 0),(.sl [] 0 (some 0)),(.sl [] 0 (some 0)),(.sl [] 0 (some 0))] [(0,(1,(tm 40)))]),Bj 7,Ai 4 7 41]
def zK:LSO:=[Ab 8 0,Ab 9 0]
def zJ:LSO:=[Aa 43 4,B4 44 3 43 1,Ad 45 1 44,Ac 46 1 45,Ag 47 118 46,Aa 42 47,Am 48 42,An 49 42,Ad 50 1 7,Ai 1 50 48,Aa 8 49]
def wN:LSO:=[Aa 51 4,o1 52 (.slV 3 (tm 51) (some (iv 2)) none none),Aa 10 52]
def wM:LSO:=[Ad 53 0 7,Ac 54 1 53,A0 55 54 4,Aa 56 55,.grp none 56 true
 [Ao 57 56 10,Bm 58 56 57,og 59 56 true (.bin .gtr (tm 58) (iv 0))]
 60 (tm 59)]
def wL:LSO:=[Aa 62 10,B4 63 3 62 0,Ad 64 1 63,Ac 65 1 64,Ag 66 118 65,Aa 61 66,Am 67 61,An 68 61,Ad 69 2 7,Ai 1 69 67,Aa 9 68]
def wK:LSO:=[Aa 70 10,o1 71 (.slV 3 (tm 70) (some (iv 1)) none none),Aa 10 71]
def wJ:LSO:=[Aa 72 8,Az 73 72 0,Aa 74 73,.grp none 74 false
 [Ah 75 74 9,BJ 76 74 75 0]
 77 (tm 76),Aa 78 77,.grp none 78 false
 [Ah 79 78 10,AI 80 78 79,AD 81 78 80 1]
 82 (tm 81)]
def wI:LSO:=[Bk 83,Ai 4 2 83,Al 3]
def wH:LSO:=[Aa 84 10,Af 85 84,Ab 86 0]
def wG:LSO:=[Ap 87 86 85]
def wF:LSO:=[Ak 88 3 84 86,Ay 89 3 88,AF 12,Ai 3 12 89]
def wD:LSO:=[Ad 90 2 12,Ac 91 1 90,Af 92 91,Ab 93 0]
def wC:LSO:=[Ap 94 93 92]
def wB:LSO:=[Ak 95 3 91 93,Ay 96 3 95,AF 14,Ai 3 14 96]
def wz:LSO:=[Ad 97 2 14,Ac 98 1 97,Af 99 98,Az 100 99 2]
def wy:LSO:=[Bk 101,Ai 4 2 101,Al 3]
def wx:LSO:=[Ad 102 2 14,Ac 103 1 102,B4 104 3 103 0,Ad 105 1 104,Ac 106 1 105,o1 107 (.build [(.str []),(.sl [] 0 (some 0))] [(0,(1,(tm 106)))]),B0 15,Ai 2 15 107]
def ww:LSO:=[Ad 108 2 14,Ac 109 1 108,B4 110 3 109 1,Ad 111 2 110,Ac 112 1 111,Af 113 112,Ab 114 0]
def wv:LSO:=[Ap 115 114 113]
def wu:LSO:=[Ak 116 3 112 114,Ay 117 3 116,AF 17,Ai 3 17 117]
def wq:LSO:=[Ad 118 1 15,Ac 119 1 118,Ad 120 1 17,Ac 121 1 120,AK 122 121,Be 123 119 122,Ad 124 1 15,Ai 1 124 123]
def wo:LSO:=[Aj 125 114 1,Aa 114 125]
def wn:LSO:=[Ad 126 3 7,Ac 127 1 126,Ay 128 2 15,o1 129 (.bslice false 2 1 [(.str []),(.sl [] 0 (some 0))] [(0,(2,(tm 128)))]),
 o1 130 (.app 1 2 40 [(.str []),(.sl [] 0 (some 0))] (tm 127) (tm 129)),Ad 131 3 7,Ai 1 131 130]
def wm:LSO:=[Aj 132 93 1,Aa 93 132]
def wl:LSO:=[Aj 133 86 1,Aa 86 133]
def wj:LSO:=[Ay 134 4 7,Ai 4 2 134,AA 3]
def cA:aI:=⟨135,(ag6 zS [] (ag6 zR Cd (.seq (ag6 zQ Cf (ag8 27 (.sreg zP Cc))) (ag6 zO Cz (.seq (ag6 zN Cc (ag8 38 (.sreg zM Cc))) (ag6 zL Cd (ag6 zK [] (ag6 zJ Cl (ag6 wN Cd (.seq (ag6 wM Cf (ag7 60 (ag6 wL Cl (.sreg wK Cd)) .skip)) (.seq (ag6 wJ Ch (ag8 82 (.sreg wI Cc))) (.seq (ag6 wH [] (ag9 0 (ag6 wG [] (.seq (aha 87 0) (.seq (.block 1 (ag6 wF Cd (ag6 wD Co (ag9 2 (ag6 wC [] (.seq (aha 94 2) (.seq (.block 3 (ag6 wB Cd (.seq (ag6 wz Ce (ag8 100 (.sreg wy Cc))) (ag6 wx Cg (.seq (ag6 ww C9 (ag9 4 (ag6 wv [] (.seq (aha 115 4) (.seq (.block 5 (ag6 wu Cd (.sreg wq C1))) (.sreg wo Cc)))))) (.sreg wn C3)))))) (.sreg wm Cc)))))))) (.sreg wl Cc)))))) (ag6 wj Cc .ret))))))))))))),[(.cell true 4 2),(.tmp 3)]⟩
attribute [push_cast] zS zR zQ zP zO zN zM zL zK zJ wN wM wL wK wJ wI wH wG wF wD wC wB wz wy wx ww wv wu wq wo wn wm wl wj
theorem iD:ahb 86=ahc cA:=ahf
def t6:LSO:=[Ab 4 0,Ab 5 0]
def tZ:LSO:=[Aa 10 0,AB 11 10]
def tY:LSO:=[Ab 4 0,Ab 5 1]
def tX:LSO:=[Aa 12 1,Af 13 12,Ab 14 0]
def tW:LSO:=[Ap 15 14 13]
def tV:LSO:=[Aa 16 14,Ak 17 1 12 14,Ac 18 1 17,Aa 6 16,Aa 7 18]
def tU:LSO:=[Aa 20 7,Ag 21 58 20,Aa 19 21,Am 22 19,An 23 19,Bj 8,Ai 4 8 22,Aa 9 23]
def tT:LSO:=[Aa 24 9,Az 25 24 0]
def tS:LSO:=[Aa 26 6,Aa 27 9,Aa 4 26,Aa 5 27]
def tR:LSO:=[Aa 28 0,Ay 29 4 8,Ax 30 31 28 29,Az 31 30 0]
def rC:LSO:=[Aa 32 6,Aa 4 32,Ab 5 4]
def rB:LSO:=[Aj 33 14 1,Aa 14 33]
def rA:LSO:=[Aa 34 1,Af 35 34,Aa 4 35,Ab 5 0]
def nL:aI:=⟨36,(ag6 t6 [] (.seq (ag6 tZ Cc (ag8 11 (.sreg tY []))) (.seq (ag6 tX [] (ag9 0 (ag6 tW [] (.seq (aha 15 0) (.seq (.block 1 (ag6 tV Cm (ag6 tU Ck (.seq (ag6 tT Cc (ag8 25 (.sreg tS Cs))) (ag6 tR Ce (ag8 31 (.sreg rC Ci))))))) (.sreg rB Cc)))))) (ag6 rA Cs .ret)))),[(.tmp 4),(.tmp 5)]⟩
attribute [push_cast] t6 tZ tY tX tW tV tU tT tS tR rC rB rA
theorem Js:ahb 23=ahc nL:=ahf
def NL:LSO:=[Aq 4]
def NJ:LSO:=[Aq 5]
def NI:LSO:=[Aa 8 1,Aa 9 0,o1 10 (.bslice false 1 2 [(.sl [] 0 (some 0)),(.sl [] 0 (some 0))] [(0,(1,(tm 8))),(1,(1,(tm 9)))]),Ag 11 80 10,Af 12 11,Ab 13 0]
def NH:LSO:=[Ap 14 13 12]
def NG:LSO:=[Ak 15 1 11 13,Ac 16 1 15,Aa 7 16]
def NF:LSO:=[Aa 17 5,Aa 18 7,o1 19 (.app 0 2 32 [(.str []),(.str [])] (.av (.sl [] 0 (some 0))) (tm 18)),Bi 20 19,B3 21 17 20,Aa 5 21]
def NE:LSO:=[Aj 22 13 1,Aa 13 22]
def ND:LSO:=[Aa 23 5,Aa 4 23]
def yv:aI:=⟨24,(ag6 NL [] (ag6 NJ [] (.seq (ag6 NI [true,true,true,false,false,false] (ag9 0 (ag6 NH [] (.seq (aha 14 0) (.seq (.block 1 (ag6 NG Cd (.sreg NF Ch))) (.sreg NE Cc)))))) (ag6 ND Cc .ret)))),[(.tmp 4)]⟩
attribute [push_cast] NL NJ NI NH NG NF NE ND
theorem LV:aL Tryz.prog (λr i=>if r=5/\i=2 then 0 else 1) 50=some yv.raw:=ahf
def eh:LSO:=[Aq 2]
def ef:LSO:=[Ab 3 0]
def ee:LSO:=[Aa 9 0,Af 10 9,Ab 11 0]
def ed:LSO:=[Ap 12 11 10]
def d9:LSO:=[Ak 13 1 9 11,Ac 14 1 13,Aa 5 14]
def dZ:LSO:=[Aa 15 3,Aa 16 5,Af 17 16,A9 18 15 17,Aa 3 18]
def dY:LSO:=[Aa 19 3,AH 20 19 0]
def dX:LSO:=[o1 21 (.mkif 9 (.av (.str [108,101,110,32,111,117,116,32,111,102,32,114,97,110,103,101]))),
 .op ⟨none,.bad,none⟩]
def dW:LSO:=[Aj 22 11 1,Aa 11 22]
def dV:LSO:=[Aa 23 3,o1 24 (.call 108 [(.av (.sl [] 0 (some 0))),(tm 23)]),Aa 6 24]
def dC:LSO:=[Aa 25 0,Af 26 25,Ab 27 0]
def dB:LSO:=[Ap 28 27 26]
def dA:LSO:=[Ak 29 1 25 27,Ac 30 1 29,Aa 8 30]
def dz:LSO:=[Aa 31 6,Aa 32 8,B3 33 31 32,Aa 6 33]
def dy:LSO:=[Aj 34 27 1,Aa 27 34]
def dx:LSO:=[Aa 35 6,Aa 2 35]
def cv:aI:=⟨36,(ag6 eh [] (ag6 ef [] (.seq (ag6 ee [] (ag9 0 (ag6 ed [] (.seq (aha 12 0) (.seq (.block 1 (ag6 d9 Cd (ag6 dZ Cf (ag6 dY Cc (ag7 20 (.sreg dX [false]) .skip))))) (.sreg dW Cc)))))) (ag6 dV Cd (.seq (ag6 dC [] (ag9 2 (ag6 dB [] (.seq (aha 28 2) (.seq (.block 3 (ag6 dA Cd (.sreg dz Ce))) (.sreg dy Cc)))))) (ag6 dx Cc .ret)))))),[(.tmp 2)]⟩
attribute [push_cast] eh ef ee ed d9 dZ dY dX dW dV dC dB dA dz dy dx
theorem j9:ahb 80=ahc cv:=ahf
def J1:LSO:=[AJ 2,Ab 3 0]
def J0:LSO:=[Aa 7 0,Ag 8 35 7,Aa 6 8,Am 9 6,An 10 6,Aa 4 9,Aa 5 10]
def JZ:LSO:=[Aa 11 5,Az 12 11 0]
def JY:LSO:=[Aa 13 5,AJ 2,Aa 3 13]
def JX:LSO:=[Aa 14 0,Af 15 14,A0 16 15 0]
def JW:LSO:=[AJ 2,Ab 3 2]
def JV:LSO:=[Aa 17 0,BI 18 50 17,
 .op ⟨(some 19),.mkmap,none⟩,
 .op ⟨(some 20),.mkmap,none⟩,o1 21 (.build [(.sl [] 0 (some 0)),.nilmap,.nilmap,(.int .i64 0)] [(0,(1,(tm 18))),(1,(1,(tm 19))),(2,(1,(tm 20))),(3,(1,(iv 0)))]),A1 22 21,
 o1 23 (.build [.nilptr] [(0,(1,(tm 22)))]),A1 24 23,Aa 2 24,Ab 3 0]
def jC:aI:=⟨25,(ag6 J1 [] (.seq (ag6 J0 Cg (ag6 JZ Cc (ag8 12 (.sreg JY Ci)))) (.seq (ag6 JX Cd (ag8 16 (.sreg JW []))) (ag6 JV Cz .ret)))),[(.tmp 2),(.tmp 3)]⟩
attribute [push_cast] J1 J0 JZ JY JX JW JV
theorem vM:ahb 21=ahc jC:=ahf
def wi:LSO:=[A1 3 1,Ab 4 0]
def wh:LSO:=[Aa 17 0,AB 18 17]
def wg:LSO:=[Ab 4 1]
def wc:LSO:=[Aa 19 0,Ae 20 19,Ad 21 0 20,Ac 22 1 21,Ay 23 4 3,Ax 24 13 22 23,Aa 5 24]
def wb:LSO:=[Aa 25 5,Az 26 25 0]
def wa:LSO:=[Aa 27 5,Aa 4 27]
def v8:LSO:=[Aa 28 0,Ae 29 28,Ad 30 0 29,Ac 31 1 30,Ad 32 1 3,Ac 33 1 32,Ax 34 26 31 33,Aa 6 34]
def v7:LSO:=[Ad 35 0 3,Ac 36 1 35]
def v6:LSO:=[A0 38 36 1,Aa 37 38]
def vZ:LSO:=[Aa 39 0,Ae 40 39,Ad 41 0 40,Ac 42 1 41,Ae 43 42,Ad 44 3 43,Ac 45 1 44,Aj 46 45 1,Ae 47 42,Ad 48 3 47,Ai 1 48 46]
def tH:List (aj×Kd):=
 [Ar 49 0,A3 50 49 0 1,Au 51 0 50,Aw 52 1 51 0 1,A3 53 52 0 1,Au 54 1 53,Aw 55 1 54 0 1,Ar 56 0,A3 57 56 0 1,Au 58 0 57,Aw 59 1 58 0 1,A3 60 59 0 1,Au 61 3 60,Aw 62 1 61 0 1,
 Au 63 3 3,Aw 64 1 63 0 0,AP 65 68 64 0 0,od 66 (.build [(.sl [] 0 (some 0)),(.sl [] 0 (some 0)),(.sl [] 0 (some 0)),(.int .i64 0)] [(2,(1,(tm 65)))]) .pure,
 od 67 (.box (tm 66)) .eff]
def rg:List aj :=
 [⟨none,(.mset .int (tm 55) (tm 62) (tm 67)),none⟩]
def tG:List (aj×Kd):=
 [Ar 68 0,Ar 69 0,A3 70 69 0 0,Au 71 0 70,Aw 72 1 71 0 0,A3 73 72 0 0,Au 74 3 73,Aw 75 1 74 0 0,Au 76 1 3,Aw 77 1 76 0 0]
def rf:List aj :=
 [⟨(some 78),(.call 69 [(tm 68),(tm 75),(tm 77)]),none⟩]
def tF:LSO:=[Aa 79 0,Ad 80 1 3,Ac 81 1 80,Ba 82 70 79 81 1]
def tE:LSO:=[A0 84 36 2,Aa 83 84]
def tD:LSO:=[Ad 86 1 3,Ac 87 1 86,Ag 88 61 87,Aa 85 88,Am 89 85,An 90 85,Aa 7 89,Aa 8 90]
def tC:LSO:=[Aa 91 0,Ae 92 91,Ad 93 0 92,Ac 94 1 93,Ae 95 94,Ad 96 2 95,Ac 97 1 96,Aa 98 7,o0 (.mdel .str (tm 97) (tm 98))]
def tB:LSO:=[Aa 99 0,Ae 100 99,Ad 101 0 100,Ac 102 1 101,Ae 103 102,Ad 104 1 103,Ac 105 1 104,Aa 106 6,o0 (.mdel .int (tm 105) (tm 106))]
def tz:LSO:=[Aa 107 0,Ad 108 1 3,Ac 109 1 108,Ba 110 70 107 109 (-1)]
def tx:LSO:=[A0 112 36 3,Aa 111 112]
def tv:List (aj×Kd):=
 [Ar 113 0,A3 114 113 0 0,Au 115 0 114,Aw 116 1 115 0 0,A3 117 116 0 0,Au 118 1 117,Aw 119 1 118 0 0,Ar 120 6,od 121 (.mget .int false .nilptr (tm 119) (tm 120)) (.read 0 0),
 Au 122 3 3,Aw 123 1 122 0 0,AP 124 68 123 0 0]
def re:List aj :=
 [⟨(some 125),(.nilchk (tm 121)),none⟩,⟨(some 126),(.faddr 2 (tm 125)),none⟩,⟨none,(.store 1 (tm 126) (tm 124)),none⟩]
def tu:LSO:=[A0 128 36 4,Aa 127 128]
def tt:LSO:=[Aa 129 0,Ae 130 129,Ad 131 0 130,Ac 132 1 131,Aa 133 6,Ba 134 32 132 133 2,Aa 9 134]
def tq:LSO:=[Aa 135 9,Af 136 135,Ab 137 0]
def tp:LSO:=[Ap 138 137 136]
def tj:LSO:=[Ak 139 1 135 137,Ac 140 1 139,Aa 11 140]
def ti:LSO:=[Aa 142 0,Ae 143 142,Ad 144 0 143,Ac 145 1 144,Ae 146 145,Ad 147 1 146,Ac 148 1 147,Aa 149 11,AZ 150 148 149,Ae 151 150,Ad 152 0 151,Ac 153 1 152,
 Ag 154 61 153,Aa 141 154,Am 155 141,An 156 141,Aa 12 155,Aa 13 156]
def th:LSO:=[Aa 157 0,Ae 158 157,Ad 159 0 158,Ac 160 1 159,Ae 161 160,Ad 162 2 161,Ac 163 1 162,Aa 164 12,o0 (.mdel .str (tm 163) (tm 164))]
def tf:LSO:=[Aj 165 137 1,Aa 137 165]
def te:LSO:=[Aa 166 0,Ad 167 1 3,Ac 168 1 167,Ba 169 70 166 168 (-1)]
def td:LSO:=[Aa 170 9,Af 171 170,Ab 172 0]
def tc:LSO:=[Ap 173 172 171]
def ta:LSO:=[Ak 174 1 170 172,Ac 175 1 174,Aa 15 175]
def s9:LSO:=[Aa 176 0,Ae 177 176,Ad 178 0 177,Ac 179 1 178,Ae 180 179,Ad 181 1 180,Ac 182 1 181,Aa 183 15,AZ 184 182 183,Ae 185 184,Ad 186 0 185,Ac 187 1 186,
 Aa 16 187]
def s8:List (aj×Kd):=
 [Ar 188 0,Ar 189 15,Au 190 2 3,Aw 191 1 190 0 0,Ar 192 16,Ar 193 16,BS 194 193 0 0,Au 195 1 3,Aw 196 1 195 0 0,BS 197 196 0 0,od 198 (.bin .sub (tm 194) (tm 197)) .pure,
 od 199 (.slV 1 (tm 192) none (some (tm 198)) none) (.read 0 0),od 200 (.call 50 [(tm 191),(tm 199)]) (.read 0 0)]
def rd:List aj :=
 [⟨(some 201),(.call 69 [(tm 188),(tm 189),(tm 200)]),none⟩]
def s7:LSO:=[Aj 202 172 1,Aa 172 202]
def s6:LSO:=[Aa 203 0,Ad 204 2 3,Ac 205 1 204,Ba 206 70 203 205 1]
def sZ:List (aj×Kd):=
 [Ar 207 0,A3 208 207 0 0,Au 209 0 208,Aw 210 1 209 0 0,A3 211 210 0 0,Au 212 1 211,Aw 213 1 212 0 0,Ar 214 6,od 215 (.mget .int false .nilptr (tm 213) (tm 214)) (.read 0 0),
 Au 216 3 3,Aw 217 1 216 0 0,AP 218 68 217 0 0]
def ra:List aj :=
 [⟨(some 219),(.nilchk (tm 215)),none⟩,⟨(some 220),(.faddr 2 (tm 219)),none⟩,⟨none,(.store 1 (tm 220) (tm 218)),none⟩]
def sY:LSO:=[Ab 4 0]
def br:aI:=⟨221,(ag6 wi [] (.seq (ag6 wh Cc (ag8 18 (.sreg wg []))) (.seq (.sdreg wc [.pure,(.read 0 0),.pure,(.read 0 0),(.read 0 0)] Cg) (.seq (ag6 wb Cc (ag8 26 (.sreg wa Cc))) (.seq (.sdreg v8 [.pure,(.read 0 0),.pure,(.read 0 0),.pure,(.read 0 0)] Cj) (.seq (ag6 v7 Cc (.block 0 (ag6 v6 Cc (ag7 37 (ag6 vZ CI (.seq (.dregM tH rg CG) (.seq (.dregM tG rf CJ) (.sreg tF Cp)))) (ag6 tE Cc (ag7 83 (ag6 tD CH (ag6 tC C0 (ag6 tB C0 (.sreg tz Cp)))) (ag6 tx Cc (ag7 111 (.dregM tv re CC) (ag6 tu Cc (ag7 127 (ag6 tt Cg (.seq (ag6 tq [] (ag9 1 (ag6 tp [] (.seq (aha 138 1) (.seq (.block 2 (ag6 tj Cd (ag6 ti [false,true,false,false,false,false,false,false,false,false,false,false,false,false,false,false,false,false] (.sreg th C0)))) (.sreg tf Cc)))))) (ag6 te Cp (.seq (ag6 td [] (ag9 3 (ag6 tc [] (.seq (aha 173 3) (.seq (.block 4 (ag6 ta Cd (ag6 s9 CB (.dregM s8 rd CC)))) (.sreg s7 Cc)))))) (ag6 s6 Cp (.dregM sZ ra CC)))))) .skip)))))))))) (ag6 sY [] .ret))))))),[(.tmp 4)]⟩
attribute [push_cast] wi wh wg wc wb wa v8 v7 v6 vZ tH rg tG rf tF tE tD tC tB tz tx tv re tu tt tq tp tj ti th tf te td tc ta s9 s8 rd s7 s6 sZ ra sY
theorem em:ahb 31=ahc br:=ahf
def qZ:LSO:=[A1 3 1,Ab 4 0]
def qY:LSO:=[Aa 8 0,AB 9 8]
def qX:LSO:=[Ab 4 1]
def qW:LSO:=[Aa 10 0,Ad 11 1 3,Ac 12 1 11,Ax 13 26 10 12,Aa 5 13]
def qV:LSO:=[Ad 14 0 3,Ac 15 1 14]
def qU:LSO:=[A0 17 15 1,Aa 16 17]
def qT:LSO:=[Ad 19 1 3,Ac 20 1 19,Ag 21 35 20,Aa 18 21,Am 22 18,An 23 18,Aa 6 22,Aa 7 23]
def qS:LSO:=[Aa 25 7,Az 26 25 0,Aa 24 26]
def qR:LSO:=[Ab 4 34]
def qQ:LSO:=[Aa 28 5,A8 29 28 0,Aa 27 29]
def oU:LSO:=[Ab 4 68]
def oT:LSO:=[Aa 31 0,Ad 32 1 3,Ac 33 1 32,Aa 34 0,Ae 35 34,Ad 36 0 35,Ac 37 1 36,AX 38 36 31 33 37,A6 39 38,Aa 40 39,.grp none 40 true
 [AS 41 40 1 3,AN 42 40 1 41,Bm 43 40 42,AU 44 40 43 0,Ao 45 40 44,.grp (some (40,true)) 45 false
 [Ah 46 45 0,A7 47 45 1 3,A4 48 45 1 47,og 49 45 false (.slV 1 (tm 48) (some (iv 1)) none none),Cb 50 45 26 46 49,AY 51 45 50 0]
 52 (tm 51)]
 53 (tm 52),Aa 30 53]
def oS:LSO:=[Ab 4 32]
def oR:LSO:=[Aa 55 0,Ae 56 55,Ad 57 1 56,Ac 58 1 57,o1 59 (.mlen (tm 58)),Bf 60 59 4096,Aa 54 60]
def oQ:LSO:=[Ab 4 80]
def oP:LSO:=[Ab 4 0]
def oO:LSO:=[A0 62 15 2,Aa 61 62]
def oN:LSO:=[A0 63 15 3,Aa 61 63]
def oM:LSO:=[A0 64 15 4,Aa 61 64]
def oL:LSO:=[Aa 65 5,A0 66 65 0]
def oK:LSO:=[Ab 4 32]
def oJ:LSO:=[Ad 67 0 3,Ac 68 1 67]
def oI:LSO:=[A0 70 68 2,Aa 69 70]
def oH:LSO:=[Aa 71 0,Ae 72 71,Ad 73 1 72,Ac 74 1 73,Aa 75 5,AZ 76 74 75,Ae 77 76,Ad 78 3 77,Ac 79 1 78,A8 80 79 0]
def oG:LSO:=[Ab 4 66]
def oF:LSO:=[Ab 4 0]
def oE:LSO:=[A0 82 68 3,Aa 81 82]
def oD:LSO:=[Ab 4 0]
def oC:LSO:=[A0 84 68 4,Aa 83 84]
def oB:LSO:=[Aa 85 0,Aa 86 5,Ay 87 4 3,AX 88 37 85 86 87,Aa 4 88]
def oA:LSO:=[Ab 4 1]
def aq:aI:=⟨89,(ag6 qZ [] (.seq (ag6 qY Cc (ag8 9 (.sreg qX []))) (ag6 qW Cf (.seq (ag6 qV Cc (.block 0 (ag6 qU Cc (ag7 16 (ag6 qT Cj (.seq (.block 1 (ag6 qS Cd (ag7 24 (ag6 qR [] .ret) (ag6 qQ Cd (ag7 27 (ag6 oU [] .ret) (.seq (.sdreg oT [.pure,.pure,(.read 0 0),.pure,(.read 0 0),.pure,(.read 0 0),(.read 0 0),.pure,.pure,.pure,(.read 0 0),(.read 0 0),.pure,.pure,.pure,.pure,(.read 0 0),(.read 0 0)] CF) (ag7 30 (ag6 oS [] .ret) (ag6 oR Cg (ag8 54 (.sreg oQ [])))))))))) (ag6 oP [] .ret))) (.seq (ag6 oO Cc (ag7 61 .skip (ag6 oN Cc (ag7 61 .skip (.sreg oM Cc))))) (ag7 61 (ag6 oL Cc (ag8 66 (.sreg oK []))) .skip)))))) (.seq (ag6 oJ Cc (.block 2 (ag6 oI Cc (ag7 69 (.seq (ag6 oH Cl (ag8 80 (.sreg oG []))) (ag6 oF [] .ret)) (ag6 oE Cc (ag7 81 (ag6 oD [] .ret) (ag6 oC Cc (ag8 83 (.sreg oB Cf))))))))) (ag6 oA [] .ret)))))),[(.tmp 4)]⟩
attribute [push_cast] qZ qY qX qW qV qU qT qS qR qQ oU oT oS oR oQ oP oO oN oM oL oK oJ oI oH oG oF oE oD oC oB oA
theorem aG:ahb 13=ahc aq:=ahf
def qP:LSO:=[Ab 4 0]
def qO:LSO:=[Aa 7 0,AB 8 7]
def qN:LSO:=[Ab 4 0]
def qM:LSO:=[Aa 10 1,Ag 11 61 10,Aa 9 11,Am 12 9,An 13 9,Aa 5 12,Aa 6 13]
def qL:LSO:=[Aa 14 6,Az 15 14 0]
def qK:LSO:=[Ab 4 0]
def qJ:LSO:=[Aa 16 0,Ae 17 16,Ad 18 2 17,Ac 19 1 18,Aa 20 5,o1 21 (.mget .str false (.int .i64 0) (tm 19) (tm 20)),Aa 4 21]
def aR:aI:=⟨22,(ag6 qP [] (.seq (ag6 qO Cc (ag8 8 (.sreg qN []))) (ag6 qM Ck (.seq (ag6 qL Cc (ag8 15 (.sreg qK []))) (ag6 qJ Cg .ret))))),[(.tmp 4)]⟩
attribute [push_cast] qP qO qN qM qL qK qJ
theorem bU:ahb 26=ahc aR:=ahf
def DI:LSO:=[A1 1 0,Al 2]
def DH:LSO:=[Ad 9 1 1,Ac 10 1 9,Ad 11 2 1,Ac 12 1 11,o1 13 (.bslice false 1 2 [(.sl [] 0 (some 0)),(.sl [] 0 (some 0))] [(0,(1,(tm 10))),(1,(1,(tm 12)))]),Af 14 13,
 Ab 15 0]
def DG:LSO:=[Ap 16 15 14]
def DF:LSO:=[Ak 17 1 13 15,Ac 18 1 17,Aa 4 18]
def DE:LSO:=[Aa 19 4,Af 20 19,A8 21 20 40]
def DD:LSO:=[Al 2]
def DC:LSO:=[Aa 22 4,Af 23 22,Ab 24 0]
def DB:LSO:=[Ap 25 24 23]
def Dz:LSO:=[Ak 26 1 22 24,Ac 27 1 26,Aa 6 27]
def Dy:LSO:=[Aa 28 6,Af 29 28,Ab 30 0]
def xt:LSO:=[Ap 31 30 29]
def xr:LSO:=[Ak 32 2 28 30,Ay 33 2 32,BK 8,Ai 2 8 33]
def xq:LSO:=[Aa 34 6,Af 35 34,A8 36 35 10,Aa 37 36,.grp none 37 false
 [A7 38 37 1 8,A4 39 37 1 38,By 40 37 39,AD 41 37 40 5000]
 42 (tm 41)]
def xo:LSO:=[Al 2]
def xm:LSO:=[Aj 43 30 1,Aa 30 43]
def xl:LSO:=[Aj 44 24 1,Aa 24 44]
def xk:LSO:=[Aj 45 15 1,Aa 15 45]
def xj:LSO:=[Ad 46 3 1,Ac 47 1 46,Ag 48 27 47,Aa 2 48]
def vS:aI:=⟨49,(ag6 DI [] (.seq (ag6 DH C9 (ag9 0 (ag6 DG [] (.seq (aha 16 0) (.seq (.block 1 (ag6 DF Cd (.seq (ag6 DE Cd (ag8 21 (.sreg DD []))) (ag6 DC [] (ag9 2 (ag6 DB [] (.seq (aha 25 2) (.seq (.block 3 (ag6 Dz Cd (ag6 Dy [] (ag9 4 (ag6 xt [] (.seq (aha 31 4) (.seq (.block 5 (ag6 xr Cd (ag6 xq Cf (ag8 42 (.sreg xo []))))) (.sreg xm Cc)))))))) (.sreg xl Cc))))))))) (.sreg xk Cc)))))) (ag6 xj Ce .ret))),[(.tmp 2)]⟩
attribute [push_cast] DI DH DG DF DE DD DC DB Dz Dy xt xr xq xo xm xl xk xj
theorem MC:ahb 10=ahc vS:=ahf
attribute [push_cast] bE cA nL yv cv jC br aq aR vS
open Go Go.Sort Go.Proofs
variable {L:List Blk}{K:aeh}
set_option maxHeartbeats 8000000
set_option maxRecDepth 100000
theorem Ul(z:Array Value):∀k,(Builtin.zeroCells z k).size=k*z.size:=by intro k;simp[Builtin.zeroCells]
theorem Zk:∃a,Tryz.prog.info? 74=some a/\a.zero=some (.slice none 0 0)/\a.size=1/\a.bytes=24:=by
 have h:(Tryz.prog.info? 74).map (λi=>(i.zero,i.size,i.bytes))=some (some (.slice none 0 0),1,24):=ahf;cases hi:Tryz.prog.info? 74 with
 |none=>rw[hi]at h;cases h
 | some a =>
   rw[hi]at h;simp only[aeC,aej,aet]at h;exact⟨a,rfl,h⟩
theorem Zp{L:List Blk}{K:aeh}(h:K (.sl [] 0 (some 0)) L):aeg 108 [.sl [] 0 (some 0),.int .i64 0] L K :=
 iu Tryz.func108 rfl ahf (λw0 S0 E w vs k a=>by simp only[VRL]at a;obtain⟨v,_,rfl,a,_,_,rfl,d,rfl⟩:=a;have b:=a;simp only[VR]at a d;obtain⟨p,c,rfl,_,g,_⟩:=a;have j:c=0:=g 0 rfl;subst j;subst d;exact(Any8.slices_Grow_room Tryz.growD p 0 0 0 w (aek _) ahd ahd ahd).mono λe w' ⟨f,i⟩=>⟨_,f,b,by subst i;exact Qy.refl _⟩) h
theorem abl{n:Nat}(z:0<n)(A:n<=4000000)(h:K (.lsl L.length 0 0 none 1) (L++[.cells []])):aeg 108 [.sl [] 0 (some 0),.int .i64 (n:Int)] L K:=λw0 S0 E w vs s f=>by
 simp only[VRL,VR]at f;obtain⟨_,_,rfl,⟨p,c,rfl,_,m,_⟩,_,_,rfl,rfl,rfl⟩:=f;have x:c=0:=m 0 rfl;subst x;obtain⟨i,u,q,B,r⟩:=Zk;refine .inl ⟨jm Tryz.func108 rfl ahf _ _,(Any8.slices_Grow_grow Tryz.growD i (.slice none 0 0) u q ahd p 0 0 n [] w (aek _) ahd (by rw[r];omega) ahd ahe (λ_=>rfl) (λa _ j v t=>by simp at t)).mono ?_⟩;rintro e w' ⟨rfl,rfl⟩;have y:Rel w0 S0 E L w.drew:=s.grown ⟨λ_ _=>rfl,aek _,rfl,rfl,rfl⟩
 let cs:Array Value:=([]:List Value).toArray++Builtin.zeroCells (Value.slice none 0 0).cells (0+n-0)++Builtin.zeroCells (Value.slice none 0 0).cells (grownCap w (0+n) 0 74-(0+n))
 have b:cs.size=n+(grownCap w (0+n) 0 74-n):=by simp only[cs,Array.size_append,Ul];have:(Value.slice none 0 0).cells.size=1:=rfl;rw[this];simp
 have d:=y.push (.cells cs 74) (.cells []) ⟨w.heap.size,0,cs.size⟩ rfl rfl ⟨⟨w.heap.size,0,cs.size⟩,cs,74,(0,0),ahe,(show(w.heap.push (Obj.cells cs 74))[w.heap.size]?=some (Obj.cells cs 74 (0,0))by simp),rfl,ahe,(λj a l=>by simp at l),λo _ _=>ahd⟩;refine⟨_,_,_,_,rfl,d.1,h,?_,d.2⟩;simp only[VR];exact⟨⟨w.heap.size,0,cs.size⟩,grownCap w (0+n) 0 74,0,ahe,rfl,λ_=>rfl,aep _,(λk g=>by cases g),by simp only[b];omega⟩
abbrev QD(l:List AV):AV:=.sl l l.length none
theorem aaX{ls:List (List AV)}{k:Nat}(h:k<ls.length):(ls.map QD).getD k .undef=QD (ls.getD k []):=by simp[h]
theorem Vl{ls:List (List AV)}{k:Nat}(h:k<ls.length):(ls.take (k+1)).flatten=(ls.take k).flatten++ls.getD k []:=by rw[aeM h,List.flatten_append];simp[h]
theorem ZA(ls:List (List AV))(k:Nat):(ls.take k).flatten.length<=ls.flatten.length:=by
 have h:ls.flatten=(ls.take k).flatten++(ls.drop k).flatten:=by rw[<- List.flatten_append,afH]
 rw[h];simp
theorem Rx{ls:List (List AV)}{cap:Option Nat}(O:ls.length<=1100000)(N:ls.flatten.length<=1100000)(j:∀l∈ls,l.all AV.one=true)(g:∀p,AV.refsL p ls.flatten=true){L:List Blk}{K:aeh}(h:K (.sl ls.flatten ls.flatten.length none) L):
  aeg 80 [.sl (ls.map QD) ls.length cap] L K:=by
 replace h:=hid h;have x:=hid (λk=>@Vl ls k);have y:=hid (ZA ls);have w:=hid (λk=>@aaX ls k);replace j:=hid j;replace g:=hid g;refine aef j9 ?_;refine ao (λn T' L'=>∃k:Nat,n=ls.length-k/\k<=ls.length/\T'=[(11,.int .i64 (k:Int)),(10,.int .i64 ls.length),(9,.sl (ls.map QD) ls.length cap),(3,.int .i64 ((ls.take k).flatten.length:Int)),(2,.sl [] 0 (some 0)),(0,.sl (ls.map QD) ls.length cap)]/\L=L') (CutS (b:=aek _)) ⟨0,rfl,aep _,rfl,rfl⟩ ?_;rintro _ _ _ ⟨k,rfl,E,rfl,rfl⟩;by_cases a:k<ls.length;have g1:(k:Int)<(ls.length:Int):=ahd;have G:=aee k ahd;have d:=x.o k a;have u:=w.o k a;have q:=y.o (k+1);obtain⟨l,t⟩:=aec (ls.getD k []);rw[t]at d u;have B:(ls.take (k+1)).flatten.length=(ls.take k).flatten.length+l.length:=by rw[d,aez]
 rw[B]at q;obtain⟨m,r⟩:=aec ((ls.take k).flatten.length);rw[r]at q B⊢;replace d:=hid d;replace r:=hid r;replace t:=hid t;have g3:IntKind.i64.wrap ((m:Int)+(l.length:Int))=(m:Int)+(l.length:Int):=ac ahd ahd;have g4:¬((m:Int)+(l.length:Int)<0):=ahd;refine wk ?_;exact ahi ahd (CutL (b:=aek _)) ⟨k+1,rfl,a,rfl,rfl⟩;have f:k=ls.length:=ahd;subst f;clear a E;have g1:¬(ls.length:Int)<(ls.length:Int):=ahd;obtain⟨m,r⟩:=aec (ls.flatten.length);rw[aeI,r];rw[r]at h N;rcases afy m with J|z;subst J;have s:=hid (ae2.1 r);have kk1:=@hid _ @Zp;refine wk ?_;refine cB (l:=[]) (n:=0) 6 1 rfl (aeW 1).symm ?_;refine ao (λn T' L'=>∃k:Nat,n=ls.length-k/\k<=ls.length/\T'=[(27,.int .i64 (k:Int)),(26,.int .i64 ls.length),(25,.sl (ls.map QD) ls.length cap),(6,.gsl [] 0 L.length 1)]/\L'=L++[.spare 0 1]) ahh ⟨0,rfl,aep _,rfl,rfl⟩ ?_;rintro _ _ _ ⟨k,rfl,E,rfl,rfl⟩;by_cases a:k<ls.length;have g1:(k:Int)<(ls.length:Int):=ahd;have G:=aee k ahd;have u:=w.o k a;have q:ls.getD k []=[]:=List.flatten_eq_nil_iff.1 s.o _ (by rw[aeA,aeF a];exact afx _);rw[q]at u;replace u:(ls.map QD).getD k .undef=.sl [] 0 none:=u;clear q;refine wk ?_;exact ahi ahd ahg ⟨k+1,rfl,a,rfl,rfl⟩;have f:k=ls.length:=ahd;subst f;have g1:¬(ls.length:Int)<(ls.length:Int):=ahd;refine wk ?_;refine aB (af (by rfl) ?_);have:=h.o;rw[s.o]at this;exact this;have kk1:=@hid _ (λL K=>abl z ahd (K:=K) (L:=L));refine wk ?_;refine ao (λn T' L'=>∃(k i:Nat) (X:List Blk) (c:List AV),n=ls.length-k/\k<=ls.length/\Hid (c=(ls.take k).flatten)/\c.length<=m/\i=L.length+X.length/\T'=[(27,.int .i64 (k:Int)),(26,.int .i64 ls.length),(25,.sl (ls.map QD) ls.length cap),(6,.lsl i 0 c.length none 1)]/\L'=L++(X++[.cells c])) ahh ⟨0,L.length,[],[],rfl,aep _,hid rfl,aep _,rfl,rfl,rfl⟩ ?_;rintro _ _ _ ⟨k,i,X,c,rfl,E,H,M,v,rfl,rfl⟩;have A:(L++(X++[Blk.cells c]))[i]?=some (.cells c):=by subst v;simp
 replace v:=hid v;by_cases a:k<ls.length;have g1:(k:Int)<(ls.length:Int):=ahd;have G:=aee k ahd;have d:=x.o k a;have u:=w.o k a;have q:=y.o (k+1);obtain⟨l,t⟩:=aec (ls.getD k []);have C:l.all AV.one=true:=j.o l (by rw[<- t];simp[a]);rw[t]at d u;rw[<- H.o]at d;have B:c.length+l.length<=m:=by rw[d,aez,r]at q;exact q
 have P:(c.length+l.length)*24<=140737488355328:=ahd;have Q:c.length+l.length<=140737488355328:=ahd;replace d:=hid d;replace t:=hid t;clear q;have D:(L++(X++[Blk.cells c])).set i .dead=L++(X++[.dead]):=by rw[v.o];simp
 have F:(L++(X++[Blk.dead])).length=i+1:=by rw[v.o];simp;omega
 refine wk ?_;refine ahi ?_ ahg ⟨k+1,i+1,X++[.dead],c++l,rfl,a,hid d.o.symm,by simpa using B,by rw[v.o];simp;omega,rfl,?_⟩;omega;simp[aeO];have f:k=ls.length:=ahd;subst f;have g1:¬(ls.length:Int)<(ls.length:Int):=ahd;refine wk ?_;refine GC (i:=i) (l:=c) A ?_;rw[show(L++(X++[Blk.cells c])).set i .dead=L++(X++[.dead])by rw[v.o];simp];have e:=H.o;rw[aeI]at e;have I:(AV.lsl i 0 c.length none 1).snap i c=.sl c c.length none:=by simp[AV.snap,aeO]
 rw[I,e,r];exact af (by simp only[AV.refs,g.o]) h.o
theorem Mp{d:List Rdn}{cap e:Option Nat}(w:d.length<=1100000)(hr:∀r∈d,r.length<=1100000)(h:K (.sl (d.map aH) d.length none) L):
  aeg 50 [.sl (d.map aH) d.length cap,.sl [] 0 e] L K:=by
 replace h:=hid h;have s:=hid (λk=>@yD d k);replace hr:=hid hr;have kk1:Hid (Ctr Tryz.prog 80 [.sl [.sl [] 0 e,.sl (d.map aH) d.length cap] 2 (some 2)] (.sl (d.map aH) d.length none)):=@hid _ (by
  intro L K q;refine dT ?_;simp only[AV.frzL,AV.frz,b9];have:=@Rx [[],d.map aH] none ahe (by simpa using w) (λl t=>by simp at t;rcases t with rfl|rfl;rfl;rw[aev];intro a x;obtain⟨r,_,rfl⟩:=ael.1 x;rfl) (λp=>by simpa using eS p d) L K
  simp only[agR,agS,aeL,ae5,aex,afh,aeu,aeY,aeB,QD]at this;exact this q)
 refine aef LV ?_;refine cB (l:=[]) (n:=0) 5 1 rfl (aeW 1).symm ?_;refine ao (λm T' L'=>∃(k:Nat) (C:List AV) (X:List Blk),m=d.length-k/\k<=d.length/\Hid (C=(d.take k).map aH)/\T'=[(13,.int .i64 (k:Int)),(12,.int .i64 d.length),(11,.sl (d.map aH) d.length none),(5,.gsl C k L.length 1)]/\L'=L++(.spare k 1::X)) ahh ⟨0,[],[],rfl,aep _,hid rfl,rfl,ahe⟩ ?_;rintro _ _ _ ⟨k,C,X,rfl,A,i,rfl,rfl⟩;by_cases b:k<d.length;have g1:(k:Int)<(d.length:Int):=ahd;have z:=aee k ahd;have u:=s.o k b;have y:k<(d.map aH).length:=by simpa using b
 obtain⟨r,c⟩:=aec (d.getD k []);have v:=hr.o r (by rw[<- c];simp[b]);have f:(d.take (k+1)).map aH=C++[.sl (bN r) r.length none]:=by rw[i.o,aeM b,aeD,show d[k]=r by rw[<- c];simp[b]];rfl
 rw[c]at u;have B:=yw r;have D:=iE r;replace f:=hid f;clear c i;refine wk ?_;exact ahi ahd ahg ⟨k+1,_,_,rfl,b,hid f.o.symm,rfl,rfl⟩;have j:k=d.length:=ahd;subst j;have g1:¬(d.length:Int)<(d.length:Int):=ahd;have g:=i.o;rw[aeI]at g;subst g;clear i;refine wk ?_;refine aB ?_;simp only[AV.frz,b9];exact af (by simp only[AV.refs,eS]) h.o
def smA(n:Nat)(a:Ava):Bool:=decide (n<=10)&&decide (a.2.length<=5000)
def smR(r:Rdn):Bool:=r.all (smA r.length)
def smD(d:List Rdn):Bool:=decide (d.length<=40)&&d.all smR
def smU(u:Upd):Bool:=smD u.dn&&(smD u.tw&&XB u.attrs)
def Xd(d:List Rdn):Prop:=(d.length:Int)<=9223372036854775807/\∀r∈d,(r.length:Int)<=9223372036854775807
theorem SJ(hd:Xd u.dn)(ht:Xd u.tw)(hl:(u.attrs.length:Int)<=9223372036854775807)(hz:∀a∈u.attrs,(a.2.length:Int)<=9223372036854775807)(h:K (.bool (smU u)) L):
  aeg 10 [.agg (bV u)] L K:=by
 obtain⟨k,d,t,l⟩:=u;simp only[bV,smU]at hd ht hl hz h⊢;obtain⟨I,E⟩:=aec (XB l);have kk1:Hid (Ctr Tryz.prog 27 [.sl (bh l) l.length none] (.bool I)):=@hid _ (by intro L K q;exact adC hl hz (by rw[E];exact q));rw[E]at h;obtain⟨g,z⟩:∃g,g=[d,t]:=⟨_,rfl⟩;obtain⟨R,T⟩:=aec ((g.all smD&&I));have M:(smD d&&(smD t&&I))=R:=by rw[<- T,z];simp[agT]
 rw[M]at h;replace h:=hid h;have a0:g.length=2:=by rw[z];rfl
 have G:∀x∈g,Xd x:=λx D=>by rw[z]at D;simp at D;rcases D with rfl|rfl<;>assumption
 have v:AV.sl [dnA d,dnA t] 2 (some 2)=.sl (g.map dnA) 2 (some 2):=by rw[z];rfl
 replace G:=hid G;obtain⟨U,J⟩:∃U,U=[AV.int .i64 k,dnA d,dnA t,.sl (bh l) l.length none]:=⟨_,rfl⟩;have a5:U.getD 3 .undef=.sl (bh l) l.length none:=by rw[J];rfl
 have a4:U.length=4:=by rw[J];rfl
 clear E hz M hd ht;replace v:=hid v;replace J:=hid J;replace z:=hid z;refine aef MC ?_;rw[v.o,<- J.o];clear v;refine ao (λm T' L'=>∃(i:Nat) (X:List Blk),m=2-i/\i<=2/\Hid (((g.drop i).all smD&&I)=R)/\T'=[(15,.int .i64 (i:Int)),(14,.int .i64 2),(13,.sl (g.map dnA) 2 (some 2)),(1,.ptr L.length 0)]/\L'=L++(.cells U::X)) ahh ⟨0,[],rfl,ahd,hid (by simpa using T),rfl,ahe⟩ ?_;rintro _ _ _ ⟨i,X,rfl,hi,P,rfl,rfl⟩;by_cases V:i<2;have g1:(i:Int)<2:=ahd;have g2:=aee i ahd;obtain⟨x,D⟩:=aec (g.getD i []);have A:i<g.length:=ahd;have N:=G.o x (by rw[<- D];simp[A]);have e2:(g.map dnA).getD i .undef=dnA x:=by rw[<- D];simp[A]
 have e3:i<(g.map dnA).length:=by simpa using A
 have n:g.drop i=x::g.drop (i+1):=by rw[ae3 A,<- D];simp[A]
 have f:=P.o;rw[n,afl]at f;obtain⟨S,H⟩:=aec (((g.drop (i+1)).all smD&&I));rw[agT,H]at f;clear P n D T;by_cases a1:(40:Int)<(x.length:Int);have s:=h.o;rw[<- f,smD,decide_eq_false ahd]at s;replace s:=hid s;clear f H;refine wk ?_;exact af rfl s.o;have F:(x.all smR&&S)=R:=by rw[<- f,smD,decide_eq_true ahd,ae9]
 have a7:x.length<=40:=ahd;have ad:=hid N.2;clear f N;have ab:=hid (λk=>@yD x k);refine wk ?_;refine ao (λm T' L'=>∃(j:Nat) (Y:List Blk),m=x.length-j/\j<=x.length/\X.length<=Y.length/\Hid (((x.drop j).all smR&&S)=R)/\T'=[(24,.int .i64 (j:Int)),(23,.int .i64 x.length),(22,dnA x),(15,.int .i64 (i:Int)),(14,.int .i64 2),(13,.sl (g.map dnA) 2 (some 2)),(1,.ptr L.length 0)]/\L'=L++(.cells U::Y)) ahh ⟨0,_,rfl,ahd,aek _,hid (by simpa using F),rfl,rfl⟩ ?_;rintro _ _ _ ⟨j,Y,rfl,hj,a3,Q,rfl,rfl⟩;by_cases y:j<x.length;have j1:(j:Int)<(x.length:Int):=ahd;have j2:=aee j ahd;have e4:=ab.o j y;have e5:j<(x.map aH).length:=by simpa using y
 obtain⟨r,hr⟩:=aec (x.getD j []);have a2:=ad.o r (by rw[<- hr];simp[y]);have n:x.drop j=r::x.drop (j+1):=by rw[ae3 y,<- hr];simp[y]
 rw[hr]at e4;have e:=Q.o;rw[n,afl]at e;obtain⟨S2,B⟩:=aec (((x.drop (j+1)).all smR&&S));rw[agT,B,smR]at e;clear Q n hr F;refine wk ?_;refine ao (λm T' L'=>∃(p:Nat) (Z:List Blk),m=r.length-p/\p<=r.length/\Y.length<=Z.length/\Hid (((r.drop p).all (smA r.length)&&S2)=R)/\T'=[(30,.int .i64 (p:Int)),(29,.int .i64 r.length),(28,aH r),(6,aH r),(24,.int .i64 (j:Int)),(23,.int .i64 x.length),(22,dnA x),(15,.int .i64 (i:Int)),(14,.int .i64 2),(13,.sl (g.map dnA) 2 (some 2)),(1,.ptr L.length 0)]/\L'=L++(.cells U::Z)) ahh ⟨0,_,rfl,ahd,aek _,hid (by simpa using e),rfl,rfl⟩ ?_;rintro _ _ _ ⟨p,Z,rfl,hp,a6,O,rfl,rfl⟩;by_cases C:p<r.length;have p1:(p:Int)<(r.length:Int):=ahd;have p2:=aee p ahd;have e6:=nA C;have e7:p*2+2<=(bN r).length:=by rw[iE];omega
 obtain⟨⟨ty,va⟩,ha⟩:∃a,r.getD p ([],[])=a:=⟨_,rfl⟩;have n:r.drop p=(ty,va)::r.drop (p+1):=by rw[ae3 C,<- ha];simp[C]
 rw[ha]at e6;simp only[Gx]at e6;have c:=O.o;rw[n,afl,agT]at c;obtain⟨S3,w⟩:=aec (((r.drop (p+1)).all (smA r.length)&&S2));rw[w]at c;clear O n ha e H B;by_cases av:(10:Int)<(r.length:Int);have s:=h.o;rw[<- c,smA,decide_eq_false ahd]at s;replace s:=hid s;clear c w;refine wk ?_;exact af rfl s.o;by_cases ap:(5000:Int)<(va.length:Int);have s:=h.o;rw[<- c,smA,decide_eq_true ahd,decide_eq_false (by simp only;omega)]at s;replace s:=hid s;clear c w;refine wk ?_;exact af rfl s.o;have ai:S3=R:=by rw[<- c,smA,decide_eq_true ahd,decide_eq_true (by simp only;omega)];rfl
 subst ai;replace w:=hid w;clear c;refine wk ?_;exact ahi ahd (CutL (b:=by simp;omega)) ⟨p+1,_,rfl,C,by simp;omega,w,rfl,rfl⟩;have al:p=r.length:=ahd;subst al;have p1:¬(r.length:Int)<(r.length:Int):=ahd;have c:=O.o;rw[afR,af4,ae9,<- B]at c;replace c:=hid c;clear O e H B;refine wk ?_;exact ahi ahd (CutL (b:=by simp;omega)) ⟨j+1,_,rfl,y,ahd,c,rfl,rfl⟩;have W:j=x.length:=ahd;subst W;have j1:¬(x.length:Int)<(x.length:Int):=ahd;have e:=Q.o;rw[afR,af4,ae9,<- H]at e;replace e:=hid e;clear Q H F;refine wk ?_;exact ahi ahd ahg ⟨i+1,_,rfl,V,e,rfl,rfl⟩;have an:i=2:=ahd;subst an;have f:=P.o;rw[afI ahd,af4,ae9]at f;subst f;clear P T;refine wk ?_;exact af rfl h.o
def ads(u:Upd):Prop:=dnB u.dn/\dnB u.tw/\u.attrs.length<=1100000/\∀a∈u.attrs,a.2.length<=1100000
theorem ac3(O:ads u)(h:K (.agg (bV (kV u))) L):aeg 87 [.agg (bV u)] L K:=by
 obtain⟨k,d,t,l⟩:=u;obtain⟨hd,H,I,C⟩:=O;simp only[bV,kV]at hd H I C h⊢;obtain⟨t',e⟩:=aec ((if k=4 then t else[]));obtain⟨l',b⟩:=aec ((if k=2 then[]else l));rw[e,b]at h;have w:dnB t':=by rw[<- e];split;exact H;exact⟨ahe,ahe⟩
 have M:l'.length<=1100000:=by rw[<- b];split;simp;exact I
 have g:∀a∈l',a.2.length<=1100000:=by rw[<- b];split;simp;exact C
 replace h:=hid h;have kk1:Hid (∀{cap:Option Nat}{L:List Blk}{K:aeh},K (dnA d) L->aeg 50 [dnA d,.sl [] 0 cap] L K):=@hid _ (by intro cap L K q;exact Mp hd.1 hd.2 q);have kk2:Hid (∀{cap:Option Nat}{L:List Blk}{K:aeh},K (dnA t') L->aeg 50 [dnA t',.sl [] 0 cap] L K):=@hid _ (by intro cap L K q;exact Mp w.1 w.2 q);refine aa Mz (by simp[vP]) ?_;simp only[vP,am]
 iterate 3 first
  |refine kX ?_
  | (first|refine ju ahf ?_|refine fO ahf ?_|refine fR ?_|refine DR ?_|refine nQ (fun _=>?_)|refine dS ?_|refine jw ?_)
    simp(config:={maxSteps:=2000000}) only[Kon,push_cast,reduceIte,Nat.reduceEqDiff,Nat.reduceAdd,Nat.reduceMul,Nat.reduceSub,Nat.reduceLT,Nat.reduceLeDiff,Int.reduceLT,Int.reduceLE,Int.reduceAdd,Int.reduceSub,Int.reduceNeg,Int.reduceToNat,Int.reduceEq,reduceCtorEq, *]
  | (first|refine jo ahf ?_|refine iF ?_|refine fQ ?_|refine jv ?_|refine nW (dR ?_))
    simp only[push_cast,reduceIte,Nat.reduceEqDiff,Nat.reduceAdd,Nat.reduceMul,Nat.reduceSub,Nat.reduceLT,Nat.reduceLeDiff,Int.reduceLT,Int.reduceLE,Int.reduceAdd,Int.reduceSub,Int.reduceNeg,Int.reduceToNat,Int.reduceEq,reduceCtorEq, *]
  |exact nR
  |first|apply nS|apply jq|apply nT|apply jr|apply nV|apply jt
  |refine fU ?_
  |refine fP ?_
  |first|refine fS rfl ?_|refine fT rfl ?_|refine cG rfl ?_ ?_|refine ir rfl (λ_=>?_) (λ_=>?_)|refine iq rfl (λ_=>?_) (λ_=>?_)
  |((first|refine cF (λ_=>?_) (λ_=>?_)|refine dQ (λ_=>?_) (λ_=>?_))<;>try simp(config:={maxSteps:=2000000}) only[Kon,push_cast,reduceIte,Nat.reduceEqDiff,Nat.reduceAdd,Nat.reduceMul,Nat.reduceSub,Nat.reduceLT,Nat.reduceLeDiff,Int.reduceLT,Int.reduceLE,Int.reduceAdd,Int.reduceSub,Int.reduceNeg,Int.reduceToNat,Int.reduceEq,reduceCtorEq, *])
  |refine And.intro trivial ?_
  |refine And.intro ahd ?_
  |refine eQ rfl (λ_=>?_) (λ_=>?_)
  |refine And.intro ?_ ?_
 refine O0 (λB L2=>∃p,p.frz=dnA t'/\B=[(2,.ptr (L.length+1) 0),(1,.ptr L.length 0)]/\L2=L++[.cells [.int .i64 k,dnA d,p,.sl (bh l) l.length none],.cells [.int .i64 0,.sl [] 0 (some 0),.sl [] 0 (some 0),.sl [] 0 (some 0)]]) ?_ ?_;by_cases h4:k=4;rw[if_pos h4]at e;subst e;clear b h kk1 kk2;refine wk ?_;exact zh _ _ ahh ⟨_,by simp only[AV.frz,b9],rfl,rfl⟩;rw[if_neg h4]at e;subst e;clear b h kk1 kk2;refine wk ?_;exact zh _ _ ahh ⟨.sl [] 0 (some 0),rfl,rfl,rfl⟩;rintro _ _ ⟨p,j,rfl,rfl⟩ -;refine O0 (λB L2=>∃s,s.frz=.sl (bh l') l'.length none/\B=[(2,.ptr (L.length+1) 0),(1,.ptr L.length 0)]/\L2=L++[.cells [.int .i64 k,dnA d,p,s],.cells [.int .i64 0,.sl [] 0 (some 0),.sl [] 0 (some 0),.sl [] 0 (some 0)]]) ?_ ?_;by_cases G:k=2;rw[if_pos G]at b;subst b;clear e h kk1 kk2 j;refine wk ?_;exact zh _ _ ahh ⟨.sl [] 0 (some 0),rfl,rfl,rfl⟩;rw[if_neg G]at b;subst b;clear e h kk1 kk2 j;refine wk ?_;exact zh _ _ ahh ⟨_,by simp only[AV.frz,nB],rfl,rfl⟩;rintro _ _ ⟨s,v,rfl,rfl⟩ -;refine abW L.length (c:=[.int .i64 k,dnA d,p,s]) ahe ?_;have F:(L++[Blk.cells [.int .i64 k,dnA d,p,s],.cells [.int .i64 0,.sl [] 0 (some 0),.sl [] 0 (some 0),.sl [] 0 (some 0)]]).set L.length (.cells (AV.frzL [.int .i64 k,dnA d,p,s]))=L++[.cells [.int .i64 k,dnA d,dnA t',.sl (bh l') l'.length none],.cells [.int .i64 0,.sl [] 0 (some 0),.sl [] 0 (some 0),.sl [] 0 (some 0)]]:=by simp only[AV.frzL,j,v,AV.frz,b9];simp
 rw[F];clear F j v e b;replace g:=hid g;refine wk ?_;refine⟨⟨bq (kk2.o ⟨rfl,rfl⟩) rfl,bq (kk1.o ⟨rfl,rfl⟩) rfl⟩,?_⟩;clear kk1 kk2;refine wk ?_;refine L7 (L.length+2) 3 2 (c:=[.int .i64 k,dnA d,dnA t',.sl [] 0 (some 0)]) (l:=[]) (n:=0) ahe rfl (aeW 2).symm ?_;refine ao (λm T' L'=>∃(i:Nat) (D:List AV) (X:List Blk),m=l'.length-i/\i<=l'.length/\Hid (D=bh (l'.take i))/\T'=[(26,.int .i64 (i:Int)),(25,.int .i64 l'.length),(24,.sl (bh l') l'.length none),(3,.ptr (L.length+2) 0),(2,.ptr (L.length+1) 0),(1,.ptr L.length 0)]/\L'=L++(.cells [.int .i64 k,dnA d,dnA t',.sl (bh l') l'.length none] :: .cells [.int .i64 0,.sl [] 0 (some 0),.sl [] 0 (some 0),.sl [] 0 (some 0)] :: .cells [.int .i64 k,dnA d,dnA t',.gsl D i (L.length+3) 2] :: .spare i 2::X)) ahh ⟨0,[],[],rfl,aep _,hid rfl,rfl,ahe⟩ ?_;rintro _ _ _ ⟨i,D,X,rfl,Q,y,rfl,rfl⟩;by_cases f:i<l'.length;have g3:(i:Int)<(l'.length:Int):=ahd;have R:=aee i ahd;have E:=zd f;have P:i*2+2<=(bh l').length:=by rw[Gy];omega
 obtain⟨⟨n,vs⟩,z⟩:∃a,l'.getD i ([],[])=a:=⟨_,rfl⟩;have N:vs.length<=1100000:=g.o (n,vs) (by rw[<- z];simp[f]);rw[z]at E;simp only[atA]at E;have r:bh (l'.take (i+1))=D++[.str n,.sl (vs.map AV.str) vs.length none]:=by rw[y.o,aeM f,show l'[i]=(n,vs)by rw[<- z];simp[f],Qp];rfl
 have J:=ji vs;replace r:=hid r;clear z y g;refine wk ?_;exact ahi ahd ahg ⟨i+1,_,_,rfl,f,hid r.o.symm,rfl,rfl⟩;have A:i=l'.length:=ahd;subst A;have g3:¬(l'.length:Int)<(l'.length:Int):=ahd;have x:=y.o;rw[aeI]at x;have J:=nB l';subst x;clear y g;refine wk ?_;refine aB ?_;simp only[AV.frz,AV.frzL,b9,J];exact af (by simp only[AV.refs,AV.refsL,eS,qD];rfl) h.o
def szB(B:Nat):Nat->Nd->Prop
 |0,n=>n.data.length<=B/\n.kids.length<=B
 |k+1,n=>n.data.length<=B/\n.kids.length<=B/\∀x∈n.kids,szB B k x
theorem RH{B:Nat}:∀{k:Nat}{n:Nd},szB B k n->n.data.length<=B/\n.kids.length<=B
 |0,_,h=>h
 |_+1,_,h=>⟨h.1,h.2.1⟩
def YA:Option Upd->AV
 |none=>.tup [.agg [.int .i64 0,.sl [] 0 none,.sl [] 0 none,.sl [] 0 none],.bool false]
 |some u=>.tup [.agg (bV u),.bool true]
theorem GP{l:List Nd}{k:Nat}(h:k<l.length):(aC l).getD (k*3+1) .undef=.str (l.getD k ce).data:=by have a:=congrArg (λl=>l[1]?) (yH h);simp only[aeS (show 1<3 by omega),aeX]at a;rw[aeA,a,dP];rfl
theorem W8{l:List Nd}{k:Nat}(h:k<l.length):(aC l).getD (k*3+2) .undef=.sl (aC (l.getD k ce).kids) (l.getD k ce).kids.length none:=by have a:=congrArg (λl=>l[2]?) (yH h);simp only[aeS (show 2<3 by omega),aeX]at a;rw[aeA,a,dP];rfl
theorem Mi:∀(l:List Nd) (k:Nat),(aC l).drop (k*3)=aC (l.drop k)
 |[],k=>by have e:aC []=[]:=(by rw[aC]);rw[List.drop_nil,e,List.drop_nil]
 |n::l,0=>ahe
 |n::l,k+1=>by rw[agx,<- Mi l k,aC,List.drop_append,dP];rw[agy (by simp;omega),ae5];congr 1;simp;omega
def acB(l:List Nd):Option Upd :=
 if l.length<2\/4<l.length then none else
 match UK (l.getD 0 ce).data with
 |none=>none
 | some k =>
   let p:=kH (l.getD 1 ce).data
   let r:=l.drop 2
   let q:=if k=4/\r≠[]then kH (r.getD 0 ce).data else([],0)
   let r':=if k=4 then r.drop 1 else r
   if p.2≠0\/q.2≠0\/1<r'.length then none else
   match r' with
   |[]=>some ⟨k,p.1,q.1,[]⟩
   |x::_=>(yx x.kids).map λa=>⟨k,p.1,q.1,a⟩
theorem VS(t:Int)(d:List UInt8)(l:List Nd):UB (.mk t d l)=acB l:=rfl
theorem Yy(hz:szB 1100000 4 n)(h:K (YA (UB n)) L):aeg 86 [.agg (ndA n)] L K:=by
 obtain⟨tg,dt,l⟩:=n;rw[bQ];rw[VS,acB]at h;obtain⟨_,bk,C⟩:=hz;simp only[Nd.kids]at bk C;by_cases hl:l.length<2\/4<l.length;rw[if_pos hl]at h;simp only[YA]at h;replace h:=hid h;clear C;rcases hl with h2|h4;have g1:(l.length:Int)<2:=ahd;clear h2;refine aef iD ?_;exact aB (af rfl h.o);have g1:¬(l.length:Int)<2:=ahd;have g2:(4:Int)<(l.length:Int):=ahd;clear h4;refine aef iD ?_;exact aB (af rfl h.o);rw[if_neg hl]at h;have g1:¬(l.length:Int)<2:=ahd;have g2:¬(4:Int)<(l.length:Int):=ahd;have g3:(0:Int)<(l.length:Int):=ahd;have g4:(1:Int)<(l.length:Int):=ahd;have g5:(2:Int)<=(l.length:Int):=ahd;have f0:(aC l).getD 1 .undef=.str (l.getD 0 ce).data:=GP (k:=0) ahd;have f1:(aC l).getD 4 .undef=.str (l.getD 1 ce).data:=GP (k:=1) ahd;have f2:=ic l;have f3:(aC l).drop 6=aC (l.drop 2):=Mi l 2;have b0:1<(aC l).length:=ahd;have b1:4<(aC l).length:=ahd;obtain⟨n0,N⟩:=aec (l.getD 0 ce);obtain⟨n1,an⟩:=aec (l.getD 1 ce);have z0:=RH (C n0 (by rw[<- N];simp[show 0<l.length by omega]));rw[N]at f0 h;rw[an]at f1 h;rcases hnum:UK n0.data with _|k;rw[hnum]at h;simp only[YA]at h;replace h:=hid h;have kk1:Hid (Ctr Tryz.prog 117 [.str n0.data] (.tup [.int .i64 0,.bool false])):=@hid _ (by intro L K q;exact Ri z0.1 (by rw[hnum];exact q));clear C hnum N an z0 hl;refine aef iD ?_;exact aB (af rfl h.o);rw[hnum]at h;simp only at h;have kk1:Hid (Ctr Tryz.prog 117 [.str n0.data] (.tup [.int .i64 k,.bool true])):=@hid _ (by intro L K q;exact Ri z0.1 (by rw[hnum];exact q));obtain⟨⟨T,e1⟩,a0⟩:∃q,kH n1.data=q:=⟨_,rfl⟩;have kk2:Hid (Ctr Tryz.prog 118 [.str n1.data] (.tup [dnA T,.int .i64 e1])):=@hid _ (by intro L K q;exact VY (by rw[a0];exact q));rw[a0]at h;simp only at h;obtain⟨r,hr⟩:=aec (l.drop 2);have a9:r.length+2=l.length:=by rw[<- hr];simp;omega
 have H:∀x∈r,szB 1100000 3 x:=λx hx=>C x (by rw[<- hr]at hx;exact afM hx)
 rw[hr]at f3 h;have f4:((l.length:Int)).toNat-2=r.length:=ahd;have f5:(aC r).take (r.length*3)=aC r:=by rw[<- ic r,aeI]
 have f6:l.length-2=r.length:=ahd;clear C hnum N an z0 hl a0 hr;replace H:=hid H;refine aa iD (by simp[cA]) ?_;simp only[cA,am]
 iterate 42 first
  |refine kX ?_
  | (first|refine ju ahf ?_|refine fO ahf ?_|refine fR ?_|refine DR ?_|refine nQ (fun _=>?_)|refine dS ?_|refine jw ?_|refine kk1.o ?_|refine kk2.o ?_|refine dv (kk1.o ⟨rfl,rfl⟩) (kk1.o ⟨rfl,rfl⟩) ?_|refine dv (kk2.o ⟨rfl,rfl⟩) (kk2.o ⟨rfl,rfl⟩) ?_|refine bq (kk1.o ⟨rfl,rfl⟩) ?_|refine bq (kk2.o ⟨rfl,rfl⟩) ?_)
    simp(config:={maxSteps:=2000000}) only[Kon,push_cast,reduceIte,Nat.reduceEqDiff,Nat.reduceAdd,Nat.reduceMul,Nat.reduceSub,Nat.reduceLT,Nat.reduceLeDiff,Int.reduceLT,Int.reduceLE,Int.reduceAdd,Int.reduceSub,Int.reduceNeg,Int.reduceToNat,Int.reduceEq,reduceCtorEq, *]
  | (first|refine jo ahf ?_|refine iF ?_|refine fQ ?_|refine jv ?_|refine nW (dR ?_))
    simp only[push_cast,reduceIte,Nat.reduceEqDiff,Nat.reduceAdd,Nat.reduceMul,Nat.reduceSub,Nat.reduceLT,Nat.reduceLeDiff,Int.reduceLT,Int.reduceLE,Int.reduceAdd,Int.reduceSub,Int.reduceNeg,Int.reduceToNat,Int.reduceEq,reduceCtorEq, *]
  |exact nR
  |first|apply nS|apply jq|apply nT|apply jr|apply nV|apply jt
  |refine fU ?_
  |refine fP ?_
  |first|refine fS rfl ?_|refine fT rfl ?_|refine cG rfl ?_ ?_|refine ir rfl (λ_=>?_) (λ_=>?_)|refine iq rfl (λ_=>?_) (λ_=>?_)
  |((first|refine cF (λ_=>?_) (λ_=>?_)|refine dQ (λ_=>?_) (λ_=>?_))<;>try simp(config:={maxSteps:=2000000}) only[Kon,push_cast,reduceIte,Nat.reduceEqDiff,Nat.reduceAdd,Nat.reduceMul,Nat.reduceSub,Nat.reduceLT,Nat.reduceLeDiff,Int.reduceLT,Int.reduceLE,Int.reduceAdd,Int.reduceSub,Int.reduceNeg,Int.reduceToNat,Int.reduceEq,reduceCtorEq, *])
  |refine And.intro trivial ?_
  |refine And.intro ahd ?_
  |refine eQ rfl (λ_=>?_) (λ_=>?_)
  |refine And.intro ?_ ?_
 obtain⟨q,M⟩:=aec ((if k=4/\r≠[]then kH (r.getD 0 ce).data else([],0)));obtain⟨y,e2⟩:=q;obtain⟨G,t⟩:=aec ((if k=4 then r.drop 1 else r));rw[M,t]at h;simp only at h;have B:∀x∈G,szB 1100000 3 x:=λx hx=>by rw[<- t]at hx;split at hx;exact H.o x (afM hx);exact H.o x hx
 replace h:=hid h;refine O0 (λT2 L2=>∃ct:Option Nat,T2=[(10,.sl (aC G) G.length none),(9,.int .i64 e2),(8,.int .i64 e1),(7,.ptr (L.length+2) 0),(3,.bool false),(2,.ptr (L.length+1) 0)]/\L2=L++[.cells [.int .i64 tg,.str dt,.sl (aC l) l.length none],.cells [.int .i64 0,.sl [] 0 (some 0),.sl [] 0 (some 0),.sl [] 0 (some 0)],.cells [.int .i64 k,dnA T,.sl (y.map aH) y.length ct,.sl [] 0 (some 0)]]) ?_ ?_
 .clear f0 f1 f2 f3 f4 b0 b1 kk1 kk2;by_cases h4:k=4
  .rw[if_pos h4]at t;by_cases J:r=[]
   .rw[if_neg (λe=>e.2 J)]at M;cases M;subst J;subst t;subst h4;have e0:aC []=[]:=(by rw[aC]);refine wk ?_;exact zh [(10,.sl (aC []) ([]:List Nd).length none),(9,.int .i64 0),(8,.int .i64 e1),(7,.ptr (L.length+2) 0),(3,.bool false),(2,.ptr (L.length+1) 0)] _ (GF (j6 rfl (by rw[e0];rfl) (by repeat' first|exact GA|refine j6 rfl rfl ?_)) ahe) ⟨some 0,rfl,rfl⟩
   rw[if_pos ⟨h4,J⟩]at M;have a8:0<r.length:=afa.2 J;have p1:(0:Int)<(r.length:Int):=ahd;have p2:(1:Int)<=(r.length:Int):=ahd;have f0:(aC r).getD 1 .undef=.str (r.getD 0 ce).data:=GP (k:=0) a8;have f2:=ic r;have f3:(aC r).drop 3=aC (r.drop 1):=Mi r 1;have b1:1<(aC r).length:=ahd;have f7:G.length=r.length-1:=(by rw[<- t];simp);have f8:(aC G).take ((r.length-1)*3)=aC G:=(by rw[<- f7,<- ic G,aeI]);obtain⟨n2,a2⟩:=aec (r.getD 0 ce);rw[a2]at f0 M;rw[t]at f3;have kk1:Hid (Ctr Tryz.prog 118 [.str n2.data] (.tup [dnA y,.int .i64 e2])):=@hid _ (by intro L K q;exact VY (by rw[M];exact q));have f9:=b9 y;clear M t a2 J;subst h4;refine wk ?_;exact zh _ _ ahg ⟨none,rfl,rfl⟩
  rw[if_neg h4]at t;rw[if_neg (λe=>h4 e.1)]at M;cases M;subst t;refine wk ?_;exact zh _ _ ahg ⟨some 0,rfl,rfl⟩
 rintro _ _ ⟨ct,rfl,rfl⟩ -;clear M t H f0 f1 f2 f3 f4 f5 f6 b0 b1 kk1 kk2 a9 g1 g2 g3 g4 g5;by_cases z:e1≠0\/e2≠0\/1<G.length;have s:=h.o;rw[if_pos z]at s;simp only[YA]at s;replace s:=hid s;have hb:e1≠0\/e2≠0\/(1:Int)<(G.length:Int):=ahd;clear h z B;by_cases c1:e1=0;by_cases c2:e2=0;have c3:(1:Int)<(G.length:Int):=ahd;clear hb;subst c1;subst c2;refine wk ?_;exact aB (af rfl s.o);clear hb;subst c1;refine wk ?_;exact aB (af rfl s.o);clear hb;refine wk ?_;exact aB (af rfl s.o);have s:=h.o;rw[if_neg z]at s;have ap:e1=0/\e2=0/\G.length<=1:=ahd;obtain⟨rfl,rfl,W⟩:=ap;clear h z;rcases G with _|⟨x,r2⟩;simp only[YA]at s;replace s:=hid s;have e0:aC []=[]:=by rw[aC]
 clear B;refine wk ?_;refine ao (λm T' L'=>m=0/\T'=[(86,.int .i64 0),(85,.int .i64 0),(84,.sl [] 0 none),(7,.ptr (L.length+2) 0),(2,.ptr (L.length+1) 0)]/\L'=L++[.cells [.int .i64 tg,.str dt,.sl (aC l) l.length none],.cells [.int .i64 0,.sl [] 0 (some 0),.sl [] 0 (some 0),.sl [] 0 (some 0)],.cells [.int .i64 k,dnA T,.sl (y.map aH) y.length ct,.sl [] 0 (some 0)]]) ahh ⟨rfl,rfl,rfl⟩ ?_;rintro _ _ _ ⟨rfl,rfl,rfl⟩;refine wk ?_;refine aB ?_;simp only[AV.frz,AV.frzL,b9];refine af ?_ s.o;simp only[AV.refs,AV.refsL,eS];rfl;have a7:r2=[]:=by simp at W;exact W
 subst a7;obtain⟨_,bl,O⟩:=B x ahe;clear B W;simp only at s;obtain⟨g,ai⟩:=aec (x.kids);rw[ai]at s bl O;obtain⟨A,hA⟩:=aec (yx g);rw[hA]at s;have F:A=none->K (.tup [.agg [.int .i64 0,.sl [] 0 none,.sl [] 0 none,.sl [] 0 none],.bool false]) L:=λe=>by rw[e]at s;exact s
 have u:∀a,A=some a->K (.tup [.agg [.int .i64 k,dnA T,dnA y,.sl (bh a) a.length none],.bool true]) L:=λa e=>by rw[e]at s;exact s
 have U:aC [x]=[.int .i64 x.tag,.str x.data,.sl (aC g) g.length none]:=by rw[aC,dP,ai,aC,aeL]
 rw[U];replace F:=hid F;replace u:=hid u;replace O:=hid O;obtain⟨N0,a6⟩:=aec (Blk.cells [.int .i64 tg,.str dt,.sl (aC l) l.length none]);rw[a6];clear s ai U a6;refine wk ?_;refine L7 (L.length+2) 3 2 (c:=[.int .i64 k,dnA T,.sl (y.map aH) y.length ct,.sl [] 0 (some 0)]) (l:=[]) (n:=0) ahe rfl (aeW 2).symm ?_;refine ao (λm T' L'=>∃(i:Nat) (d:List Atr) (D:List AV) (X:List Blk),m=1-i/\i<=1/\Hid (if i=0 then d=[]else A=some d)/\Hid (D=bh d)/\T'=[(86,.int .i64 (i:Int)),(85,.int .i64 1),(84,.sl [.int .i64 x.tag,.str x.data,.sl (aC g) g.length none] 1 none),(7,.ptr (L.length+2) 0),(3,.bool false),(2,.ptr (L.length+1) 0)]/\L'=L++(N0 :: .cells [.int .i64 0,.sl [] 0 (some 0),.sl [] 0 (some 0),.sl [] 0 (some 0)] :: .cells [.int .i64 k,dnA T,.sl (y.map aH) y.length ct,.gsl D d.length (L.length+3) 2] :: .spare d.length 2::X)) ahh ⟨0,[],[],[],rfl,ahd,hid ahe,hid rfl,rfl,ahe⟩ ?_;rintro _ _ _ ⟨i,d,D,X,rfl,hi,hI,hD,rfl,rfl⟩;by_cases bb:i=0;rotate_left;have bd:i=1:=ahd;subst bd;have ad:=hI.o;rw[if_neg ahd]at ad;have s:=hid (u.o d ad);have R:=hD.o;have e0:=nB d;subst R;clear hI hD ad u F;refine wk ?_;refine aB ?_;simp only[AV.frz,AV.frzL,b9,e0];refine af ?_ s.o;simp only[AV.refs,AV.refsL,eS,qD];rfl;subst bb;have V:=hI.o;rw[if_pos rfl]at V;subst V;have R:=hD.o;have a':bh []=[]:=rfl;rw[a']at R;subst R;clear hI hD;refine wk ?_;refine ao (λm T' L'=>∃(d:List Atr) (j:Nat) (D:List AV) (Y:List Blk),m=g.length-j/\j<=g.length/\X.length+1<=Y.length/\Hid ((yx (g.drop j)).map (λr=>d++r)=A)/\Hid (D=bh d/\j=d.length)/\T'=[(93,.int .i64 (j:Int)),(92,.int .i64 g.length),(91,.sl (aC g) g.length none),(86,.int .i64 0),(85,.int .i64 1),(84,.sl [.int .i64 x.tag,.str x.data,.sl (aC g) g.length none] 1 none),(7,.ptr (L.length+2) 0),(3,.bool false),(2,.ptr (L.length+1) 0)]/\L'=L++(N0 :: .cells [.int .i64 0,.sl [] 0 (some 0),.sl [] 0 (some 0),.sl [] 0 (some 0)] :: .cells [.int .i64 k,dnA T,.sl (y.map aH) y.length ct,.gsl D j (L.length+3) 2] :: .spare j 2::Y)) ahh ⟨[],0,[],_,rfl,aep _,ahe,hid (by rw[agw,hA];cases A<;>rfl),hid ⟨rfl,rfl⟩,rfl,rfl⟩ ?_;rintro _ _ _ ⟨d,j,D,Y,rfl,hj,bo,hJ,Q,rfl,rfl⟩;by_cases I:j<g.length
 .have j1:(j:Int)<(g.length:Int):=ahd;have j2:=aee j ahd;have e3:=yH I;have e4:j*3+3<=(aC g).length:=(by rw[ic];omega);obtain⟨a,ha⟩:=aec (g.getD j ce);have a5:g.drop j=a::g.drop (j+1):=(by rw[ae3 I,<- ha];simp[I]);obtain⟨_,bs,a3⟩:=O.o a (by rw[<- ha];simp[I]);rw[ha,dP]at e3;have f:=hJ.o;rw[a5,yx]at f;clear hJ a5 ha hA;by_cases h2:a.kids.length=2;rotate_left;rw[if_pos h2]at f;have s:=hid (F.o f.symm);have g2:¬(a.kids.length:Int)=2:=ahd;clear f h2 F u;refine wk ?_;exact aB (af rfl s.o);rw[if_neg ahd]at f;have g2:(a.kids.length:Int)=2:=ahd;have f0:(aC a.kids).getD 1 .undef=.str (a.kids.getD 0 ce).data:=GP (k:=0) ahd;have f1:(aC a.kids).getD 5 .undef=.sl (aC (a.kids.getD 1 ce).kids) (a.kids.getD 1 ce).kids.length none:=W8 (k:=1) ahd;have b0:1<(aC a.kids).length:=(by rw[ic];omega);have b1:5<(aC a.kids).length:=(by rw[ic];omega);obtain⟨nm,a4⟩:=aec ((a.kids.getD 0 ce).data);obtain⟨w,av⟩:=aec ((a.kids.getD 1 ce).kids);have bx:w.length<=1100000:=by rw[<- av];exact(RH (a3 _ (by simp[show 1<a.kids.length by omega]))).2
  rw[a4]at f0 f;rw[av]at f1 f;have al:(yx (g.drop (j+1))).map (λr=>(d++[(nm,vW w)])++r)=A:=by rw[<- f];cases yx (g.drop (j+1))<;>simp
  replace al:=hid al;clear f a4 av a3 F u h2;refine wk ?_;refine L7 (L.length+(Y.length+1+1+1+1+1)) 1 1 (c:=[.str nm,.sl [] 0 (some 0)]) (l:=[]) (n:=0) ahe rfl (aeW 1).symm ?_;refine ao (λm T' L'=>∃(p:Nat) (E:List AV) (Z:List Blk),m=w.length-p/\p<=w.length/\Hid (E=(vW (w.take p)).map AV.str)/\T'=[(114,.int .i64 (p:Int)),(113,.int .i64 w.length),(112,.sl (aC w) w.length none),(15,.ptr (L.length+(Y.length+1+1+1+1+1)) 0),(93,.int .i64 (j:Int)),(92,.int .i64 g.length),(91,.sl (aC g) g.length none),(86,.int .i64 0),(85,.int .i64 1),(84,.sl [.int .i64 x.tag,.str x.data,.sl (aC g) g.length none] 1 none),(7,.ptr (L.length+2) 0),(3,.bool false),(2,.ptr (L.length+1) 0)]/\L'=L++(N0 :: .cells [.int .i64 0,.sl [] 0 (some 0),.sl [] 0 (some 0),.sl [] 0 (some 0)] :: .cells [.int .i64 k,dnA T,.sl (y.map aH) y.length ct,.gsl D j (L.length+3) 2] :: .spare j 2::(Y++(.cells [.int .i64 a.tag,.str a.data,.sl (aC a.kids) a.kids.length none] :: .cells [.str nm,.gsl E p (L.length+(Y.length+1+1+1+1+1+1)) 1] :: .spare p 1::Z)))) ahh ⟨0,[],[],rfl,aep _,hid rfl,rfl,ahe⟩ ?_;rintro _ _ _ ⟨p,E,Z,rfl,hp,hE,rfl,rfl⟩;by_cases S:p<w.length;have p1:(p:Int)<(w.length:Int):=ahd;have p2:=aee p ahd;have e5:=yH S;have e6:p*3+3<=(aC w).length:=(by rw[ic];omega);obtain⟨v,hv⟩:=aec (w.getD p ce);rw[hv,dP]at e5;have ab:(vW (w.take (p+1))).map AV.str=E++[.str v.data]:=by rw[hE.o,aeM S,show w[p]=v by rw[<- hv];simp[S]];simp[vW]
  replace ab:=hid ab;clear hv hE;refine wk ?_;exact ahi ahd ahg ⟨p+1,_,Z++[.cells [.int .i64 v.tag,.str v.data,.sl (aC v.kids) v.kids.length none]],rfl,S,hid ab.o.symm,rfl,ahe⟩;have bn:p=w.length:=ahd;subst bn;have p1:¬(w.length:Int)<(w.length:Int):=ahd;have P:=hE.o;rw[aeI]at P;have e5:AV.frzL E=E:=(by rw[P];exact ji _);have a1:D++[.str nm,.sl E w.length none]=bh (d++[(nm,vW w)]):=by rw[Q.o.1,Qp,P];simp only[bh,afe,List.flatMap_nil,aeL,atA,vW,aeu]
  replace a1:=hid a1;clear hE P;refine wk ?_;refine ahi ahd (CutL (b:=by simp;omega)) ⟨d++[(nm,vW w)],j+1,_,_,rfl,I,?_,al,hid ⟨a1.o,by rw[Q.o.2];simp⟩,rfl,rfl⟩;simp;omega
 have a_:j=g.length:=ahd;subst a_;have j1:¬(g.length:Int)<(g.length:Int):=ahd;have f:=hJ.o;rw[afR,yx]at f;simp only[aeC,aeL]at f;replace f:=hid f;clear hJ;refine wk ?_;exact ahi ahd ahg ⟨1,d,D,Y,rfl,ahd,hid (by rw[if_neg ahd];exact f.o.symm),hid Q.o.1,rfl,by rw[<- Q.o.2]⟩
theorem O8{B C:Nat}(h:B<=C):∀{k:Nat}{n:Nd},szB B k n->szB C k n
 |0,_,hz=>⟨by have:=hz.1;omega,by have:=hz.2;omega⟩
 |_+1,_,hz=>⟨by have:=hz.1;omega,by have:=hz.2.1;omega,λx a=>O8 h (hz.2.2 x a)⟩
theorem V8{p:List UInt8->Except Int (Nd×List UInt8)}(g:∀s n r,p s=.ok (n,r)->r.length<s.length):∀(F:Nat) (u:List UInt8) (l:List Nd),qq p F u=.ok l->l.length<=u.length/\∀x∈l,∃v r,v.length<=u.length/\p v=.ok (x,r)
 |0,[],l,h=>by cases h;simp
 |0,_::_,l,h=>by cases h;simp
 |F+1,[],l,h=>by cases h;simp
 | F+1,c::u,l,h=>by
   rw[V9 ahe]at h;split at h
   .cases h
   rename_i n r d;split at h
   .cases h
   rename_i l' i;cases h;have e:=g _ _ _ d;obtain⟨k,j⟩:=V8 g F r l' i;refine⟨by simp at e⊢;omega,λx f=>?_⟩;rcases aeJ.1 f with rfl|f
   .exact⟨_,_,aek _,d⟩
   .obtain⟨v,r',a,b⟩:=j x f;exact⟨v,r',ahd,b⟩
theorem YU:∀(f:Nat){s:List UInt8}{n:Nd}{r:List UInt8},ng f s=.ok (n,r)->∀k,szB s.length k n
 |0,s,n,r,h,k=>by cases h
 | f+1,s,n,r,h,k=>by
   rw[ng]at h;split at h
   .cases h
   simp only at h;split at h
   .cases h
   split at h
   .cases h
   rename_i size a j;split at h
   .cases h
   rename_i d;split at h
   .cases h;cases k with
    |zero=>exact⟨by simp only[Nd.data,afg,afu];omega,by simp[Nd.kids]⟩
    |succ k=>exact⟨by simp only[Nd.data,afg,afu];omega,by simp[Nd.kids],λx b=>by simp[Nd.kids]at b⟩
   split at h
   .cases h
   .rename_i ks hm;cases h;obtain⟨i,e⟩:=V8 (λs n r=>YV) _ _ _ hm;have l:((s.drop a).take size).length<=s.length:=(by simp only[afg,afu];omega);cases k with
    |zero=>exact⟨by simp[Nd.data],by simp only[Nd.kids];omega⟩
    | succ k =>
      refine⟨by simp[Nd.data],by simp only[Nd.kids];omega,λx b=>?_⟩;obtain⟨v,g,m,c⟩:=e x b;exact O8 ahd (YU f c k)
theorem Ya(h:Oa s=.ok n)(k:Nat):szB s.length k n:=by unfold Oa at h;split at h;cases h;rename_i b r a;split at h;cases h;exact YU _ a k;cases h
theorem Wo{B:Nat}:∀{l:List Nd}{a:List Atr},yx l=some a->(∀x∈l,szB B 2 x)->a.length<=l.length/\∀y∈a,y.1.length<=B/\y.2.length<=B/\∀v∈y.2,v.length<=B
 |[],a,h,_=>by cases h;simp
 | x::l,a,h,hz=>by
   rw[yx]at h;split at h
   .cases h
   rename_i k;rw[aeK]at h;obtain⟨r,f,rfl⟩:=h;obtain⟨m,g⟩:=Wo f λy b=>hz y (by simp[b])
   refine⟨by simp;omega,λy b=>?_⟩;rcases aeJ.1 b with rfl|b
   .obtain⟨_,_,hk⟩:=hz x ahe;have e:=RH (hk (x.kids.getD 0 ce) (by simp[show 0<x.kids.length by omega]));obtain⟨_,i,d⟩:=hk (x.kids.getD 1 ce) (by simp[show 1<x.kids.length by omega]);refine⟨e.1,by simpa[vW]using i,λv c=>?_⟩;simp only[vW,ael]at c;obtain⟨w,j,rfl⟩:=c;exact(RH (d w j)).1
   .exact g y b
theorem acA(G:s.length<=1100000)(B:Oa s=.ok n)(b:UB n=some u):dnB u.dn/\dnB u.tw/\qF u:=by
 obtain⟨t,d,l⟩:=n;obtain⟨_,_,i⟩:=Ya B 4;simp only[Nd.kids]at i;rw[VS,acB]at b;split at b;cases b;split at b;cases b;rename_i k m;simp only at b;have g:∀s,dnB (kH s).1:=λs=>⟨by have:=(V0 s).1;omega,λr hr=>by have:=(V0 s).2 r hr;omega⟩
 have f:dnB (if k=4/\l.drop 2≠[]then kH ((l.drop 2).getD 0 ce).data else([],0)).1:=by split;exact g _;exact⟨ahe,ahe⟩
 have j:∀x∈(if k=4 then(l.drop 2).drop 1 else l.drop 2),x∈l:=λx e=>by split at e;exact afM (afM e);exact afM e
 obtain⟨q,o⟩:=aec ((if k=4/\l.drop 2≠[]then kH ((l.drop 2).getD 0 ce).data else([],0)));obtain⟨h,c⟩:=aec ((if k=4 then(l.drop 2).drop 1 else l.drop 2));rw[o,c]at b;rw[o]at f;rw[c]at j;by_cases p:(kH (l.getD 1 ce).data).2≠0\/q.2≠0\/1<h.length;rw[if_pos p]at b;cases b;rw[if_neg p]at b;rcases h with _|⟨x,F⟩;cases b;exact⟨g _,f,ahe,ahe⟩;simp only at b;rw[aeK]at b;obtain⟨a,D,rfl⟩:=b;obtain⟨_,I,E⟩:=i x (j x ahe);obtain⟨H,A⟩:=Wo D E;refine⟨g _,f,⟨by simp only;omega,λy z=>?_⟩⟩;obtain⟨K,J,w⟩:=A y z;exact⟨ahd,ahd,λv C=>by have:=w v C;omega⟩
def rdA(p:Upd×Int):AV:=.tup [.agg (bV p.1),.int .i64 p.2]
theorem acE(t:s.length<=1100000)(h:K (rdA (rdU s)) L):aeg 58 [.str s] L K:=by
 have b:∀e,rdU s=(NZ,e)->K (.tup [.agg [.int .i64 0,.sl [] 0 none,.sl [] 0 none,.sl [] 0 none],.int .i64 e]) L:=λe p=>by rw[p]at h;exact h
 rcases hw:Oa s with e|n;have i:=hid (b e (by rw[rdU,hw]));have p:=aaA hw;have kk1:Hid (Ctr Tryz.prog 85 [.str s] (.tup [.agg [.int .i64 0,.str [],.sl [] 0 none],.int .i64 e])):=@hid _ (by intro L K q;exact VD ahd (by rw[hw];exact q));clear b hw h;refine aef fi ?_;exact aB (af rfl i.o);have kk1:Hid (Ctr Tryz.prog 85 [.str s] (.tup [.agg [.int .i64 n.tag,.str n.data,.sl (aC n.kids) n.kids.length none],.int .i64 0])):=@hid _ (by intro L K q;exact VD ahd (by rw[hw,acs,dP];exact q));have k:szB 1100000 4 n:=O8 ahd (Ya hw 4);rcases hy:UB n with _|u;have i:=hid (b 4 (by rw[rdU,hw];simp only[hy]));have kk2:Hid (Ctr Tryz.prog 86 [.agg [.int .i64 n.tag,.str n.data,.sl (aC n.kids) n.kids.length none]] (.tup [.agg [.int .i64 0,.sl [] 0 none,.sl [] 0 none,.sl [] 0 none],.bool false])):=@hid _ (by intro L K q;rw[<- dP];exact Yy k (by rw[hy];exact q));clear b hw h hy k;refine aef fi ?_;exact aB (af rfl i.o);obtain⟨hd,l,j⟩:=acA t hw hy;have g:ads u:=⟨hd,l,by have:=j.1;omega,λa v=>by have:=(j.2 a v).2.1;omega⟩;have kk2:Hid (Ctr Tryz.prog 86 [.agg [.int .i64 n.tag,.str n.data,.sl (aC n.kids) n.kids.length none]] (.tup [.agg (bV u),.bool true])):=@hid _ (by intro L K q;rw[<- dP];exact Yy k (by rw[hy];exact q));obtain⟨⟨w,e⟩,d⟩:∃q,wrU u=q:=⟨_,rfl⟩;have kk3:Hid (Ctr Tryz.prog 14 [.agg (bV u)] (.tup [.str w,.int .i64 e])):=@hid _ (by intro L K q;exact OG hd l j (by rw[d];exact q));have c:rdU s=if e≠0\/w≠s then(NZ,4)else(kV u,0):=by rw[rdU,hw];simp only[hy,d]
 by_cases f:e≠0\/w≠s;have i:=hid (b 4 (by rw[c,if_pos f]));clear b hw h hy k c d g hd l j;by_cases r:e=0;have x:¬w=s:=by rcases f with m|m;exact absurd r m;exact m
 clear f;subst r;refine aef fi ?_;exact aB (af rfl i.o);clear f;refine aef fi ?_;exact aB (af rfl i.o);rw[c,if_neg f,rdA]at h;simp only[not_or,ne_eq,agz]at f;obtain⟨rfl,rfl⟩:=f;have kk4:Hid (Ctr Tryz.prog 87 [.agg (bV u)] (.agg (bV (kV u)))):=@hid _ (by intro L K q;exact ac3 g q);replace h:=hid h;clear b hw hy k c d g hd l j;refine aef fi ?_;exact af (by simp only[AV.refs,AV.refsL,eS,qD];rfl) h.o
end Go.Proofs.YtajkbcmleihaoaaGreatDoor.Av
set_option maxRecDepth 100000
namespace Go.Proofs.YtajkbcmleihaoaaGreatDoor.Av
open Go
def EU:LSO:=[AJ 4,Ab 5 0]
def ET:LSO:=[Aa 13 1,Ag 14 21 13,Aa 12 14,Am 15 12,An 16 12,Aa 6 15,Aa 7 16]
def ES:LSO:=[Aa 17 7,Az 18 17 0]
def ER:LSO:=[Aa 19 7,AJ 4,Aa 5 19]
def EP:LSO:=[Aa 21 0,Ag 22 22 21,Aa 20 22,Am 23 20,An 24 20,AO 25 20,Aa 8 23,Aa 9 24,Aa 7 25]
def EO:LSO:=[Aa 26 7,Az 27 26 0]
def EN:LSO:=[Aa 28 7,AJ 4,Aa 5 28]
def EM:LSO:=[Aa 30 6,Aa 31 9,Ax 32 23 30 31,Aa 29 32,Am 33 29,An 34 29,Aa 10 33,Aa 11 34]
def EL:LSO:=[Aa 35 11,Az 36 35 0]
def EK:LSO:=[Aa 37 11,AJ 4,Aa 5 37]
def zr:LSO:=[Aa 38 6,Ae 39 38,Ad 40 0 39,Ac 41 1 40,Aa 42 6,Aa 43 8,
 o1 44 (.build [.nilptr,.nilptr,.nilptr,(.bool false)] [(0,(1,(tm 41))),(1,(1,(tm 42))),(2,(1,(tm 43)))]),A1 45 44,Aa 4 45,Ab 5 0]
def yW:aI:=⟨46,(ag6 EU [] (ag6 ET Ck (.seq (ag6 ES Cc (ag8 18 (.sreg ER Ci))) (ag6 EP Cr (.seq (ag6 EO Cc (ag8 27 (.sreg EN Ci))) (.seq (ag6 EM Cj (ag6 EL Cc (ag8 36 (.sreg EK Ci)))) (ag6 zr Cz .ret))))))),[(.tmp 4),(.tmp 5)]⟩
attribute [push_cast] EU ET ES ER EP EO EN EM EL EK zr
theorem Ow:ahb 7=ahc yW:=ahf
def rx:LSO:=[A1 3 1,Ab 4 0,Ab 5 0]
def ru:LSO:=[Aa 10 0,AB 11 10,Aa 9 11]
def rr:LSO:=[Ab 4 1,Ab 5 1]
def rq:LSO:=[Aa 13 0,Ae 14 13,Ad 15 3 14,Ac 16 1 15,Aa 12 16]
def rp:LSO:=[Ab 4 80,Ab 5 12]
def rl:LSO:=[Aa 17 0,Ae 18 17,Ad 19 1 18,Ac 20 1 19,Ae 21 20,Ad 22 0 21,Ac 23 1 22,Ay 24 4 3,Ax 25 13 23 24,Aa 6 25]
def rk:LSO:=[Aa 26 6,Az 27 26 0]
def rj:LSO:=[Aa 28 6,Aa 4 28,Ab 5 0]
def ri:LSO:=[Ay 30 4 3,Ag 31 14 30,Aa 29 31,Am 32 29,An 33 29,Aa 7 32,Aa 8 33]
def rh:LSO:=[Aa 34 8,Az 35 34 0,Aa 36 35,.grp none 36 false
 [Ah 37 36 7,By 38 36 37,AD 39 36 38 262144]
 40 (tm 39)]
def pd:LSO:=[Ab 4 80,Ab 5 0]
def pc:LSO:=[Aa 41 0,Ae 42 41,Ad 43 2 42,Ac 44 1 43,Aa 45 7,Ax 46 28 44 45,Aa 8 46]
def o9:LSO:=[Aa 47 8,A0 48 47 11]
def o8:List (aj×Kd):=
 [Ar 49 0,A3 50 49 0 0,Au 51 2 50,Aw 52 1 51 0 0,Ar 53 0,A3 54 53 0 0,Au 55 1 54,Aw 56 1 55 0 0,A3 57 56 0 0,Au 58 0 57,Aw 59 1 58 0 0,AP 60 30 59 0 0]
def mz:List aj :=
 [⟨(some 61),(.call 29 [(tm 52),(tm 60)]),none⟩,⟨(some 8),(.mv (tm 61)),none⟩]
def o7:LSO:=[Aa 62 8,A0 63 62 0]
def o6:LSO:=[Aa 64 0,Ae 65 64,Ad 66 2 65,Ac 67 1 66,Aa 68 7,Ax 69 28 67 68,Aa 8 69]
def o5:LSO:=[Aa 70 8]
def o4:LSO:=[A0 72 70 0,Aa 71 72]
def o3:List (aj×Kd):=
 [Ar 73 0,A3 74 73 0 0,Au 75 1 74,Aw 76 1 75 0 0,BW 77 4 3 0 0]
def mw:List aj :=
 [⟨(some 78),(.call 31 [(tm 76),(tm 77)]),none⟩,⟨(some 4),(.mv (tm 78)),none⟩,⟨(some 5),(.mv (iv 0)),none⟩]
def oZ:LSO:=[A0 80 70 11,Aa 79 80]
def oY:LSO:=[A0 81 70 5,Aa 79 81]
def oX:LSO:=[Ab 4 80,Ab 5 0]
def oW:LSO:=[Aa 82 0,Ae 83 82,Ad 84 3 83,o0 (.store 1 (tm 84) (.av (.bool true)))]
def oV:LSO:=[Aa 85 8,Ab 4 80,Aa 5 85]
def cu:aI:=⟨86,(ag6 rx [] (.seq (.block 0 (ag6 ru Cd (ag7 9 (ag6 rr [] .ret) (ag6 rq Cf (ag8 12 (.sreg rp [])))))) (.seq (.seq (.sdreg rl [.pure,(.read 0 0),.pure,(.read 0 0),(.read 0 0),.pure,(.read 0 0),(.read 0 0)] Cl) (ag6 rk Cc (ag8 27 (.sreg rj Ci)))) (ag6 ri Ck (.seq (ag6 rh Ce (ag8 40 (.sreg pd []))) (ag6 pc Cg (.seq (ag6 o9 Cc (ag7 48 (.seq (.dregM o8 mz CK) (ag6 o7 Cc (ag7 63 (.sreg o6 Cg) .skip))) .skip)) (.seq (ag6 o5 [] (.block 1 (ag6 o4 Cc (ag7 71 (.seq (.dregM o3 mw Cq) .ret) (.seq (ag6 oZ Cc (ag7 79 .skip (.sreg oY Cc))) (ag8 79 (.sreg oX []))))))) (ag6 oW Ct (ag6 oV Ci .ret)))))))))),[(.tmp 4),(.tmp 5)]⟩
attribute [push_cast] rx ru rr rq rp rl rk rj ri rh pd pc o9 o8 mz o7 o6 o5 o4 o3 mw oZ oY oX oW oV
theorem iW:ahb 11=ahc cu:=ahf
def xh:LSO:=[Aq 0]
def xg:LSO:=[o1 1 (.build [(.str []),(.str [])] [(0,(1,(.av (.str [100,99])))),(1,(1,(.av (.str [122]))))]),
 o1 2 (.bslice false 2 1 [(.str []),(.str [])] [(0,(2,(tm 1)))]),Bi 3 2,Aa 0 3]
def sC:aI:=⟨4,(ag6 xh [] (ag6 xg Ce .ret)),[(.tmp 0)]⟩
attribute [push_cast] xh xg
theorem LQ:ahb 8=ahc sC:=ahf
def Dx:LSO:=[Al 0]
def Dw:LSO:=[o1 8 (.call 6 [(iv 40)]),Aa 1 8]
def Dv:LSO:=[Aa 10 1,Br 11 8,Ax 12 7 10 11,Aa 9 12,Am 13 9,An 14 9,Aa 2 13,Aa 3 14]
def Du:LSO:=[Aa 15 3,Az 16 15 0,Aa 17 16,.grp none 17 false
 [Ah 18 17 2,BY 19 17 18]
 20 (tm 19)]
def Dt:LSO:=[Al 0]
def Ds:LSO:=[Aa 22 2,Br 23 8,o1 24 (.build [(.int .i64 0),(.sl [] 0 (some 0)),(.sl [] 0 (some 0)),(.sl [] 0 (some 0))] [(0,(1,(iv 1))),(1,(1,(tm 23)))]),
 Ax 25 11 22 24,Aa 21 25,Am 26 21,An 27 21,Aa 4 26,Aa 5 27]
def Dr:LSO:=[Aa 28 1,o1 29 (.build [(.int .u64 0),(.int .i64 0),(.int .i64 0)] [(1,(1,(iv (-1))))]),Ax 30 24 28 29]
def Dq:LSO:=[Aa 32 1,Br 33 8,Ax 34 7 32 33,Aa 31 34,Am 35 31,An 36 31,Aa 6 35,Aa 7 36]
def Dp:LSO:=[Aa 37 4,A0 38 37 0,Aa 39 38,.grp none 39 true
 [Ao 40 39 5,AU 41 39 40 0]
 42 (tm 41),Aa 43 42,.grp none 43 true
 [Ao 44 43 7,AU 45 43 44 0]
 46 (tm 45),Aa 47 46,.grp none 47 true
 [Ao 48 47 6,og 49 47 true (.eqk true .ptr (tm 48) (.av .nilptr))]
 50 (tm 49),Aa 51 50,.grp none 51 true
 [Ao 52 51 6,BA 53 51 52,AS 54 51 0 53,AN 55 51 1 54,og 56 51 true (.call 25 [(tm 55)]),AU 57 51 56 1]
 58 (tm 57),Aa 59 58,.grp none 59 true
 [Ao 60 59 6,BA 61 59 60,AS 62 59 0 61,AN 63 59 1 62,og 64 59 true (.call 8 []),og 65 59 true (.call 26 [(tm 63),(tm 64)]),AU 66 59 65 1]
 67 (tm 66),Aa 0 67]
def vR:aI:=⟨68,(ag6 Dx [] (ag6 Dw Cc (ag6 Dv Cq (.seq (ag6 Du Ce (ag8 20 (.sreg Dt []))) (ag6 Ds Cv (ag6 Dr Ct (ag6 Dq Cq (.seq (.sdreg Dp [.pure,.pure,.pure,.pure,.pure,.pure,.pure,.pure,.pure,.pure,.pure,.pure,.pure,.pure,.pure,.pure,(.read 0 0),.pure,(.read 0 0),(.read 0 0),.pure,.pure,.pure,.pure,(.read 0 0),.pure,(.read 0 0),(.read 0 0)] CB) .ret)))))))),[(.tmp 0)]⟩
attribute [push_cast] Dx Dw Dv Du Dt Ds Dr Dq Dp
theorem MB:ahb 9=ahc vR:=ahf
def ui:LSO:=[Aq 2]
def uh:LSO:=[Aq 3]
def ug:LSO:=[Aa 8 0,Ae 9 8,Ad 10 0 9,Ac 11 1 10,Aa 12 0,Ae 13 12,Ad 14 0 13,Ac 15 1 14,Aa 16 0,Ae 17 16,Ad 18 0 17,Ac 19 1 18,Ag 20 33 19,Ax 21 26 15 20,
 Ba 22 32 11 21 2,Af 23 22,Ab 24 0]
def uf:LSO:=[Ap 25 24 23]
def ue:LSO:=[Ak 26 1 22 24,Ac 27 1 26,Aa 5 27]
def uc:LSO:=[Aa 29 0,Ae 30 29,Ad 31 0 30,Ac 32 1 31,Aa 33 5,Ax 34 34 32 33,Aa 28 34,Am 35 28,An 36 28,Aa 6 35,Aa 7 36]
def ub:LSO:=[Aa 37 3,Aa 38 6,Aa 39 7,o1 40 (.build [(.int .i64 0),(.sl [] 0 (some 0)),(.sl [] 0 (some 0))] [(1,(1,(tm 38))),(2,(1,(tm 39)))]),
 o1 41 (.bslice false 3 1 [(.int .i64 0),(.sl [] 0 (some 0)),(.sl [] 0 (some 0))] [(0,(3,(tm 40)))]),
 o1 42 (.app 1 3 56 [(.int .i64 0),(.sl [] 0 (some 0)),(.sl [] 0 (some 0))] (tm 37) (tm 41)),Aa 3 42]
def t8:LSO:=[Aj 43 24 1,Aa 24 43]
def t7:LSO:=[Aa 44 3,Aa 2 44]
def nM:aI:=⟨45,(ag6 ui [] (ag6 uh [] (.seq (.seq (.sdreg ug [.pure,(.read 0 0),.pure,(.read 0 0),.pure,(.read 0 0),.pure,(.read 0 0),.pure,(.read 0 0),.pure,(.read 0 0),(.read 0 0),(.read 0 0),(.read 0 0),(.read 0 0),.pure] [true,true,true,false,false,false,false,false,false,false,false,false,false,false,false,false,false]) (ag9 0 (ag6 uf [] (.seq (aha 25 0) (.seq (.block 1 (ag6 ue Cd (ag6 uc C2 (.sreg ub Cg)))) (.sreg t8 Cc)))))) (ag6 t7 Cc .ret)))),[(.tmp 2)]⟩
attribute [push_cast] ui uh ug uf ue uc ub t8 t7
theorem Jt:ahb 12=ahc nM:=ahf
def pt:LSO:=[A1 4 1,Al 6]
def pr:LSO:=[o1 19 (.call 6 [(iv 400)]),Aa 7 19]
def pq:LSO:=[Aa 21 7,Br 22 8,Ax 23 7 21 22,Aa 20 23,Am 24 20,An 25 20,Aa 8 24,Aa 9 25]
def pn:LSO:=[Br 26 9,A6 27 26,Aa 28 27,.grp none 28 false
 [Ah 29 28 9,BJ 30 28 29 0]
 31 (tm 30),Aa 32 31,.grp none 32 false
 [Ah 33 32 0,AI 34 32 33,AD 35 32 34 15]
 36 (tm 35),Aa 37 36,.grp none 37 false
 [og 38 37 false (.load true 4 (tm 4)),Bw 39 37 10 38,Bo 40 37 39]
 41 (tm 40)]
def pm:LSO:=[Br 42 9,Aa 6 42]
def pl:LSO:=[Aa 43 0,Af 44 43,Ab 45 0]
def pk:LSO:=[Ap 46 45 44]
def pj:LSO:=[Ak 47 4 43 45,Ay 48 4 47,Bj 11,Ai 4 11 48]
def ph:LSO:=[Ay 49 4 11,Ag 50 10 49,A6 51 50]
def pg:LSO:=[AA 6]
def mP:LSO:=[Aa 53 8,Ay 54 4 11,Ax 55 11 53 54,Aa 52 55,Am 56 52,An 57 52,Aa 12 56,Aa 13 57]
def mO:LSO:=[Aa 58 13,Az 59 58 0]
def mN:LSO:=[Al 6]
def mM:LSO:=[Aj 60 45 1,Aa 45 60]
def mL:LSO:=[Aa 61 8,Ag 62 12 61,Aa 14 62]
def mK:LSO:=[Aa 63 8,Ae 64 63,Ad 65 0 64,Ac 66 1 65,Ay 67 4 4,Ax 68 13 66 67,Aa 15 68]
def mJ:LSO:=[Ay 70 4 4,Ag 71 14 70,Aa 69 71,Am 72 69,An 73 69,Aa 16 72,Aa 17 73]
def mI:LSO:=[Aa 74 16,A5 75 74,A8 76 75 5000]
def mH:LSO:=[AA 6]
def mG:LSO:=[Aa 77 7,Aa 78 2,BP 79 78 2,Ax 80 15 77 79]
def mF:LSO:=[Aa 82 8,Ay 83 4 4,Ax 84 11 82 83,Aa 81 84,Am 85 81,An 86 81,Aa 18 85,Aa 9 86]
def mE:LSO:=[Aa 87 9,Az 88 87 0,Aa 89 88,.grp none 89 false
 [Ah 90 89 8,Bw 91 89 12 90,Ah 92 89 14,Cb 93 89 16 91 92,Bo 94 89 93]
 95 (tm 94),Aa 96 95,.grp none 96 false
 [Ah 97 96 15,AY 98 96 97 0,Ah 99 96 98,.grp (some (96,false)) 99 true
 [Ao 100 99 18,BF 101 99 100 80]
 102 (tm 101)]
 103 (tm 102),Aa 104 103,.grp none 104 false
 [Ah 105 104 15,BJ 106 104 105 0,Ah 107 104 106,.grp (some (104,false)) 107 true
 [Ao 108 107 18,Ao 109 107 15,BO 110 107 108 109]
 111 (tm 110)]
 112 (tm 111)]
def mD:LSO:=[Al 6]
def mC:LSO:=[Aa 113 7,AE 114 15 113 400]
def mB:LSO:=[Aa 116 8,Ay 117 4 4,Ax 118 11 116 117,Aa 115 118,Am 119 115,An 120 115,Aa 18 119,Aa 9 120]
def mA:LSO:=[Aa 121 9,A0 122 121 0,Aa 123 122,.grp none 123 true
 [Ao 124 123 18,Ao 125 123 15,og 126 123 true (.bin .eql (tm 124) (tm 125)),Ao 127 123 126,.grp (some (123,true)) 127 false
 [Ah 128 127 18,AY 129 127 128 80]
 130 (tm 129)]
 131 (tm 130),Aa 6 131]
def kQ:aI:=⟨132,(ag6 pt [] (ag6 pr Cc (ag6 pq Cq (.seq (ag6 pn Cj (ag8 41 (.sreg pm Cc))) (.seq (ag6 pl [] (ag9 0 (ag6 pk [] (.seq (aha 46 0) (.seq (.block 1 (ag6 pj Cd (.seq (ag6 ph Cd (ag8 51 (.sreg pg []))) (ag6 mP Cj (ag6 mO Cc (ag8 59 (.sreg mN []))))))) (.sreg mM Cc)))))) (ag6 mL Cd (.seq (.sdreg mK [.pure,(.read 0 0),.pure,(.read 0 0),(.read 0 0)] Cg) (ag6 mJ C5 (.seq (ag6 mI Cd (ag8 76 (.sreg mH []))) (ag6 mG Cp (ag6 mF Cq (.seq (ag6 mE Cj (ag8 112 (.sreg mD []))) (ag6 mC Cw (ag6 mB Cq (ag6 mA Cf .ret))))))))))))))),[(.tmp 6)]⟩
attribute [push_cast] pt pr pq pn pm pl pk pj ph pg mP mO mN mM mL mK mJ mI mH mG mF mE mD mC mB mA
theorem Gr:ahb 3=ahc kQ:=ahf
attribute [push_cast] yW cu sC vR nM kQ
end Go.Proofs.YtajkbcmleihaoaaGreatDoor.Av
