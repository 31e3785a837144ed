/- Joined texts of the walk, made small by a program. -/
import Derived.Test.YtdnfjhflkkpokaaGreatDoorGk11
import Derived.Test.YtdnfjhflkkpokaaGreatDoorGk9
import Derived.Test.YtdnfjhflkkpokaaGreatDoorGk8
import Derived.Test.YtdnfjhflkkpokaaGreatDoorGk10
import Derived.Test.YtdnfjhflkkpokaaGreatDoorGk5
import Derived.Test.YtdnfjhflkkpokaaGreatDoorGk7
import Derived.Test.YtdnfjhflkkpokaaGreatDoorGk4
import Derived.Shelf.Strings.Builder1
import Derived.Shelf.Strings.Builder2
import Derived.Shelf.Strings.OnBuilder
import Derived.Shelf.Small.Bits
import Derived.Shelf.Small.Strs
import Derived.Shelf.Strconv.Itoa0
import Derived.Shelf.Strconv.Itoa1
import Derived.Shelf.LaysM
import Derived.Shelf.Strconv.Itoa2
import Derived.Shelf.Strconv.Itoa3
import Derived.Shelf.Strconv.Itoa4
import Derived.Shelf.Strconv.ParseIntEmpty
import Derived.Shelf.Strconv.Clone
import Derived.Shelf.Strconv.SyntaxError
import Derived.Shelf.LaysC
import Derived.Shelf.Strconv.ToError
import Derived.Shelf.Strconv.Lower
import Derived.Shelf.Strconv.ParseUint10
import Derived.Shelf.Strconv.ParseUint10Empty
import Derived.Shelf.Strconv.ParseUint10Any
import Derived.Shelf.Strconv.ParseInt10
import Derived.Shelf.Strconv.RangeError
import Derived.Shelf.Strconv.ToErrorRange
import Derived.Shelf.Strconv.ParseUintEmpty
import Derived.Shelf.Strconv.ParseUint10b64
import Derived.Shelf.Strconv.ParseUint10b32
import Derived.Shelf.Strconv.ParseUint10b16
import Derived.Shelf.Strconv.ParseUint10b8
import Derived.Shelf.Strconv.ParseUint10At
import Derived.Shelf.Strconv.ParseInt10At64
import Derived.Shelf.Strconv.ParseInt10At32
import Derived.Shelf.Strconv.ParseInt10At16
import Derived.Shelf.Strconv.ParseInt10At8
import Derived.Shelf.Strconv.ParseInt10All
import Derived.Shelf.Strconv.ParseIntPublic10
import Derived.Shelf.Strconv.ErrVarParseInt
import Derived.Shelf.Strings.Search1
import Derived.Shelf.Strings.Search2
import Derived.Shelf.Strings.Search3
import Derived.Shelf.Strings.Cut
import Derived.Shelf.Strings.Shaped
import Derived.Shelf.Sort.Plain
import Derived.Shelf.GgClosure.StringsIndexFunc
import Derived.Ground.GgwProg
import Derived.Shelf.GgClosure.StringsIndexFuncTop
import Derived.Shelf.GgClosure.StringsRunes
import Derived.Shelf.Strings.Prefix
import Derived.Shelf.Slices.Equal
import Derived.Ground.Names2Prog
import Derived.Shelf.Slices.Clone
import Derived.Shelf.Slices.In.SortNone
import Derived.Ground.SlsfProg
import Derived.Shelf.SlSortCmp.Insertion
import Derived.Shelf.SlSortCmp.SiftDown1
import Derived.Shelf.SlSortCmp.HeapSort1
import Derived.Shelf.SlSortCmp.Insertion1
import Derived.Shelf.SlSortCmp.Median1
import Derived.Shelf.SlSortCmp.Pivot1
import Derived.Shelf.SlSortCmp.ReverseRange1
import Derived.Shelf.SlSortCmp.PartialInsertion1
import Derived.Shelf.SlSortCmp.PartitionEqual1
import Derived.Shelf.SlSortCmp.Partition1
import Derived.Shelf.SlSortCmp.Pdq1
import Derived.Shelf.SlSortCmp.Whole1
import Derived.Shelf.SlSortCmp.NoneTotal
import Derived.Test.YtdnfjhflkkpokaaGreatDoorProg
import Derived.WalkKit
import Derived.WalkLawsBesides
import Derived.Deep.QuietTactic
import Derived.Deep.LoopGhost
import Derived.BigQuiet
import Derived.Lib.Walk
import Derived.Test.YtdnfjhflkkpokaaGreatDoorRows
import Derived.KernelRfl
import Derived.Maps.RangeRun
set_option linter.unusedSimpArgs false
set_option linter.unusedVariables false
namespace Go.Proofs.YtdnfjhflkkpokaaGreatDoor.Av
open Go
variable {d:List Rdn}{cap cap' c:Option Nat}{k rt:Nat}{β:Type}{rows:List AV}
variable {L:List Blk}{K:aoY}
set_option maxHeartbeats 8000000
set_option maxRecDepth 100000
def dnM(d:List Rdn):Prop:=d.length<=1100000/\∀r∈d,r.length<=1100000/\∀a∈r,(a.1.length:Int)<=140737488351232
theorem dnM.b(h:dnM d):dnB d:=⟨h.1,λr a=>(h.2 r a).1⟩
theorem Ze(h:OkD d):d.length<=1000/\∀r∈d,r.length<=1000/\∀a∈r,a.1.length<=10000/\a.2.length<=10000:=by obtain⟨f,c⟩:=Y4 h;exact⟨aso,λr b=>⟨by have:=(c r b).1;omega,λa e=>⟨by have:=((c r b).2 a e).1;omega,by have:=((c r b).2 a e).2;omega⟩⟩⟩
theorem OkD.m(h:OkD d):dnM d:=⟨by have:=(Ze h).1;omega,λr b=>⟨by have:=((Ze h).2 r b).1;omega,λa c=>by have:=(((Ze h).2 r b).2 a c).1;omega⟩⟩
theorem akN(g:OkD d)(h:K (.str (bj true d)) L):
  aoX 85 [.sl (d.map am) d.length cap,.bool true] L K:=by
 obtain⟨j,f⟩:=Y4 g;have c:∀r∈d,(dx true r).length<=200000:=λr b=>S9 (f r b).1 (λa e=>((f r b).2 a e).1) (λa e=>((f r b).2 a e).2)
 have i:=SZ aso c;exact afP (Ze g).1 (Ze g).2 (λr b=>by have:=c r b;omega) aso h
theorem aiE(i:OkD d)(h:K (.str (bj true d)) L):
  aoX 88 [.sl ((hG d).map am) d.length cap] L K:=by
 have c:=Ze i;have e:∀r∈hG d,r.length<=1000/\∀a∈r,a.1.length<=10000/\a.2.length<=10000:=λr g=>by obtain⟨f,b,rfl⟩:=ao6.1 g;exact⟨by rw[tt];exact(c.2 f b).1,Y6 (c.2 f b).2⟩
 have:=@Yq (hG d) cap (by rw[R8];exact c.1) e L K (by rw[EI];exact h);rwa[R8]at this
theorem SV{b:List Rdn}(j:dnB d)(l:dnB b)(h:K (.bool (cA d b)) L):
  aoX 62 [.sl (d.map am) d.length cap,.sl (b.map am) b.length cap'] L K:=by
 have e:cA d b=(decide (OkD d)&&decide (OkD b)&&decide (b.length<=d.length)&&decide (bj true (d.drop (d.length-b.length))=bj true b)):=rfl;obtain⟨⟨ps,u⟩,n⟩:∃q,prS d=q:=⟨_,rfl⟩;obtain⟨⟨w,ne⟩,g⟩:∃q,Sa b=q:=⟨_,rfl⟩;have kk1:Hid (Ctr Tryz.prog 36 [.sl (d.map am) d.length cap] (.tup [.str ps,.int .i64 u])):=@hid _ (by intro L K q;exact lI j.1 j.2 (by rw[n];exact q));have kk2:Hid (Ctr Tryz.prog 58 [.sl (b.map am) b.length cap'] (.tup [.str w,.int .i64 ne])):=@hid _ (by intro L K q;exact Sb l.1 l.2 (by rw[g];exact q));have m:OkD d↔u=0:=by unfold OkD;rw[n]
 by_cases r:u=0;rotate_left;rw[e,decide_eq_false (λc=>r (m.1 c))]at h;simp only[apO]at h;replace h:=hid h;clear n g e m j l;refine aoW nA ?_;exact aa h.o;have a:OkD d:=m.2 r;by_cases t:ne=0;rotate_left;rw[e,decide_eq_false (p:=OkD b) (λc=>t (by have:=iO c;rw[g]at this;injection this))]at h;simp only[apO,ary]at h;replace h:=hid h;subst r;clear n g e m j l a;refine aoW nA ?_;exact aa h.o;have f:OkD b:=by by_cases c:OkD b;exact c;exact absurd (by rw[g];exact t) (Vv c)
 have i:w=bj true b:=by have:=iO f;rw[g]at this;injection this
 rw[decide_eq_true a,decide_eq_true f]at e;simp only[apy]at e;subst r t;by_cases s:b.length<=d.length;rotate_left;rw[e,decide_eq_false s]at h;simp only[apO]at h;replace h:=hid h;have g1:(d.length:Int)<(b.length:Int):=aso;clear n g e m j l a f i;refine aoW nA ?_;exact aa h.o;rw[e,decide_eq_true s,<- i]at h;simp only[apy]at h;obtain⟨k,v⟩:=aoT (d.length-b.length);rw[v]at h;have kk3:Hid (∀{c:Option Nat}{L:List Blk}{K:aoY},K (.str (bj true (d.drop k))) L->aoX 85 [.sl (List.take (d.length-k) (List.drop k (d.map am))) (d.length-k) c,.bool true] L K):=@hid _ (by intro c L K q;have:=akN (cap:=c) (a.drop k) q;rw[aqt]at this;rw[<- List.map_drop,apA asp];exact this)
 have g1:¬(d.length:Int)<(b.length:Int):=aso;have x:d.length<=32:=a.len;have y:IntKind.i64.wrap ((d.length:Int)-(b.length:Int))=(k:Int):=by rw[ae aso aso];omega
 have g3:(k:Int)<=(d.length:Int):=aso;replace h:=hid h;clear n g e m j l a f i v s x;refine aoW nA ?_;exact aa h.o
theorem JS{b:List Rdn}(l:dnM d)(g:dnM b)(h:K (.bool (cA d b)) L):
  aoX 38 [.sl (d.map am) d.length cap,.sl (b.map am) b.length cap'] L K:=by
 have e:cA d b=(decide (OkD d)&&decide (OkD b)&&decide (b.length<=d.length)&&decide (bj true (d.drop (d.length-b.length))=bj true b)):=rfl;obtain⟨⟨ps,u⟩,n⟩:∃q,prS d=q:=⟨_,rfl⟩;obtain⟨⟨w,ne⟩,i⟩:∃q,Sa b=q:=⟨_,rfl⟩;have kk1:Hid (Ctr Tryz.prog 37 [.sl (d.map am) d.length cap] (.tup [.str ps,.int .i64 u])):=@hid _ (by intro L K q;exact rM l.1 l.2 (by rw[n];exact q));have kk2:Hid (Ctr Tryz.prog 89 [.sl (b.map am) b.length cap'] (.tup [.str w,.int .i64 ne])):=@hid _ (by intro L K q;exact Tc g.1 g.2 (by rw[i];exact q));have m:OkD d↔u=0:=by unfold OkD;rw[n]
 by_cases r:u=0;rotate_left;rw[e,decide_eq_false (λc=>r (m.1 c))]at h;simp only[apO]at h;replace h:=hid h;clear n i e m l g;refine aoW ji ?_;exact aa h.o;have a:OkD d:=m.2 r;by_cases t:ne=0;rotate_left;rw[e,decide_eq_false (p:=OkD b) (λc=>t (by have:=iO c;rw[i]at this;injection this))]at h;simp only[apO,ary]at h;replace h:=hid h;subst r;clear n i e m l g a;refine aoW ji ?_;exact aa h.o;have f:OkD b:=by by_cases c:OkD b;exact c;exact absurd (by rw[i];exact t) (Vv c)
 have j:w=bj true b:=by have:=iO f;rw[i]at this;injection this
 rw[decide_eq_true a,decide_eq_true f]at e;simp only[apy]at e;subst r t;by_cases s:b.length<=d.length;rotate_left;rw[e,decide_eq_false s]at h;simp only[apO]at h;replace h:=hid h;have g1:(d.length:Int)<(b.length:Int):=aso;clear n i e m l g a f j;refine aoW ji ?_;exact aa h.o;rw[e,decide_eq_true s,<- j]at h;simp only[apy]at h;obtain⟨k,v⟩:=aoT (d.length-b.length);rw[v]at h;have kk3:Hid (∀{c:Option Nat}{L:List Blk}{K:aoY},K (.sl ((hG (d.drop k)).map am) (d.length-k) none) L->aoX 90 [.sl (List.take (d.length-k) (List.drop k (d.map am))) (d.length-k) c] L K):=@hid _ (by intro c L K q;have g:=Ze (a.drop k);have:=@acZ (d.drop k) c g.1 g.2 L K (by rw[aqt];exact q);rw[aqt]at this;rw[<- List.map_drop,apA asp];exact this)
 have kk4:Hid (∀{c:Option Nat}{L:List Blk}{K:aoY},K (.str (bj true (d.drop k))) L->aoX 88 [.sl ((hG (d.drop k)).map am) (d.length-k) c] L K):=@hid _ (by intro c L K q;have:=aiE (cap:=c) (a.drop k) q;rw[aqt]at this;exact this)
 have g1:¬(d.length:Int)<(b.length:Int):=aso;have x:d.length<=32:=a.len;have y:IntKind.i64.wrap ((d.length:Int)-(b.length:Int))=(k:Int):=by rw[ae aso aso];omega
 have g3:(k:Int)<=(d.length:Int):=aso;replace h:=hid h;clear n i e m l g a f j v s x;refine aoW ji ?_;exact aa h.o
abbrev aC:=Ent (List Atr)
instance:Inhabited aC:=⟨⟨0,[],[]⟩⟩
def atR(v:List Atr):AV:=.sl (aJ v) v.length none
def VL(x:aC):List AV:=[.int .i64 x.id,dnA x.nm,atR x.av]
def bD(l:List aC):List AV:=l.flatMap VL
theorem Ek(l:List aC):(bD l).length=l.length*3:=by
 induction l with
 |nil=>rfl
 | cons x l ih =>
   unfold bD at ih⊢;rw[apD,apd,ih,apb];simp only[VL,apb,apJ];omega
theorem Eo(l m:List aC):bD (l++m)=bD l++bD m:=by simp[bD]
theorem afp(l:List aC)(k:Nat):(bD l).drop (k*3)=bD (l.drop k):=by
 induction l generalizing k with
 |nil=>simp[bD]
 | cons x l ih =>
   cases k with
   |zero=>simp
   | succ k =>
     rw[arl,<- ih k,show(k+1)*3=k*3+1+1+1 by omega];simp[bD,VL]
theorem En{l:List aC}(h:k<l.length):((bD l).drop (k*3)).take 3=VL (l.getD k default):=by rw[afp,apw h,show l.getD k default=l[k]by simp[h]];unfold bD;rw[apD];rfl
theorem El{l:List aC}(h:k<l.length):(bD l).getD (k*3) .undef=.int .i64 (l.getD k default).id/\(bD l).getD (k*3+1) .undef=dnA (l.getD k default).nm/\(bD l).getD (k*3+2) .undef=atR (l.getD k default).av:=by
 have a:∀j,j<3->(bD l).getD (k*3+j) .undef=(VL (l.getD k default)).getD j .undef:=λj c=>by have b:=congrArg (λl=>l[j]?) (En h);simp only[ap5 c,apY]at b;rw[apo,b];exact(apo ..).symm
 exact⟨by have:=a 0 aso;simpa[VL]using this,by have:=a 1 aso;simpa[VL]using this,by have:=a 2 aso;simpa[VL]using this⟩
theorem afO(u:d.length<=1100000)(g:∀r∈d,r.length<=1100000)(h:K (dnA d) L):
  aoX 40 [.sl (d.map am) d.length cap] L K:=by
 replace h:=hid h;have j:=hid (λk=>@mY d k);replace g:=hid g;refine aoW Ya ?_;refine bR (l:=[]) (n:=0) 3 1 rfl (aps 1).symm ?_;refine ak (λm T' L'=>∃(k:Nat) (C:List AV) (X:List Blk),m=d.length-k/\k<=d.length/\Hid (C=(d.take k).map am)/\T'=[(8,.int .i64 (k:Int)),(7,.int .i64 d.length),(6,.sl (d.map am) d.length cap),(3,.gsl C k L.length 1)]/\L'=L++(.spare k 1::X)) ass ⟨0,[],[],rfl,ao2 _,hid rfl,rfl,asp⟩ ?_;rintro _ _ _ ⟨k,C,X,rfl,s,f,rfl,rfl⟩;by_cases a:k<d.length;have g1:(k:Int)<(d.length:Int):=aso;have x:=aoV k aso;have q:=j.o k a;have t:k<(d.map am).length:=by simpa using a
 obtain⟨r,b⟩:=aoT (d.getD k []);have p:=g.o r (by rw[<- b];simp[a]);have c:(d.take (k+1)).map am=C++[.sl (bd r) r.length none]:=by rw[f.o,aph a,apz,show d[k]=r by rw[<- b];simp[a]];rfl
 rw[b]at q;have w:=gR r;have v:=dm r;replace c:=hid c;clear b f;refine wk ?_;exact ast aso asr ⟨k+1,_,_,rfl,a,hid c.o.symm,rfl,rfl⟩;have i:k=d.length:=aso;subst i;have g1:¬(d.length:Int)<(d.length:Int):=aso;have e:=f.o;rw[apg]at e;subst e;clear f;refine wk ?_;refine aY ?_;simp only[AV.frz,bB];exact ac (by simp only[AV.refs,fD]) h.o
theorem ak3(z:d.length<=1100000)(i:∀r∈d,r.length<=1100000)(h:K (.bool true) L):
  aoX 12 [.sl (d.map am) d.length cap,.sl (d.map am) d.length cap'] L K:=by
 replace h:=hid h;have l:=hid (λk=>@mY d k);replace i:=hid i;refine aoW Yb ?_;refine ak (λm T' L'=>∃k:Nat,m=d.length-k/\k<=d.length/\T'=[(14,.int .i64 (k:Int)),(13,.int .i64 d.length),(0,.sl (d.map am) d.length cap),(1,.sl (d.map am) d.length cap')]/\L=L') (CutS (b:=ao0 _)) ⟨0,rfl,ao2 _,rfl,rfl⟩ ?_;rintro _ _ L' ⟨k,rfl,v,rfl,e⟩;subst e;by_cases c:k<d.length;have g1:(k:Int)<(d.length:Int):=aso;have A:=aoV k aso;have t:=l.o k c;have w:k<(d.map am).length:=by simpa using c
 obtain⟨r,f⟩:=aoT (d.getD k []);have q:=i.o r (by rw[<- f];simp[c]);rw[f]at t;clear f;refine wk ?_;refine ak (λm T' L'=>∃j:Nat,m=r.length-j/\j<=r.length/\T'=[(33,.int .i64 (j:Int)),(32,.int .i64 r.length),(5,.int .i64 (k:Int)),(14,.int .i64 (k:Int)),(13,.int .i64 d.length),(0,.sl (d.map am) d.length cap),(1,.sl (d.map am) d.length cap')]/\L=L') (CutS (b:=ao0 _)) ⟨0,rfl,ao2 _,rfl,rfl⟩ ?_;rintro _ _ L' ⟨j,rfl,x,rfl,e⟩;subst e;by_cases g:j<r.length;have s:(j:Int)<(r.length:Int):=aso;have y:=aoV j aso;have p:=gS g;have B:j*2+2<=(bd r).length:=by rw[dm];omega
 obtain⟨⟨ty,u⟩,n⟩:∃a,r.getD j ([],[])=a:=⟨_,rfl⟩;rw[n]at p;simp only[pu]at p;clear n;refine wk ?_;exact ast aso asr ⟨j+1,rfl,g,rfl,rfl⟩;have s:¬(j:Int)<(r.length:Int):=aso;refine wk ?_;exact ast aso asr ⟨k+1,rfl,c,rfl,rfl⟩;have g1:¬(k:Int)<(d.length:Int):=aso;refine wk ?_;exact aa h.o
def plI(o:Option Nat):Int:=match o with|some i=>(i:Int)|none=>-1
theorem abm{f:β->Bool}{l:List β}[Inhabited β](a:k<l.length)(h:∀j,j<k->f (l.getD j default)=false)(b:f (l.getD k default)=true):l.findIdx? f=some k:=by rw[List.findIdx?_eq_some_iff_getElem];refine⟨a,by simpa[a]using b,λj c=>?_⟩;have:=h j c;simpa[show j<l.length by omega]using this
theorem abn{f:β->Bool}{l:List β}[Inhabited β](h:∀j,j<l.length->f (l.getD j default)=false):l.findIdx? f=none:=by rw[List.findIdx?_eq_none_iff];intro x b;obtain⟨j,a,e⟩:=apV.1 b;have:=h j a;rw[<- e];simpa[a]using this
def byI(l:List aC)(id:Int):Int:=plI (l.findIdx? λx=>decide (x.id=id))
def atI(l:List aC)(d:List Rdn):Int:=if OkD d then plI (l.findIdx? λx=>decide (NK x.nm=NK d))else -1
theorem alj{l:List aC}{id:Int}{a b:AV}(C:l.length<=1100000){L:List Blk}(D:L[rt]?=some (.cells [a,.sl (bD l) l.length c,b])){K:aoY}(h:K (.int .i64 (byI l id)) L):
  aoX 186 [.ptr rt 0,.int .i64 id] L K:=by
 obtain⟨R,n⟩:=aoT (byI l id);rw[n]at h;replace h:=hid h;replace n:=hid n;have u:=Ek l;refine aoW NP ?_;refine ak (λm T' L'=>∃k:Nat,m=l.length-k/\k<=l.length/\Hid (∀j,j<k->¬(l.getD j default).id=id)/\T'=[(11,.int .i64 (k:Int)),(10,.int .i64 l.length),(0,.ptr rt 0),(1,.int .i64 id)]/\L=L') (CutS (b:=ao0 _)) ⟨0,rfl,ao2 _,hid (λj q=>absurd q (arc _)),rfl,rfl⟩ ?_;rintro _ _ L' ⟨k,rfl,B,r,rfl,e⟩;subst e;by_cases p:k<l.length;have g1:(k:Int)<(l.length:Int):=aso;have F:=aoV k aso;have E:k*3+2<(bD l).length:=by rw[u];omega
 have A:k*3<(bD l).length:=aso;obtain⟨w,_,_⟩:=El p;obtain⟨x,t⟩:=aoT (l.getD k default);rw[t]at w;by_cases d:x.id=id;have s:R=(k:Int):=by rw[<- n.o];unfold byI;rw[abm p (λj q=>decide_eq_false (r.o j q)) (by rw[t];simpa using d)];rfl
 have i:=h.o;rw[s]at i;replace i:=hid i;obtain⟨z,g⟩:=aoT (x.id);rw[g]at w d;subst d;clear t g r n s;refine wk ?_;exact aa i.o;obtain⟨z,g⟩:=aoT (x.id);rw[g]at w d;have y:=hid (λj (q:j<k+1)=>show ¬(l.getD j default).id=id from by by_cases e:j=k;subst e;rw[t,g];exact d;exact r.o j aso)
 clear t g r n;refine wk ?_;exact ast aso asr ⟨k+1,rfl,p,y,rfl,rfl⟩;have v:k=l.length:=aso;subst v;have g1:¬(l.length:Int)<(l.length:Int):=aso;have s:R=-1:=by rw[<- n.o];unfold byI;rw[abn (f:=λx:aC=>decide (x.id=id)) (l:=l) λj q=>decide_eq_false (r.o j q)];rfl
 have i:=h.o;rw[s]at i;replace i:=hid i;clear r n s;refine wk ?_;exact aa i.o
theorem ac7{l:List aC}(y:∀x∈l,OkD x.nm)(G:dnM d){a b:AV}(S:l.length<=1100000){L:List Blk}(T:L[rt]?=some (.cells [a,.sl (bD l) l.length c,b])){K:aoY}(h:K (.int .i64 (atI l d)) L):
  aoX 82 [.ptr rt 0,.sl (d.map am) d.length cap] L K:=by
 obtain⟨⟨A,ne⟩,i⟩:∃q,Sa d=q:=⟨_,rfl⟩;have kk1:Hid (Ctr Tryz.prog 89 [.sl (d.map am) d.length cap] (.tup [.str A,.int .i64 ne])):=@hid _ (by intro L K q;exact Tc G.1 G.2 (by rw[i];exact q));have H:=Ek l;by_cases J:ne=0;rotate_left;have g:¬OkD d:=λc=>J (by have:=iO c;rw[i]at this;injection this)
 unfold atI at h;rw[if_neg g]at h;replace h:=hid h;clear i g y G;refine aoW tF ?_;refine ak (λm T' L'=>m=1/\T'=[(7,.int .i64 0),(6,.int .i64 ne),(5,.str A),(0,.ptr rt 0)]/\L=L') (CutS (b:=ao0 _)) ⟨rfl,rfl,rfl⟩ ?_;rintro _ _ _ ⟨rfl,rfl,rfl⟩;refine wk ?_;exact aa h.o;have g:OkD d:=by by_cases c:OkD d;exact c;exact absurd (by rw[i];exact J) (Vv c)
 have O:A=bj true d:=by have:=iO g;rw[i]at this;injection this
 subst J;obtain⟨R,v⟩:=aoT (plI (l.findIdx? λx=>decide (NK x.nm=NK d)));unfold atI at h;rw[if_pos g,v]at h;replace h:=hid h;replace v:=hid v;have u:=hid (λ(x:aC) (w:x∈l)=>show bj true x.nm=A↔NK x.nm=NK d by rw[O];exact kw (y x w) g);replace y:=hid y;clear i O g G;refine aoW tF ?_;refine ak (λm T' L'=>∃k:Nat,m=l.length-k/\k<=l.length/\Hid (∀j,j<k->¬NK (l.getD j default).nm=NK d)/\T'=[(7,.int .i64 (k:Int)),(6,.int .i64 0),(5,.str A),(0,.ptr rt 0)]/\L=L') (CutS (b:=ao0 _)) ⟨0,rfl,ao2 _,hid (λj B=>absurd B (arc _)),rfl,rfl⟩ ?_;rintro _ _ L' ⟨k,rfl,Q,C,rfl,e⟩;subst e;by_cases p:k<l.length;have g1:(k:Int)<(l.length:Int):=aso;have W:=aoV k aso;have V:k*3+1<(bD l).length:=by rw[H];omega
 obtain⟨_,P,_⟩:=El p;obtain⟨x,w⟩:=aoT (l.getD k default);rw[w]at P;have r:x∈l:=by rw[<- w];simp[p]
 have E:=u.o x r;have n:=y.o x r;obtain⟨m,F⟩:=aoT (bj true x.nm);have kk2:Hid (Ctr Tryz.prog 89 [.sl (x.nm.map am) x.nm.length none] (.tup [.str m,.int .i64 0])):=@hid _ (by intro L K q;exact Tc n.m.1 n.m.2 (by rw[iO n,F];exact q));rw[F]at E;obtain⟨U,z⟩:=aoT (x.nm);rw[z]at P kk2;by_cases t:m=A;have D:R=(k:Int):=by rw[<- v.o,abm p (λj B=>decide_eq_false (C.o j B)) (by rw[w];exact decide_eq_true (E.1 t))];rfl
 have s:=h.o;rw[D]at s;replace s:=hid s;subst t;clear w r C v D E n F z u y;refine wk ?_;exact aa s.o;have N:¬A=m:=λe=>t e.symm
 have M:=hid (λj (B:j<k+1)=>show ¬NK (l.getD j default).nm=NK d from by
  by_cases e:j=k;subst e;rw[w];exact λc=>t (E.2 c)
  exact C.o j aso)
 clear w r C v E n F z u y;refine wk ?_;exact ast aso asr ⟨k+1,rfl,p,M,rfl,rfl⟩;have I:k=l.length:=aso;subst I;have g1:¬(l.length:Int)<(l.length:Int):=aso;have D:R=-1:=by rw[<- v.o,abn (f:=λx:aC=>decide (NK x.nm=NK d)) (l:=l) λj B=>decide_eq_false (C.o j B)];rfl
 have s:=h.o;rw[D]at s;replace s:=hid s;clear C v D u y;refine wk ?_;exact aa s.o
abbrev TKy:=List UInt8×Int×Nat
def kyA(r:TKy):AV×AV×Nat:=(.str r.1,.int .i64 r.2.1,r.2.2)
def gM(nb bn:Int->Nat)(x:aC):AV×AV×Nat:=(.int .i64 x.id,.ptr (nb x.id) 0,bn x.id)
def nf(l:List aC)(x:aC):List AV:=[dnA x.nm,.sl (aD (pth x)) x.nm.length none,atR x.av,.int .i64 (bE (d7 l) (NK x.nm):Nat)]
structure bT(L:List Blk)(iv mn mi:Nat)(nb bn:Int->Nat)(ck ci:Nat)(rs:List TKy)(suf:List Rdn)(last:Int)(l:List aC):Prop where
 v:L[iv]?=some (.cells [dnA suf,.lmap mn,.lmap mi,.int .i64 last])
 n:L[mn]?=some (.map (l.map (gM nb bn)) ck)
 i:L[mi]?=some (.map (rs.map kyA) ci)
 nd:∀x∈l,L[nb x.id]?=some (.cells (nf l x))
 keys:(rs.map (·.1)).Nodup
 mem:∀k id,(∃b,(k,id,b)∈rs)↔∃x∈l,bj true x.nm=k/\x.id=id
 bnd:(l.map λx=>bn x.id).Nodup
 blt:∀x∈l,bn x.id<ck
theorem bT.app{L:List Blk}{iv mn mi:Nat}{nb bn:Int->Nat}{ck ci:Nat}{rs:List TKy}{suf:List Rdn}{last:Int}{l:List aC}(h:bT L iv mn mi nb bn ck ci rs suf last l)(X:List Blk):bT (L++X) iv mn mi nb bn ck ci rs suf last l:=by
 have key:∀{i:Nat}{b:Blk},L[i]?=some b->(L++X)[i]?=some b:=λ{i b} e=>by rw[ao4 (aoZ.1 e).1];exact e
 exact⟨key h.v,key h.n,key h.i,λx a=>key (h.nd x a),h.keys,h.mem,h.bnd,h.blt⟩
theorem Eg:∀(rs:List TKy) (k:List UInt8) (j:Nat),dG (.str k) (rs.map kyA) j=some ((rs.findIdx? λr=>decide (r.1=k)).map λn=>(j+n,.int .i64 (rs.getD n default).2.1))
 |[],k,j=>rfl
 | r::rs,k,j=>by
   by_cases h:k=r.1
   .subst h;simp[dG,kyA,JM,aqV]
   .have h':¬r.1=k:=λe=>h e.symm
    simp only[apv,kyA,dG,JM,decide_eq_false h,aqV,decide_eq_false h',apj,if_false];have a:=Eg rs k (j+1);rw[a];cases rs.findIdx? (λr=>decide (r.1=k))with
    |none=>rfl
    |some n=>simp only[apl];rw[show j+1+n=j+(n+1)by omega];rfl
theorem Ee(nb bn:Int->Nat):∀(l:List aC) (id:Int) (j:Nat),dG (.int .i64 id) (l.map (gM nb bn)) j=some ((l.findIdx? λx=>decide (x.id=id)).map λn=>(j+n,.ptr (nb id) 0))
 |[],id,j=>rfl
 | x::l,id,j=>by
   by_cases h:id=x.id
   .subst h;simp[dG,gM,JM,aqV]
   .have h':¬x.id=id:=λe=>h e.symm
    simp only[apv,gM,dG,JM,if_true,decide_eq_false h,aqV,decide_eq_false h',apj,if_false];have a:=Ee nb bn l id (j+1);rw[a];cases l.findIdx? (λx=>decide (x.id=id))with
    |none=>rfl
    |some n=>simp only[apl];rw[show j+1+n=j+(n+1)by omega]
theorem fR{f:β->Bool}{l:List β}[Inhabited β]:(l.findIdx? f=none/\l.find? f=none)\/∃n,l.findIdx? f=some n/\n<l.length/\l.find? f=some (l.getD n default):=by
 induction l with
 |nil=>exact .inl ⟨rfl,rfl⟩
 | cons x l ih =>
   by_cases h:f x=true
   .exact .inr ⟨0,by simp[aqV,h],asp,by simp[aq0,h]⟩
   .rcases ih with⟨b,a⟩|⟨n,b,a,c⟩
    .exact .inl ⟨by simp[aqV,h,b],by simp[aq0,h,a]⟩
    .exact .inr ⟨n+1,by simp[aqV,h,b],by simpa using a,by simp[aq0,h,c]⟩
theorem bT.look{L:List Blk}{iv mn mi:Nat}{nb bn:Int->Nat}{ck ci:Nat}{rs:List TKy}{suf:List Rdn}{last:Int}{l:List aC}(h:bT L iv mn mi nb bn ck ci rs suf last l)(g:TOk suf last l)(o:OkD d):
  (bA l d=0/\atE l d=none/\dG (.str (bj true d)) (rs.map kyA) 0=some none)\/∃j,dG (.str (bj true d)) (rs.map kyA) 0=some (some (j,.int .i64 (bA l d))):=by
 rw[Eg];rcases fR (f:=λr:TKy=>decide (r.1=bj true d)) (l:=rs)with⟨p,i⟩|⟨n,p,w,i⟩;left;have c:atE l d=none:=tO.2 λ_ x a e=>by obtain⟨b,u⟩:=(h.mem (bj true x.nm) x.id).2 ⟨x,a,rfl,rfl⟩;have:=aqB.1 i _ u;simp only[decide_eq_true_eq]at this;exact this ((kw (g.ok x a) o).2 e)
 exact⟨g.find0.2 c,c,by rw[p];rfl⟩;right;refine⟨n,?_⟩;obtain⟨⟨k,id,b⟩,m⟩:∃r,rs.getD n default=r:=⟨_,rfl⟩;have q:=aqT i;have t:k=bj true d:=by have:=aqU i;rw[m]at this;simpa using this
 rw[m]at q;obtain⟨x,a,s,v⟩:=(h.mem k id).1 ⟨b,q⟩;have:atE l d=some x:=g.at a o ((kw o (g.ok x a)).1 (by rw[<- t,s]));rw[p];simp only[apl,m,ap9,bA,this,v]
theorem rG(r:dnB d){L:List Blk}{iv mn mi:Nat}{nb bn:Int->Nat}{ck ci:Nat}{rs:List TKy}{suf:List Rdn}{last:Int}{l:List aC}(p:TOk suf last l)(b:bT L iv mn mi nb bn ck ci rs suf last l){K:aoY}(h:K (.int .i64 (bA l d)) L):
  aoX 24 [.ptr iv 0,.sl (d.map am) d.length cap] L K:=by
 replace h:=hid h;obtain⟨⟨s,e⟩,a⟩:∃q,Sa d=q:=⟨_,rfl⟩;have kk1:Hid (Ctr Tryz.prog 58 [.sl (d.map am) d.length cap] (.tup [.str s,.int .i64 e])):=@hid _ (by intro L K q;exact Sb r.1 r.2 (by rw[a];exact q));have w:=b.v;have x:=b.i;by_cases t:e=0;subst t;have f:OkD d:=by by_cases c:OkD d;exact c;exact absurd (by rw[a]) (Vv c)
 have k:s=bj true d:=by have:=iO f;rw[a]at this;injection this
 rcases b.look p f with⟨n,_,g⟩|⟨j,g⟩;rw[<- k]at g;rw[n]at h;have m:bS .str (.str s)=true:=rfl;clear a b k;refine aoW dE ?_;exact aa h.o;rw[<- k]at g;have m:bS .str (.str s)=true:=rfl;obtain⟨z,u⟩:=aoT (bA l d);rw[u]at h g;clear a b k u;refine aoW dE ?_;exact aa h.o;have n:bA l d=0:=by refine p.find0.2 (tO.2 λc=>?_);have:=iO c;rw[a]at this;exact absurd (by injection this) t
 rw[n]at h;clear a b;refine aoW dE ?_;exact aa h.o
theorem Fp(l:List aC)(d:List Rdn):(atI l d=-1/\atE l d=none)\/∃n:Nat,n<l.length/\atI l d=n/\atE l d=some (l.getD n default):=by unfold atI atE;by_cases h:OkD d;rw[if_pos h,if_pos h];rcases fR (f:=λx:aC=>decide (NK x.nm=NK d)) (l:=l)with⟨b,a⟩|⟨n,b,a,c⟩;exact .inl ⟨by rw[b];rfl,a⟩;exact .inr ⟨n,a,by rw[b];rfl,c⟩;rw[if_neg h,if_neg h];exact .inl ⟨rfl,rfl⟩
theorem ajX(l:List aC)(id:Int):(byI l id=-1/\o4 l id=none)\/∃n:Nat,n<l.length/\byI l id=n/\o4 l id=some (l.getD n default):=by unfold byI o4;rcases fR (f:=λx:aC=>decide (x.id=id)) (l:=l)with⟨b,a⟩|⟨n,b,a,c⟩;exact .inl ⟨by rw[b];rfl,a⟩;exact .inr ⟨n,a,by rw[b];rfl,c⟩
theorem alb{suf:List Rdn}{last:Int}{l:List aC}(H:TOk suf last l){id:Int}{a b:AV}(T:l.length<=1100000){L:List Blk}(Y:L[rt]?=some (.cells [a,.sl (bD l) l.length c,b])){K:aoY}(h:K (.int .i64 (iP l id:Nat)) L):
  aoX 130 [.ptr rt 0,.int .i64 id] L K:=by
 have kk1:Hid (∀{K:aoY},K (.int .i64 (byI l id)) L->aoX 186 [.ptr rt 0,.int .i64 id] L K):=@hid _ (by intro K q;exact alj T Y q);have D:=Ek l;unfold iP at h;rcases ajX l id with⟨G,J⟩|⟨n,E,G,J⟩;rw[J]at h;rw[G]at kk1;replace h:=hid h;clear G J H;refine aoW o8 ?_;refine ak (λm T' L'=>∃k:Nat,m=l.length-k/\k<=l.length/\T'=[(16,.int .i64 (k:Int)),(15,.int .i64 l.length),(6,.int .i64 0),(5,.int .i64 (-1)),(0,.ptr rt 0)]/\L=L') (CutS (b:=ao0 _)) ⟨0,rfl,ao2 _,rfl,rfl⟩ ?_;rintro _ _ L' ⟨k,rfl,S,rfl,e⟩;subst e;by_cases g:k<l.length;have g1:(k:Int)<(l.length:Int):=aso;have V:=aoV k aso;refine wk ?_;exact ast aso asr ⟨k+1,rfl,g,rfl,rfl⟩;have x:k=l.length:=aso;subst x;have g1:¬(l.length:Int)<(l.length:Int):=aso;refine wk ?_;exact aa h.o;rw[J]at h;rw[G]at kk1;have A:l.getD n default∈l:=by simp[E]
 simp only at h;rw[H.kids A]at h;obtain⟨_,U,_⟩:=El E;have t:=H.ok _ A;obtain⟨f,F⟩:=aoT ((l.getD n default).nm);rw[F]at U h t;have e4:n*3+1<(bD l).length:=by rw[D];omega
 have g0:(0:Int)<=(n:Int):=aso;obtain⟨R,v⟩:=aoT ((l.filter λk=>decide (k.nm.length=f.length+1)&&cA k.nm f).length);rw[v]at h;have p:∀k,((l.take k).filter λk=>decide (k.nm.length=f.length+1)&&cA k.nm f).length<=l.length:=λk=>apk (ap4 _ _) (by simp;omega)
 replace p:=hid p;replace h:=hid h;replace v:=hid v;have X:=hid H.ok;have I:Hid (∀y∈l,∀{K:aoY},K (.bool (cA y.nm f)) L->aoX 38 [dnA y.nm,dnA f] L K):=@hid _ (by intro y C K q;exact JS (X.o y C).m t.m q);have hw:IntKind.i64.wrap ((f.length:Int)+1)=(f.length:Int)+1:=by have:=t.len;exact ae aso aso
 clear G J H A F t;refine aoW o8 ?_;refine ak (λm T' L'=>∃(k s:Nat),m=l.length-k/\k<=l.length/\Hid (((l.take k).filter λk=>decide (k.nm.length=f.length+1)&&cA k.nm f).length=s)/\T'=[(16,.int .i64 (k:Int)),(15,.int .i64 l.length),(6,.int .i64 (s:Int)),(5,.int .i64 (n:Int)),(0,.ptr rt 0)]/\L=L') (CutS (b:=ao0 _)) ⟨0,0,rfl,ao2 _,hid rfl,rfl,rfl⟩ ?_;rintro _ _ L' ⟨k,s,rfl,S,B,rfl,e⟩;subst e;by_cases g:k<l.length;have g1:(k:Int)<(l.length:Int):=aso;have V:=aoV k aso;obtain⟨_,Q,_⟩:=El g;have Z:k*3+1<(bD l).length:=by rw[D];omega
 have j:l.getD k default∈l:=by simp[g]
 have i:l.take (k+1)=l.take k++[l.getD k default]:=by rw[aph g];simp[g]
 obtain⟨y,C⟩:=aoT (l.getD k default);rw[C]at Q j i;have kk2:=@hid _ (λ{K:aoY}=>I.o y j (K:=K));have N:=p.o k;rw[B.o]at N;have g3:=aoV s aso;have d:((l.take (k+1)).filter λk=>decide (k.nm.length=f.length+1)&&cA k.nm f).length=s+(if y.nm.length=f.length+1 then if cA y.nm f=true then 1 else 0 else 0):=by rw[i,ar5,apd,B.o];congr 1;by_cases w:y.nm.length=f.length+1;cases c2:cA y.nm f<;>simp[w,c2];simp[w]
 obtain⟨O,r⟩:=aoT (y.nm);rw[r]at Q kk2 d;obtain⟨u,P⟩:=aoT (cA O f);rw[P]at kk2 d;by_cases w:O.length=f.length+1;have W:((O.length:Int)=(f.length:Int)+1):=aso;rw[if_pos w]at d;cases u with
 | true =>
   replace d:=hid d;clear B j i C r P I w N v;refine wk ?_;exact ast aso asr ⟨k+1,s+1,rfl,g,hid d.o,rfl,rfl⟩
 | false =>
   replace d:=hid d;clear B j i C r P I w N v;refine wk ?_;exact ast aso asr ⟨k+1,s,rfl,g,hid d.o,rfl,rfl⟩
 have W:¬((O.length:Int)=(f.length:Int)+1):=aso;rw[if_neg w]at d;replace d:=hid d;clear B j i C r P I w N v;refine wk ?_;exact ast aso asr ⟨k+1,s,rfl,g,hid d.o,rfl,rfl⟩;have x:k=l.length:=aso;subst x;have g1:¬(l.length:Int)<(l.length:Int):=aso;have z:=B.o;rw[apg,v.o]at z;have M:=h.o;rw[z]at M;replace M:=hid M;clear B z v I;refine wk ?_;exact aa M.o
theorem bT.node{L:List Blk}{iv mn mi:Nat}{nb bn:Int->Nat}{ck ci:Nat}{rs:List TKy}{suf:List Rdn}{last:Int}{l:List aC}(h:bT L iv mn mi nb bn ck ci rs suf last l)(id:Int):
  (o4 l id=none/\dG (.int .i64 id) (l.map (gM nb bn)) 0=some none)\/∃x n,o4 l id=some x/\x∈l/\x.id=id/\dG (.int .i64 id) (l.map (gM nb bn)) 0=some (some (n,.ptr (nb id) 0))/\L[nb id]?=some (.cells (nf l x)):=by
 rw[Ee];unfold o4;rcases fR (f:=λx:aC=>decide (x.id=id)) (l:=l)with⟨b,e⟩|⟨n,b,e,a⟩;exact .inl ⟨e,by rw[b];rfl⟩;right;have c:=aqT a;have d:(l.getD n default).id=id:=by have:=aqU a;simpa using this
 refine⟨_,n,a,c,d,by rw[b];simp,?_⟩;have:=h.nd _ c;rwa[d]at this
theorem acx{b:List Rdn}(f:dnB d)(a:dnB b)(h:K (.bool (kD d b)) L):
  aoX 61 [.sl (d.map am) d.length cap,.sl (b.map am) b.length cap'] L K:=by
 have kk1:Hid (Ctr Tryz.prog 62 [.sl (d.map am) d.length cap,.sl (b.map am) b.length cap'] (.bool (cA d b))):=@hid _ (by intro L K q;exact SV f a q);unfold kD at h;obtain⟨u,c⟩:=aoT (cA d b);rw[c]at h kk1;have e:decide (d.length=b.length)=decide ((d.length:Int)=(b.length:Int)):=by simp only[Int.natCast_inj]
 rw[e]at h;replace h:=hid h;clear c f a e;refine aoW aaK ?_;exact aa h.o
theorem ais{r:Rul}(n:0<=r.who/\r.who<=4){who ent:List Rdn}{a m:Option Nat}(b:dnB who)(l:dnB ent)(h:K (.bool (air r who ent)) L):
  aoX 63 [.agg (rlC r),.sl (who.map am) who.length a,.sl (ent.map am) ent.length m] L K:=by
 have e:dnB (dV r.dn).1:=⟨by have:=(Oe r.dn).1;omega,λx t=>by have:=(Oe r.dn).2 x t;omega⟩;have kk1:Hid (Ctr Tryz.prog 61 [.sl (who.map am) who.length a,.sl (ent.map am) ent.length m] (.bool (kD who ent))):=@hid _ (λ{L K} q=>acx b l q);have kk2:Hid (Ctr Tryz.prog 61 [.sl (who.map am) who.length a,.sl ((dV r.dn).1.map am) (dV r.dn).1.length none] (.bool (kD who (dV r.dn).1))):=@hid _ (λ{L K} q=>acx b e q);have kk3:Hid (Ctr Tryz.prog 62 [.sl (who.map am) who.length a,.sl ((dV r.dn).1.map am) (dV r.dn).1.length none] (.bool (cA who (dV r.dn).1))):=@hid _ (λ{L K} q=>SV b e q);obtain⟨w,d,wh,at_,rg,al⟩:=r;simp only[rlC,XP,apH,apx]at *;obtain⟨u,g⟩:=aoT (kD who ent);obtain⟨y,i⟩:=aoT (kD who (dV d).1);obtain⟨v,c⟩:=aoT (cA who (dV d).1);obtain⟨P,f⟩:=aoT ((dV d).1);obtain⟨Q,j⟩:=aoT ((dV wh).1);have s:decide ((0:Int)<(who.length:Int)) = !decide (who=[]):=by cases who<;>simp<;>omega
 unfold air at h;rw[g,i,c]at h;rw[g]at kk1;rw[i]at kk2;rw[c]at kk3;rw[f]at kk2 kk3;rw[f,j];obtain⟨z,k⟩:=aoT ((!decide (who=[])));rw[k]at h s;clear g i c f j k e b l;have p:w=0\/w=1\/w=2\/w=3\/w=4:=aso;clear n;rcases p with rfl|rfl|rfl|rfl|rfl
 all_goals
  simp at h;replace h:=hid h;refine aoW N1 ?_;exact ac rfl h.o
theorem akg{A B C:Prop}[Decidable A][Decidable B][Decidable C]:decide (¬A/\(B\/C))=((!decide A)&&(decide B ||decide C)):=by by_cases A<;>by_cases B<;>simp[*]
theorem ajd{adm:List Rdn}{rs:List Rul}{ca:Option Nat}{ib:Nat}{who ent:List Rdn}{J M:Option Nat}{n:List UInt8}{a:Int}(O:V0 a)(l:∀r∈rs,0<=r.who/\r.who<=4/\1<=r.rg/\r.rg<=15)(p:∀r∈rs,bI r.at_)(hn:bI n)(hl:rs.length<=1100000)(ha:dnB adm)(Y:dnB who)(U:dnB ent){L:List Blk}(hL:L[ib]?=some (.cells [.sl (adm.map am) adm.length ca,.sl (jt rs) rs.length c])){K:aoY}(h:K (.bool (aje adm rs who ent n a)) L):
  aoX 26 [.ptr ib 0,.sl (who.map am) who.length J,.sl (ent.map am) ent.length M,.str n,.int .i64 a] L K:=by
 have kk1:Hid (Ctr Tryz.prog 36 [.sl (who.map am) who.length J] (kB (prS who))):=@hid _ (λ{L K} q=>lI Y.1 Y.2 q);have kk2:Hid (Ctr Tryz.prog 36 [.sl (ent.map am) ent.length M] (kB (prS ent))):=@hid _ (λ{L K} q=>lI U.1 U.2 q);have kk3:Hid (Ctr Tryz.prog 61 [.sl (who.map am) who.length J,.sl (adm.map am) adm.length ca] (.bool (kD who adm))):=@hid _ (λ{L K} q=>acx Y ha q);obtain⟨⟨p1,V⟩,D⟩:∃q,prS who=q:=⟨_,rfl⟩;obtain⟨⟨p2,W⟩,E⟩:∃q,prS ent=q:=⟨_,rfl⟩;have o1:decide (OkD who)=decide (V=0):=by rw[arq];simp[OkD,D]
 have o2:decide (OkD ent)=decide (W=0):=by rw[arq];simp[OkD,E]
 rw[D]at kk1;rw[E]at kk2;unfold aje at h;rw[o1,o2]at h;simp only[kB]at kk1 kk2;have e0:decide ((0:Int)<(who.length:Int)) = !decide (who=[]):=by cases who<;>simp<;>omega
 obtain⟨z,hz⟩:=aoT ((!decide (who=[])));obtain⟨s,hs⟩:=aoT (kD who adm);rw[hs]at kk3 h;rw[hz]at e0 h;clear D E o1 o2 hz hs;have ad:decide (((¬a=1/\¬a=2)/\¬a=4)/\¬a=8)=false:=by rcases O with rfl|rfl|rfl|rfl<;>rfl
 by_cases c1:V=0/\W=0;obtain⟨rfl,rfl⟩:=c1;simp only[decide_true,apy]at h;rcases hb:z&&s with _|_;rw[hb,aqg]at h;replace h:=hid h;replace l:=hid l;replace p:=hid p;replace O:=hid O;obtain⟨R,G⟩:=aoT (ahc rs who ent n a);rw[G]at h;replace G:=hid G;have ai:=hid hL;refine aoW lW ?_;refine ak (λm T' L'=>∃(k:Nat) (X:List Blk),m=rs.length-k/\k<=rs.length/\Hid (ahc (rs.drop k) who ent n a=R)/\T'=[(69,.int .i64 (k:Int)),(68,.int .i64 rs.length),(67,.sl (jt rs) rs.length c),(0,.ptr ib 0),(1,.sl (who.map am) who.length J),(2,.sl (ent.map am) ent.length M),(3,.str n),(4,.int .i64 a)]/\L'=L++X) ass ⟨0,[],rfl,ao2 _,G,rfl,asp⟩ ?_;clear G hL kk1 kk2 kk3 hb ad e0;rintro _ _ _ ⟨k,X,rfl,hk,N,rfl,rfl⟩;by_cases j:k<rs.length;have g1:(k:Int)<(rs.length:Int):=aso;have g2:=aoV k aso;have Z:=ak9 j;have e4:k*8+8<=(jt rs).length:=by rw[aiG];omega
 obtain⟨r,y⟩:=aoT (rs.getD k default);have hm:r∈rs:=by rw[<- y];simp[j]
 have H:rs.drop k=r::rs.drop (k+1):=by rw[apw j,<- y];simp[j]
 have e:=N.o;rw[H,ahb]at e;rw[y]at Z;have f:=l.o r hm;have i:=(akc f.2.2.1 f.2.2.2 O.o).1;have A:=p.o r hm;have hw:dnB (dV r.wh).1:=⟨by have:=(Oe r.wh).1;omega,λx hx=>by have:=(Oe r.wh).2 x hx;omega⟩;have kk1:Hid (Ctr Tryz.prog 46 [.str r.at_] (.str (aj r.at_))):=@hid _ (λ{L K} q=>jB A q);have kk2:Hid (Ctr Tryz.prog 46 [.str n] (.str (aj n))):=@hid _ (λ{L K} q=>jB hn q);have kk3:Hid (Ctr Tryz.prog 62 [.sl (ent.map am) ent.length M,.sl ((dV r.wh).1.map am) (dV r.wh).1.length none] (.bool (cA ent (dV r.wh).1))):=@hid _ (λ{L K} q=>SV U hw q);have kk4:Hid (Ctr Tryz.prog 63 [.agg (rlC r),.sl (who.map am) who.length J,.sl (ent.map am) ent.length M] (.bool (air r who ent))):=@hid _ (λ{L K} q=>ais ⟨f.1,f.2.1⟩ Y U q);unfold amH at e;obtain⟨T,F⟩:=aoT (aj r.at_);obtain⟨S,C⟩:=aoT (aj n);obtain⟨u,hu⟩:=aoT (cA ent (dV r.wh).1);obtain⟨v,hv⟩:=aoT (air r who ent);obtain⟨bt,B⟩:=aoT (alV r.rg a);rw[F,C,hu,hv,B]at e;rw[F]at kk1;rw[C]at kk2;rw[hu]at kk3;rw[hv]at kk4;rw[B]at i;clear F C hu hv B H N A f hw hm y;obtain⟨w,d,wh,at_,rg,al⟩:=r;obtain⟨P,hP⟩:=aoT ((dV d).1);obtain⟨Q,hQ⟩:=aoT ((dV wh).1);simp only[rlC,XP,apH,apx]at Z kk1 kk2 kk3 kk4 e i;rw[hP,hQ]at Z kk4;rw[hQ]at kk3;clear hP hQ;have ht:(decide (¬IntKind.i64.wrap ((BitVec.ofInt IntKind.i64.bits rg &&& BitVec.ofInt IntKind.i64.bits a).toNat:Int)=0/\(at_=[]\/T=S))&&u&&v)=(bt&&(decide (at_=[]) ||decide (T=S))&&u&&v):=by rw[akg];exact congrArg (λb=>(b&&(decide (at_=[]) ||decide (T=S)))&&u&&v) i
 obtain⟨t,I⟩:=aoT ((bt&&(decide (at_=[]) ||decide (T=S))&&u&&v));rw[I]at ht e;clear i I;replace e:=hid e;cases t with
 | false =>
   refine wk ?_;exact ast aso asr ⟨k+1,_,rfl,j,hid (by simpa using e.o),rfl,rfl⟩
 | true =>
   refine wk ?_;exact ac rfl (by have:=e.o;rw[if_pos rfl]at this;rw[this];exact h.o)
 have g1:¬(k:Int)<(rs.length:Int):=aso;have e:=N.o;rw[aqW aso]at e;replace e:=hid e;clear N;refine wk ?_;exact ac rfl (by have:=e.o;rw[<- this]at h;exact h.o);rw[hb,aqQ]at h;replace h:=hid h;simp only[ao3]at hb;obtain⟨rfl,rfl⟩:=hb;clear l p;refine aoW lW ?_;exact aa h.o;have g:(decide (V=0)&&decide (W=0))=false:=by rw[<- arx];exact decide_eq_false c1
 rw[g,apO]at h;replace h:=hid h;have g2:decide (¬V=0\/¬W=0)=true:=by simp only[decide_eq_true_eq];omega
 clear g l p;refine aoW lW ?_;exact aa h.o
theorem afJ{b:List Rdn}(f:dnB d)(a:dnB b){v:Nat}(h:K (.bool (kD d b)) L):
  aoX 123 [.ptr v 0,.sl (d.map am) d.length cap,.sl (b.map am) b.length cap'] L K:=by
 have kk1:Hid (Ctr Tryz.prog 62 [.sl (d.map am) d.length cap,.sl (b.map am) b.length cap'] (.bool (cA d b))):=@hid _ (by intro L K q;exact SV f a q);unfold kD at h;obtain⟨u,e⟩:=aoT (cA d b);rw[e]at h kk1;by_cases c:d.length=b.length;have g:(d.length:Int)=(b.length:Int):=aso;rw[decide_eq_true c,apy]at h;replace h:=hid h;clear e f a c;refine aoW rF ?_;exact aa h.o;have g:¬(d.length:Int)=(b.length:Int):=aso;rw[decide_eq_false c,apO]at h;replace h:=hid h;clear e f a c;refine aoW rF ?_;exact aa h.o
theorem agV{b:List Rdn}(f:dnM d)(a:dnM b)(h:K (.bool (kD d b)) L):
  aoX 129 [.sl (d.map am) d.length cap,.sl (b.map am) b.length cap'] L K:=by
 have kk1:Hid (Ctr Tryz.prog 38 [.sl (d.map am) d.length cap,.sl (b.map am) b.length cap'] (.bool (cA d b))):=@hid _ (by intro L K q;exact JS f a q);unfold kD at h;obtain⟨u,e⟩:=aoT (cA d b);rw[e]at h kk1;by_cases c:d.length=b.length;have g:(d.length:Int)=(b.length:Int):=aso;rw[decide_eq_true c,apy]at h;replace h:=hid h;clear e f a c;refine aoW JJ ?_;exact aa h.o;have g:¬(d.length:Int)=(b.length:Int):=aso;rw[decide_eq_false c,apO]at h;replace h:=hid h;clear e f a c;refine aoW JJ ?_;exact aa h.o
theorem amN(i:dnM d){L:List Blk}{K:aoY}(h:¬OkD d->K (.tup [.nilptr,.int .i64 (prS d).2]) L)(l:d=[]->K (.tup [.nilptr,.int .i64 2]) L)(k:OkD d->d≠[]->K (.tup [.ptr L.length 0,.int .i64 0]) (L++[.cells [dnA d,.sl [] 0 (some 0),.int .i64 0]])):
  aoX 32 [.sl (d.map am) d.length cap] L K:=by
 obtain⟨⟨s,e⟩,a⟩:∃q,prS d=q:=⟨_,rfl⟩;have kk1:Hid (Ctr Tryz.prog 37 [.sl (d.map am) d.length cap] (.tup [.str s,.int .i64 e])):=@hid _ (by intro L K q;exact rM i.1 i.2 (by rw[a];exact q));have kk2:Hid (Ctr Tryz.prog 40 [.sl (d.map am) d.length cap] (dnA d)):=@hid _ (by intro L K q;exact afO i.b.1 i.b.2 q);have j:OkD d↔e=0:=by unfold OkD;rw[a]
 rw[a]at h;by_cases n:e=0;rotate_left;replace h:=hid (h λc=>n (j.1 c));clear a j l k i;refine aoW tG ?_;exact aa h.o;subst n;by_cases m:d.length=0;have f:=apK.1 m;replace h:=hid (l f);subst f;clear a j l k i m;refine aoW tG ?_;exact aa h.o;have g:¬(d.length:Int)=0:=aso;replace h:=hid (k (j.2 rfl) λc=>m (by rw[c];rfl));clear a j l k i;refine aoW tG ?_;exact aa h.o
theorem akM(f:dnB d){L:List Blk}{K:aoY}(h:¬OkD d->K (.tup [.nilptr,.int .i64 (prS d).2]) L)(k:d=[]->K (.tup [.nilptr,.int .i64 2]) L)(j:OkD d->d≠[]->K (.tup [.ptr (L.length+3) 0,.int .i64 0]) (L++[.map [] 0,.map [] 0,.cells [dnA d,.lmap L.length,.lmap (L.length+1),.int .i64 0],.cells [.ptr (L.length+2) 0]])):
  aoX 30 [.sl (d.map am) d.length cap] L K:=by
 obtain⟨⟨s,e⟩,a⟩:∃q,prS d=q:=⟨_,rfl⟩;have kk1:Hid (Ctr Tryz.prog 36 [.sl (d.map am) d.length cap] (.tup [.str s,.int .i64 e])):=@hid _ (by intro L K q;exact lI f.1 f.2 (by rw[a];exact q));have kk2:Hid (∀{c:Option Nat}{L:List Blk}{K:aoY},K (dnA d) L->aoX 59 [.sl (d.map am) d.length cap,.sl [] 0 c] L K):=@hid _ (by intro c L K q;exact ab9 f.1 f.2 q);have i:OkD d↔e=0:=by unfold OkD;rw[a]
 rw[a]at h;by_cases m:e=0;rotate_left;replace h:=hid (h λc=>m (i.1 c));clear a i k j f;refine aoW wq ?_;exact aa h.o;subst m;by_cases l:d.length=0;have b:=apK.1 l;replace h:=hid (k b);subst b;clear a i k j f l;refine aoW wq ?_;exact aa h.o;have g:¬(d.length:Int)=0:=aso;replace h:=hid (j (i.2 rfl) λc=>l (by rw[c];rfl));clear a i k j f;refine aoW wq ?_;exact aa h.o
theorem abY{b:List Rdn}(m:d.length<=1100000)(n:b.length<=1100000)(l:k<=d.length)(h:K (dnA (iB d k b)) L):
  aoX 83 [.sl (d.map am) d.length cap,.int .i64 (k:Int),.sl (b.map am) b.length cap'] L K:=by
 obtain⟨j,f⟩:=aoT (d.length-k);have g1:IntKind.i64.wrap ((d.length:Int)-(k:Int))=(j:Int):=by rw[ae aso aso];omega
 have p:(j:Int)<=(d.length:Int):=aso;have l1:(List.take j (d.map am)).length=j:=by simp;omega
 have t:AV.frzL (List.take j (d.map am))=(d.take j).map am:=by rw[<- arI,bB]
 have q:AV.frzL (b.map am)=b.map am:=bB b;have i:(b.map am).all AV.one=true:=by rw[apa];intro a g;obtain⟨r,_,rfl⟩:=ao6.1 g;rfl
 have e:dnA (iB d k b)=.sl ((d.take j).map am++b.map am) (j+b.length) none:=by unfold dnA iB;rw[f,apz,apd,aqk,Nat.min_eq_left aso]
 rw[e]at h;have s:j<=1100000:=aso;replace h:=hid h;clear e f;refine aoW Wu ?_;refine aY ?_;simp only[AV.frz,<- apz,bB];have c:=h.o;rw[<- apz]at c;exact ac (by simp only[AV.refs,fD]) c
section
variable {P:Program}{w0:World}{S0:SB}{N:Nat}{own:Nat->Nat->Nat}{Q:Exit->Tm->List Blk->Prop}{T:Tm}{L:List Blk}
theorem ae1{c:Code}{g:Opd}{ps:List Nat}{x y:bK}(hc:ba P N own c=some (.rangeF g ps x y)):
  ∃g0 ps0 ca cb,c=.rangeFunc g0 ps0 ca cb/\bV g0=some g/\ps0.toList=ps/\ba P N own ca=some x/\ba P N own cb=some y/\x.hasRF=false/\y.hasRF=false/\∀p∈ps,p<N:=by
 cases c
 case rangeFunc g0 ps0 ca cb =>
  simp only[ba]at hc;split at hc<;>try cases hc
  rename_i g1 x1 y1 h1 h2 h3;split at hc<;>cases hc;rename_i hb;simp only[ao3,apL,Array.all_eq_true_iff_forall_mem,decide_eq_true_eq]at hb
  grind
 case region id ops draw =>
  cases draw<;>simp only[ba]at hc
  all_goals
   (repeat' split at hc)
   all_goals (first|(cases hc;done)|(simp only[apE]at hc;obtain⟨_,_,hc⟩:=hc;cases hc;done)|(simp only[aqC]at hc;obtain⟨_,_,hc⟩:=hc;split at hc<;>cases hc;done))
 all_goals
  simp only[ba]at hc
  (repeat' split at hc)
  all_goals (first|(cases hc;done)|(simp only[apE]at hc;obtain⟨_,_,hc⟩:=hc;cases hc;done))
def RZ:List Nat->List AV->Tm->Tm
 |p::ps,a::as',T=>RZ ps as' ((p,a)::T)
 |_,_,T=>T
theorem aac{E:Env}:∀(ps:List Nat) (b:List AV) (vs:List Value) (T:Tm) (tm:Array Value),ps.length=b.length->VRL E b vs->(∀p∈ps,p<tm.size)->(∀t v,ay T t=some v->VR E v (tm.getD t undef)) ->
  ∀t v,ay (RZ ps b T) t=some v->VR E v (((ps.zip vs).foldl (λtm (p:Nat×Value)=>tm.setIfInBounds p.1 p.2) tm).getD t undef)
 |[],[],vs,T,tm,_,_,_,h,t,v,ht=>by simpa[RZ]using h t v (by simpa[RZ]using ht)
 |[],_::_,_,_,_,hl,_,_,_,_,_,_=>by simp at hl
 |_::_,[],_,_,_,hl,_,_,_,_,_,_=>by simp at hl
 | p::ps,a::b,vs,T,tm,hl,hv,hp,h,t,v,ht=>by
   obtain⟨x,xs,rfl,g,e⟩:=hv;refine aac ps b xs ((p,a)::T) (tm.setIfInBounds p x) (by simpa using hl) e (λq d=>by simpa using hp q (by simp[d])) (λt' f c=>?_) t v (by simpa[RZ]using ht);simp only[ay]at c;split at c
   .simp_all
   simp_all
theorem afl(l:List (Nat×Value)):∀tm:Array Value,(l.foldl (λtm (p:Nat×Value)=>tm.setIfInBounds p.1 p.2) tm).size=tm.size:=by
 induction l with
 |nil=>intro tm;rfl
 |cons a l ih=>intro tm;rw[ap0,ih];simp
def aoQ(i:Nat)(b0 b1:Blk)(K:AV->List Blk->Prop)(e:Exit)(T:Tm)(L:List Blk):Prop:=e=.normal/\L[i]?=some b0/\K (.bool true) (L.set i b1)
theorem acH{i:Nat}{fn:FuncId}{ps:List Nat}{ca cb:Code}{args:List AV}{K:AV->List Blk->Prop}{x y:bK}(hL:L[i]?=some (.lrec T N fn ps ca cb false))(hx:ba P N own ca=some x.raw)(hy:ba P N own cb=some y.raw)(hfx:x.hasRF=false)(hfy:y.hasRF=false)(hlen:ps.length=args.length)(hps:∀p∈ps,p<N)(h:AW P N own x (aei (λT1 L1=>L1[i]?=some (.lrec T N fn ps ca cb false)/\AW P N own y (aoQ i (.lrec T N fn ps ca cb true) (.lrec T N fn ps ca cb false) K) T1 (L1.set i (.lrec T N fn ps ca cb true))) (λ_ _ _=>False)) (RZ ps args T) L):aaO P i args L K:=by
 intro w0 S0 E w vs hR hv c hc;have hB:=hR.blk i _ hL;obtain⟨c',D,tm,h1,h2,h3,h4,h5⟩:=hB;rw[hc]at h1;cases h1;have hvl:=hv.length;have hyd:=run_yield (P:=P) (args:=⟨vs⟩) h2 (by simp[hvl,hlen]);refine⟨fn,_,ca,cb,hyd,roundIn_of_wpIn (F:=gT none) (n:=0) trivial ?_⟩;have hst:St w ⟨V1 E L,w.heap.size⟩ N E (RZ ps args T) L {tmps:=((⟨ps⟩:Array Tmp).zip ⟨vs⟩).foldl (λtmps (t,a)=>tmps.setIfInBounds t a) tm,defers:=[]} w:=by
  have e:((⟨ps⟩:Array Tmp).zip ⟨vs⟩).foldl (λtmps (t,a)=>tmps.setIfInBounds t a) tm=(ps.zip vs).foldl (λtm (p:Nat×Value)=>tm.setIfInBounds p.1 p.2) tm:=by simp
  refine⟨hR.enter _,λt v ht=>?_,?_,ael.nil (ao0 _)⟩;simp only[e];exact aac ps args vs T tm hlen hv (λp hp=>by rw[h4];exact hps p hp) h5 t v ht;simp only[e];rw[afl];exact h4
 refine wpIn_mono (h ca hx (some c.blk) (λe=>by rw[hfx]at e;cases e) w _ E _ w hst) λe a1 wA ⟨w1,S1,E1,T1,L1,b1,le1,q1,st1⟩=>?_
 cases e
 case normal =>
  obtain⟨hL1,hAW⟩:=q1;have hc1:=le1.loc _ _ hc;have hB1:=st1.1.blk i _ hL1;obtain⟨c1,D1,tm1,k1,k2,k3,k4,k5⟩:=hB1;rw[hc1]at k1;cases k1;have hlt1:c.blk<wA.heap.size:=(apP.1 k2).1;refine⟨_,run_beginRound k2 rfl,?_⟩;have st2:St w1 S1 N E1 T1 (L1.set i (.lrec T N fn ps ca cb true)) a1 (wA.putObj c.blk (.loop {state:=.busy,pending:=none,fn:=fn,tmps:=tm1,params:=⟨ps⟩,assign:=ca,body:=cb,defers:=D1})):=by refine⟨st1.1.turn hL1 rfl hc1 asp (λb hb=>arw hb) rfl rfl rfl ⟨c,D1,tm1,hc1,by rw[World.putObj_heap_same hlt1];rfl,k3,k4,k5⟩ (λ_ _ e=>by cases e),st1.2⟩
  refine wpIn_mono (hAW cb hy (some c.blk) (λe=>by rw[hfy]at e;cases e) w1 S1 E1 a1 _ st2) λe a2 w4 ⟨w3,S3,E3,T2,L2,b3,le3,q3,st3⟩=>?_
  obtain⟨rfl,hL2,hK⟩:=q3;have hc3:=le3.loc _ _ hc1;have hB3:=st3.1.blk i _ hL2;obtain⟨c3,D3,tm3,m1,m2,m3,m4,m5⟩:=hB3;rw[hc3]at m1;cases m1;have hlt3:c.blk<w4.heap.size:=(apP.1 m2).1;refine⟨_,_,run_endRound none m2,E3,_,.bool true,_,rfl,le1.trans le3,hK,rfl,hR.back ((b1.trans b3).rel ?_)⟩;exact st3.1.turn hL2 rfl hc3 asp (λb hb=>arw hb) rfl rfl rfl ⟨c,D3,tm3,hc3,by rw[World.putObj_heap_same hlt3];simp,m3,m4,m5⟩ (λ_ _ e=>by cases e)
 all_goals exact q1
theorem WR{g:Opd}{ps:List Nat}{x y:bK}{f:FuncId}{caps:List AV}(he:∀args w,(callFunc f args).run P w=.ok (.enter f args) w)(hg:evX T g=some (.func f caps))(h:∀fn ca cb,ba P N own ca=some x.raw->ba P N own cb=some y.raw->x.hasRF=false->y.hasRF=false->(∀p∈ps,p<N) ->
   af P f (.yld L.length::caps) (L++[.lrec T N fn ps ca cb false]) λ_ L'=>L'[L.length]?=some (.lrec T N fn ps ca cb false)/\Q .normal T (L'.set L.length .dead)):
  AW P N own (.rangeF g ps x y) Q T L:=λc hc r hr w0 S0 E a w hst=>by
 obtain⟨g0,ps0,ca,cb,rfl,hg0,hps0,hca,hcb,hfx,hfy,hps⟩:=ae1 hc;rw[bK.hasRF_raw]at hfx hfy;have hrn:r=none:=hr rfl;subst hrn;obtain⟨hR,hT,hN,hMk⟩:=hst;have hgv:=aq hg0 hg hT;simp only[VR]at hgv;obtain⟨lb,hgv,hlb⟩:=hgv;refine wpIn_rangeFunc λfn _=>?_
 have ha:∀(v:World) (o:Obj),(v.alloc o)={v with heap:=v.heap.push o}:=λ_ _=>rfl
 have hR0:Rel w0 S0 E L {w with heap:=w.heap.push (.deferred (some []))}:=hR.grown ⟨λb hb=>by show(w.heap.push _)[b]?=_;rw[aqo hb,<- apW hb],asp,rfl,rfl,rfl⟩
 obtain⟨rec,hrec⟩:∃rec:Loop,rec={state:=.ready,pending:=none,fn,tmps:=a.tmps,params:=ps0,assign:=ca,body:=cb,defers:=w.heap.size}:=⟨_,rfl⟩;obtain⟨E1,hE1⟩:∃E1:Env,E1={E with loc:=λi=>if i=L.length then some ⟨w.heap.size+1,0,0⟩else E.loc i}:=⟨_,rfl⟩;have hl1:E1.loc L.length=some ⟨w.heap.size+1,0,0⟩:=by rw[hE1];simp
 have leE:E.le E1:=⟨λ_ _ _ x=>by rw[hE1];exact x,λi c x=>by rw[hE1];show(if i=L.length then _ else E.loc i)=_;rw[if_neg (λe=>by rw[hR.fresh i aso]at x;cases x)];exact x,λi t x=>⟨t,by rw[hE1];exact x,.inl rfl⟩⟩
 obtain⟨le1,hR1⟩:=hR0.push (.loop rec) (.lrec T N fn ps ca cb false) ⟨w.heap.size+1,0,0⟩ asp rfl (by rw[<- hE1];refine⟨⟨w.heap.size+1,0,0⟩,w.heap.size,a.tmps,hl1,?_,rfl,hN,λt v hv=>VR.mono leE _ _ (hT t v hv)⟩;show((w.heap.push _).push _)[w.heap.size+1]?=_;rw[Array.getElem?_push,if_pos asp,hrec,<- hps0];rfl)
 rw[<- hE1]at le1 hR1;obtain⟨W1,hW1⟩:∃W1:World,W1={({w with heap:=w.heap.push (.deferred (some []))}:World)with heap:=(w.heap.push (.deferred (some []))).push (.loop rec)}:=⟨_,rfl⟩;rw[<- hW1]at hR1;have hWs:W1.heap.size=w.heap.size+2:=by rw[hW1];simp
 have hWl:W1.heap[w.heap.size+1]?=some (.loop rec):=by rw[hW1];show((w.heap.push _).push _)[w.heap.size+1]?=_;rw[Array.getElem?_push,if_pos asp]
 have hWd:W1.heap[w.heap.size]?=some (.deferred (some [])):=by rw[hW1];show((w.heap.push _).push _)[w.heap.size]?=_;rw[aqo asp];simp
 have hcall:=h fn ca cb hca hcb hfx hfy hps W1 ⟨V1 E1 (L++[.lrec T N fn ps ca cb false]),S0.B⟩ E1 W1 (.func (.yield (w.heap.size+1)) #[] #[]::lb) (hR1.enter _) ⟨_,lb,rfl,⟨_,hl1,rfl⟩,VRL.mono le1 _ _ hlb⟩;have hnoD:¬V1 E1 (L++[.lrec T N fn ps ca cb false]) w.heap.size:=by
  rintro(⟨i,k,c,h1,h2,h3,h4⟩|⟨i,n,sz,t,k,h1,h2,h3,h4⟩);by_cases hi:i=L.length;subst hi;rw[hl1]at h3;cases h3;simp at h4;have hi':i<L.length:=(by have:=(aoZ.1 h1).1;simp at this;omega);rw[ao4 hi']at h1;have h3':E.loc i=some c:=(by rw[hE1]at h3;simpa[hi]using h3);obtain⟨c',o,g1,g2⟩:=(hR.blk i k h1).loc h2;rw[h3']at g1;cases g1;rw[h4]at g2;have:=(apP.1 g2).1;omega;have hi':i<L.length:=by rcases apt i L.length with h5|h5;exact h5;rw[ape h5]at h1;rcases aqp (i-L.length)with h6|h6;rw[h6]at h1;cases h1;rw[aqM (by simp;omega)]at h1;cases h1
  rw[ao4 hi']at h1;have hb:=hR.blk i _ h1;simp only[bZ]at hb;obtain⟨t',g1,_,_,g2⟩:=hb;have h2':E.tok i=some t:=(by rw[hE1]at h2;exact h2);rw[h2']at g1;cases g1;obtain⟨cs,ty,fr,g3,_⟩:=g2 k h3;rw[h4]at g3;have:=(apP.1 g3).1;omega
 refine⟨w.heap.size+1,[mkD w.heap.size],W1,{target:=.fn (.func f) ⟨lb⟩,args:=#[.func (.yield (w.heap.size+1)) #[] #[]]},W1,f,#[.func (.yield (w.heap.size+1)) #[] #[]]++⟨lb⟩,W1,?_,?_,λ_ _=>trivial,?_,λe=>(by cases e),?_⟩;have:=run_enterLoop_outer (P:=P) (w:=w) fn a.tmps ps0 ca cb;rw[ha,ha]at this;rw[hW1,hrec];exact this;simp only[resolve,hgv];simp[go_sem];simp[invoke,go_sem,he];rcases hcall with⟨_,hcalls⟩|⟨_,_,_,_,_,hv2,_⟩;refine ZR none _ ?_;have e:(#[Value.func (.yield (w.heap.size+1)) #[] #[]]++(⟨lb⟩:Array Value))=⟨.func (.yield (w.heap.size+1)) #[] #[]::lb⟩:=by apply Array.ext';simp
 rw[e];refine hcalls.mono λen w3 ⟨E3,v,av,L3,e1,le3,⟨hL3,hQ⟩,_,hR3⟩=>?_
 subst e1;have hl3:=le3.loc _ _ hl1;have hB3:=hR3.blk _ _ hL3;simp only[bZ,apj,if_false]at hB3;obtain⟨c3,D3,tm3,m1,m2,m3,m4,m5⟩:=hB3;rw[hl3]at m1;cases m1;have hlt3:w.heap.size+1<w3.heap.size:=(apP.1 m2).1;have hR4:=hR3.turn hL3 rfl hl3 (k':=.dead) (w':=w3.putObj (w.heap.size+1) (.loop {state:=.exhausted,pending:=none,fn:=fn,tmps:=tm3,params:=⟨ps⟩,assign:=ca,body:=cb,defers:=D3})) asp (λb hb=>arw hb) rfl rfl rfl trivial (λ_ _ e=>by cases e);have hbs:Bs w0 S0 W1 ⟨V1 E1 (L++[.lrec T N fn ps ca cb false]),S0.B⟩:=hR1.bs;refine⟨none,_,run_endLoop m2 asp,W1,⟨V1 E1 (L++[.lrec T N fn ps ca cb false]),S0.B⟩,E3,T,_,hbs,le1.trans le3,hQ,hR4,(hT.mono le1).mono le3,hN,?_⟩;have hM:=hMk.bs hbs;refine⟨hM.1,aqi.2 ⟨λhm=>?_,hM.2.1⟩,λd hd=>?_⟩;obtain⟨D,g1,_,g2,_⟩:=hMk.2.2 _ hm;have:w.heap.size=D:=by injection g1 with g1 _;injection g1
 have:=hR.size;omega;rcases apn.1 hd with rfl|hd;exact⟨_,rfl,by have:=hMk.1;have:=hR.size;show S0.B<=_;omega,aso,hnoD,hWd⟩;exact hM.2.2 d hd;rw[he]at hv2;cases hv2
end
variable {L:List Blk}{K:aoY}
set_option maxHeartbeats 8000000
set_option maxRecDepth 100000
theorem al0{i j:Nat}(u:rows.length<=1100000){Inv:Nat->List Blk->Prop}{L:List Blk}{K:aoY}(c:∀k L',Inv k L'->L'[j]?=some (.cells [.sl rows rows.length cap])/\L.length<=L'.length)(g:Inv rows.length L)(l:∀k L' (Q:AV->List Blk->Prop),k<rows.length->Inv (k+1) L'->(∀d,Inv k d->Q (.bool true) d)->aaO Tryz.prog i [.int .i64 (k:Int),rows.getD k .undef] L' Q)(h:∀L',Inv 0 L'->Fin L (.tup []) L' K):
  aoX 206 [.yld i,.ptr j 0] L K:=by
 have v:=(c _ _ g).1;have y:IntKind.i64.wrap ((rows.length:Int)-1)=(rows.length:Int)-1:=ae aso aso;replace c:=hid c;replace l:=hid l;replace h:=hid h;replace g:=hid g;refine aoW jh ?_;refine ak (λn T' L'=>∃(k:Nat) (x:Int),n=k/\k<=rows.length/\Hid (Inv k L')/\x=(k:Int)-1/\T'=[(3,.int .i64 x),(0,.yld i),(1,.ptr j 0)]) (CutS (b:=ao0 _)) ⟨rows.length,_,rfl,ao0 _,g,rfl,rfl⟩ ?_;rintro k _ L' ⟨_,x,rfl,q,f,m,rfl⟩;have p:=(c.o _ _ f.o).1;have r:=(c.o _ _ f.o).2;cases k with
 | zero =>
   have e:x=-1:=aso;subst e;clear m;refine wk ?_;exact⟨.inl rfl,True,[],rfl,trivial,h.o _ f.o⟩
 | succ k =>
   have e:x=(k:Int):=aso;subst e;clear m;have g1:(0:Int)<=(k:Int):=aso;have w:IntKind.i64.wrap ((k:Int)-1)=(k:Int)-1:=ae aso aso;have g3:(k:Int)<(rows.length:Int):=aso;have g4:k<rows.length:=q;refine wk ?_;rw[aar];refine l.o k L' _ g4 f.o λd a=>?_
   have s:=(c.o _ _ a).1;have t:=(c.o _ _ a).2;replace a:=hid a;clear f p r;refine asw ?_;exact ast aso (CutL (b:=aso)) ⟨k,_,rfl,aso,hid a.o,rfl,rfl⟩
theorem alZ{i j:Nat}(u:rows.length<=1100000){Inv:Nat->List Blk->Prop}{L:List Blk}{K:aoY}(c:∀k L',Inv k L'->L'[j]?=some (.cells [.sl rows rows.length cap])/\L.length<=L'.length)(g:Inv rows.length L)(l:∀k L' (Q:AV->List Blk->Prop),k<rows.length->Inv (k+1) L'->(∀d,Inv k d->Q (.bool true) d)->aaO Tryz.prog i [.int .i64 (k:Int),rows.getD k .undef] L' Q)(h:∀L',Inv 0 L'->Fin L (.tup []) L' K):
  aoX 209 [.yld i,.ptr j 0] L K:=by
 have v:=(c _ _ g).1;have y:IntKind.i64.wrap ((rows.length:Int)-1)=(rows.length:Int)-1:=ae aso aso;replace c:=hid c;replace l:=hid l;replace h:=hid h;replace g:=hid g;refine aoW jn ?_;refine ak (λn T' L'=>∃(k:Nat) (x:Int),n=k/\k<=rows.length/\Hid (Inv k L')/\x=(k:Int)-1/\T'=[(3,.int .i64 x),(0,.yld i),(1,.ptr j 0)]) (CutS (b:=ao0 _)) ⟨rows.length,_,rfl,ao0 _,g,rfl,rfl⟩ ?_;rintro k _ L' ⟨_,x,rfl,q,f,m,rfl⟩;have p:=(c.o _ _ f.o).1;have r:=(c.o _ _ f.o).2;cases k with
 | zero =>
   have e:x=-1:=aso;subst e;clear m;refine wk ?_;exact⟨.inl rfl,True,[],rfl,trivial,h.o _ f.o⟩
 | succ k =>
   have e:x=(k:Int):=aso;subst e;clear m;have g1:(0:Int)<=(k:Int):=aso;have w:IntKind.i64.wrap ((k:Int)-1)=(k:Int)-1:=ae aso aso;have g3:(k:Int)<(rows.length:Int):=aso;have g4:k<rows.length:=q;refine wk ?_;rw[aar];refine l.o k L' _ g4 f.o λd a=>?_
   have s:=(c.o _ _ a).1;have t:=(c.o _ _ a).2;replace a:=hid a;clear f p r;refine asw ?_;exact ast aso (CutL (b:=aso)) ⟨k,_,rfl,aso,hid a.o,rfl,rfl⟩
theorem aol{n:Nat}(h:K (.func 206 [.ptr L.length 0]) (L++[.cells [.sl rows n cap]])):
  aoX 179 [.sl rows n cap] L K:=by
 replace h:=hid h;refine aoW jx ?_;exact aa h.o
theorem aok{n:Nat}(h:K (.func 209 [.ptr L.length 0]) (L++[.cells [.sl rows n cap]])):
  aoX 185 [.sl rows n cap] L K:=by
 replace h:=hid h;refine aoW jM ?_;exact aa h.o
theorem OkD.one(h:OkD d){r:Rdn}(i:r∈d):OkD [r]:=by obtain⟨a,b,rfl⟩:=List.append_of_mem i;have f:OkD (r::b):=OkD.app h;rw[Vt]at f⊢;obtain⟨l,k,c,h4⟩:=f;refine⟨asp,λx j=>k x (by rw[apr.1 j];simp),?_,apk ?_ h4⟩;unfold JD at c⊢;rw[arC,arm]at c;rw[arC,c.1];rfl;have e:=oZ ([r].map (dx false)) 44;have g:=oZ ((r::b).map (dx false)) 44;rw[if_neg asp]at e g;simp only[apv,aqI,aqJ,List.sum_nil,apb,apJ]at e g;unfold bj;simp only[apv,aqI];omega
theorem amR(U:OkD d)(h:K (.sl (aD (NK d).reverse) d.length none) L):
  aoX 125 [.sl (d.map am) d.length cap] L K:=by
 have G:=U.len;replace h:=hid h;have kk1:Hid (∀{L:List Blk}{K:aoY},K (.func 206 [.ptr L.length 0]) (L++[.cells [.sl (d.map am) d.length cap]])->aoX 179 [.sl (d.map am) d.length cap] L K):=@hid _ (by intro L K q;exact aol q);refine aoW ZV ?_;have S:∀(a b c x y:Blk) (Z:List Blk),(L++([a,b,c]++Z))[(L++[x,y]).length]?=some c:=λa b c x y Z=>by rw[ape asp];simp
 have t:(d.map am).length=d.length:=apm _;refine WR (f:=206) (caps:=[.ptr (L.length+1) 0]) (λargs w=>rfl) rfl (λfn ca cb B D u E z=>?_);refine al0 (rows:=d.map am) (cap:=cap) (Inv:=λk L'=>∃(v:AV) (Z:List Blk),L'=L++([.cells [v],.cells [.sl (d.map am) d.length cap],.lrec [(9,.func 206 [.ptr (L.length+1) 0]),(3,.ptr L.length 0),(2,.sl [] 0 (some 0)),(0,.sl (d.map am) d.length cap)] 23 fn [10,11] ca cb false]++Z)/\((k=d.length/\v=.sl [] 0 (some 0))\/∃m,v=.lsl (L.length+3+m) 0 (d.length-k) none 1/\Z[m]?=some (.cells (aD ((NK d).reverse.take (d.length-k)))))) aso ?_ ?_ ?_ ?_;rintro k L' ⟨v,Z,rfl,_⟩;refine⟨?_,asp⟩;rw[t,ape aso];simp;exact⟨.sl [] 0 (some 0),[],asp,.inl ⟨t,rfl⟩⟩;rintro k L' Q P ⟨v,Z,rfl,T⟩ R;rw[t]at P;obtain⟨r,O⟩:=aoT (d.getD k []);have X:(d.map am).getD k .undef=.sl (bd r) r.length none:=by rw[mY P,O]
 have N:r∈d:=by rw[<- O];simp[P]
 have p:=U.one N;have n:(NK d).reverse.take (d.length-k)=(NK d).reverse.take (d.length-(k+1))++[dx true r]:=by rw[show d.length-k=d.length-(k+1)+1 by omega,aph (by rw[aql,bC];omega)];congr 2;rw[List.getElem_reverse];simp only[NK,List.getElem_map,apm];congr 1;rw[<- O];simp only[apo];rw[ao8 P];simp only[apT];congr 1;omega
 obtain⟨s,V⟩:=aoT (dx true r);rw[V]at n;have kk2:Hid (∀{c:Option Nat}{L:List Blk}{K:aoY},K (.tup [.str s,.int .i64 0]) L->aoX 58 [.sl [.sl (bd r) r.length none] 1 c] L K):=@hid _ (by intro c L K q;refine Sb (d:=[r]) p.m.b.1 p.m.b.2 ?_;rw[iO p,show bj true [r]=s from by simp[bj,Lib.join,V]];exact q)
 rw[X];refine acH (S _ _ _ _ _ _) B D u E rfl z ?_;simp only[RZ];replace R:=hid R;replace n:=hid n;clear O N p V X B D u E z kk1 S h;have e:∀(a b c c':Blk) (Z:List Blk),(L++a::b::c::Z).set (L.length+2) c'=L++([a,b,c']++Z):=λa b c c' Z=>by rw[apu _ _ aso,show L.length+2-L.length=2 by omega];rfl
 have g:∀(a b c:Blk) (Z:List Blk),(L++a::b::c::Z)[L.length+2]?=some c:=λa b c Z=>by rw[ape aso,show L.length+2-L.length=2 by omega];rfl
 replace e:=hid e;replace g:=hid g;rcases T with⟨Y,rfl⟩|⟨m,rfl,F⟩;refine wk ?_;refine⟨rfl,g.o _ _ _ _,?_⟩;rw[e.o];refine R.o _ ⟨_,Z++[.cells [.str s]],rfl,.inr ⟨Z.length,?_,?_⟩⟩;rw[show d.length-k=1 by omega,show L.length+(Z.length+1+1+1)=L.length+3+Z.length by omega];rw[n.o,show d.length-(k+1)=0 by omega];simp;obtain⟨j,hj⟩:=aoT (d.length-(k+1));obtain⟨C,A⟩:=aoT (aD ((NK d).reverse.take (d.length-(k+1))));have M:C.length=j:=by rw[<- A,apm,aqk,aql,bC];omega
 have al:List.take j C=C:=apA aso;rw[A]at F;rw[hj];have hm:m<Z.length:=(aoZ.1 F).1;have I:∀(a b c:Blk),(L++a::b::c::Z)[L.length+3+m]?=some (.cells C):=λa b c=>by rw[ape aso,show L.length+3+m-L.length=m+1+1+1 by omega];simpa using F
 have ad:j<=32:=aso;have ai:∀(a b c:Blk),(L++a::b::c::Z).set (L.length+3+m) .dead=L++a::b::c::Z.set m .dead:=λa b c=>by rw[apu _ _ aso,show L.length+3+m-L.length=m+1+1+1 by omega];rfl
 refine wk ?_;refine⟨rfl,g.o _ _ _ _,?_⟩;rw[e.o];refine R.o _ ⟨_,Z.set m .dead++[.cells (C++[.str s])],rfl,.inr ⟨Z.length,?_,?_⟩⟩;rw[show d.length-k=j+1 by omega,show L.length+(Z.length+1+1+1)=L.length+3+Z.length by omega];rw[n.o,<- A,ape asp];simp;have J:∀(a b c c' x y:Blk) (Z:List Blk),(L++([a,b,c]++Z)).set (L++[x,y]).length c'=L++a::b::c'::Z:=λa b c c' x y Z=>by rw[apu _ _ asp,show(L++[x,y]).length-L.length=2 by simp];rfl
 rintro L' ⟨v,Z,rfl,T⟩;refine aa ⟨S _ _ _ _ _ _,?_⟩;rw[J];clear J S B D u E z kk1;rcases T with⟨W,rfl⟩|⟨m,rfl,F⟩;have H:d=[]:=apK.1 W.symm;subst H;clear W G t U;refine wk ?_;refine aY ?_;rw[show(AV.sl [] 0 (some 0)).frz=.sl (aD (NK []).reverse) ([]:List Rdn).length none from rfl];exact ac rfl h.o;rw[aq2,apA (by rw[aql,bC];omega)]at F;rw[aq2];obtain⟨C,A⟩:=aoT (aD (NK d).reverse);have M:C.length=d.length:=by rw[<- A,apm,aql,bC]
 rw[A]at F h;have I:∀(a b c:Blk),(L++a::b::c::Z)[L.length+3+m]?=some (.cells C):=λa b c=>by rw[ape aso,show L.length+3+m-L.length=m+1+1+1 by omega];simpa using F
 refine wk ?_;refine EC (i:=L.length+3+m) (l:=C) (I _ _ _) ?_;rw[show(AV.lsl (L.length+3+m) 0 d.length none 1).snap (L.length+3+m) C=.sl C d.length none from by simp[AV.snap,<- M],apu _ _ aso];exact ac (by rw[<- A];simp only[AV.refs];exact i8 _ _) h.o
theorem Em:∀l:List aC,AV.frzL (bD l)=bD l
 |[]=>rfl
 |x::l=>by have a:=Em l;unfold bD at a⊢;rw[apD];show AV.frzL (.int .i64 x.id::dnA x.nm::atR x.av::l.flatMap VL)=_;simp only[AV.frzL,AV.frz,a];unfold atR;simp only[AV.frz,bB,fi];rfl
end Go.Proofs.YtdnfjhflkkpokaaGreatDoor.Av
namespace Go.Proofs
open Go.Shelf
def Tryz.srtF_ren:Go.Shelf.Ren:=⟨λ|6=>55|15=>100|14=>99|28=>154|29=>155|20=>146|21=>147|22=>148|23=>149|24=>150|25=>151|26=>152|27=>153|46=>191|47=>192|48=>193|49=>194|50=>195|57=>220|n=>n,λ|22=>75|24=>3|25=>143|3=>3|39=>185|0=>0|53=>229|55=>231|4=>4|46=>223|45=>222|50=>161|5=>5|9=>9|66=>273|70=>180|76=>292|77=>293|n=>n,λ|n=>n⟩
theorem Tryz.srtF:Go.Proofs.SlLaysF.n6 Tryz.prog Tryz.srtF_ren:={
 mixed:=by kernel_rfl
 f6:=⟨Tryz.f55.name,by decide,Tryz.func55.trans (congrArg some (by kernel_rfl))⟩
 f14:=⟨Tryz.f99.name,by decide,Tryz.func99.trans (congrArg some (by kernel_rfl))⟩
 f15:=Tryz.func100.trans (congrArg some (by kernel_rfl))
 f20:=⟨Tryz.f146.name,by decide,Tryz.func146.trans (congrArg some (by kernel_rfl))⟩
 f21:=⟨Tryz.f147.name,by decide,Tryz.func147.trans (congrArg some (by kernel_rfl))⟩
 f22:=⟨Tryz.f148.name,by decide,Tryz.func148.trans (congrArg some (by kernel_rfl))⟩
 f23:=⟨Tryz.f149.name,by decide,Tryz.func149.trans (congrArg some (by kernel_rfl))⟩
 f24:=⟨Tryz.f150.name,by decide,Tryz.func150.trans (congrArg some (by kernel_rfl))⟩
 f25:=⟨Tryz.f151.name,by decide,Tryz.func151.trans (congrArg some (by kernel_rfl))⟩
 f26:=⟨Tryz.f152.name,by decide,Tryz.func152.trans (congrArg some (by kernel_rfl))⟩
 f27:=⟨Tryz.f153.name,by decide,Tryz.func153.trans (congrArg some (by kernel_rfl))⟩
 f28:=Tryz.func154.trans (congrArg some (by kernel_rfl))
 f29:=Tryz.func155.trans (congrArg some (by kernel_rfl))
 f46:=⟨Tryz.f191.name,by decide,Tryz.func191.trans (congrArg some (by kernel_rfl))⟩
 f47:=Tryz.func192.trans (congrArg some (by kernel_rfl))
 f48:=Tryz.func193.trans (congrArg some (by kernel_rfl))
 f49:=⟨Tryz.f194.name,by decide,Tryz.func194.trans (congrArg some (by kernel_rfl))⟩
 f50:=⟨Tryz.f195.name,by decide,Tryz.func195.trans (congrArg some (by kernel_rfl))⟩
 f57:=⟨Tryz.f220.name,by decide,Tryz.func220.trans (congrArg some (by kernel_rfl))⟩
 t0:=Tryz.underlying0
 a0:=Tryz.isAgg0
 z0:=Tryz.sizeOf0
 v0:=Tryz.zeroValue0
 t3:=Tryz.underlying3
 a3:=Tryz.isAgg3
 z3:=Tryz.sizeOf3
 v3:=Tryz.zeroValue3
 t4:=Tryz.underlying4
 a4:=Tryz.isAgg4
 z4:=Tryz.sizeOf4
 v4:=Tryz.zeroValue4
 t5:=Tryz.underlying5
 a5:=Tryz.isAgg5
 z5:=Tryz.sizeOf5
 v5:=Tryz.zeroValue5
 t9:=Tryz.underlying9
 a9:=Tryz.isAgg9
 z9:=Tryz.sizeOf9
 v9:=Tryz.zeroValue9
 t22:=Tryz.underlying75
 a22:=Tryz.isAgg75
 z22:=Tryz.sizeOf75
 v22:=Tryz.zeroValue75
 a24:=Tryz.isAgg3
 z24:=Tryz.sizeOf3
 t25:=Tryz.underlying143
 a25:=Tryz.isAgg143
 z25:=Tryz.sizeOf143
 v25:=Tryz.zeroValue143
 t39:=Tryz.underlying185
 a39:=Tryz.isAgg185
 z39:=Tryz.sizeOf185
 v39:=Tryz.zeroValue185
 t45:=Tryz.underlying222
 a45:=Tryz.isAgg222
 z45:=Tryz.sizeOf222
 v45:=Tryz.zeroValue222
 t46:=Tryz.underlying223
 a46:=Tryz.isAgg223
 z46:=Tryz.sizeOf223
 v46:=Tryz.zeroValue223
 t50:=Tryz.underlying161
 a50:=Tryz.isAgg161
 z50:=Tryz.sizeOf161
 v50:=Tryz.zeroValue161
 t53:=Tryz.underlying229
 a53:=Tryz.isAgg229
 z53:=Tryz.sizeOf229
 v53:=Tryz.zeroValue229
 t55:=Tryz.underlying231
 a55:=Tryz.isAgg231
 z55:=Tryz.sizeOf231
 v55:=Tryz.zeroValue231
 t66:=Tryz.underlying273
 a66:=Tryz.isAgg273
 z66:=Tryz.sizeOf273
 v66:=Tryz.zeroValue273
 t70:=Tryz.underlying180
 a70:=Tryz.isAgg180
 z70:=Tryz.sizeOf180
 v70:=Tryz.zeroValue180
 t76:=Tryz.underlying292
 a76:=Tryz.isAgg292
 z76:=Tryz.sizeOf292
 v76:=Tryz.zeroValue292
 t77:=Tryz.underlying293
 a77:=Tryz.isAgg293
 z77:=Tryz.sizeOf293
 v77:=Tryz.zeroValue293}
end Go.Proofs
namespace Go.Proofs
open Go Go.Lib Go.RowKit Go.Proofs.YtdnfjhflkkpokaaGreatDoor.Av
set_option maxHeartbeats 2000000
set_option maxRecDepth 100000
theorem Tryz.isnan_c(a:ByteArray)(w:World):Calls Tryz.prog 156 #[.string a] w λe w'=>e=.returned (.bool false)/\w'=w:=by
 go_enter Tryz.func156,Tryz.ntmps156
 go_wp2
 go_ret
 exact⟨asp,rfl⟩
theorem Tryz.cmps_c(a b:ByteArray)(w:World):Calls Tryz.prog 101 #[.string a,.string b] w λe w'=>e=.returned (.int .i64 (if Op.bytesLess a.toList b.toList then -1 else if Op.bytesLess b.toList a.toList then 1 else 0))/\w'=w:=by
 have h1:=λs W=>Tryz.isnan_c s W
 obtain⟨p,hp⟩:=aoT (Op.bytesLess a.toList b.toList);obtain⟨q,hq⟩:=aoT (Op.bytesLess b.toList a.toList);rw[hp,hq];have ht:p=false->q=false->a.toList=b.toList:=λe1 e2=>by rw[e1,bytesLess_eq,decide_eq_false_iff_not]at hp;rw[e2,bytesLess_eq,decide_eq_false_iff_not]at hq;exact anj hp hq
 cases p<;>cases q
 all_goals
  go_enter Tryz.func101,Tryz.ntmps101
  go_wp2_with (go_at_call 156;refine(h1 _ _).mono ?_;rintro e w' ⟨rfl,rfl⟩)
 all_goals (go_ret;first|exact⟨rfl,rfl⟩|(exfalso;simp_all;done))
theorem Tryz.cmpn_c(x:List (List UInt8))(y:List (List UInt8))(b1 o1 c b2 o2 d:Nat)(w:World)(hb1:x.length<=1100000)(hb2:y.length<=1100000)(hc1:∀j,j<x.length->w.cell? ⟨b1,o1+j,none⟩=some (.string ⟨⟨x.getD j []⟩⟩))(hc2:∀j,j<y.length->w.cell? ⟨b2,o2+j,none⟩=some (.string ⟨⟨y.getD j []⟩⟩)):
  Calls Tryz.prog 57 #[.slice (some ⟨b1,o1,none⟩) x.length c,.slice (some ⟨b2,o2,none⟩) y.length d] w λe w'=>e=.returned (.int .i64 (cpP x y))/\w'=w:=by
 have h1:=λa b W=>Tryz.cmps_c a b W
 go_enter Tryz.func57,Tryz.ntmps57
 go_wp2
 go_loopg [11] x.length (λg s11 wr=>∃k:Nat,k<=x.length/\k<=y.length/\x.length-k<=g/\s11=.int .i64 k/\wr=w/\cpP (x.drop k) (y.drop k)=cpP x y)
 case atStart=>exact⟨0,ao2 _,ao2 _,aso,rfl,rfl,rfl⟩
 case round =>
  obtain⟨k,hk,hky,hg,rfl,rfl,heq⟩:=hrel;by_cases hlt:k<x.length
  .have d1:x.drop k=x.getD k []::x.drop (k+1):=(by rw[apw hlt];simp[hlt]);have g1:=hc1 k hlt;rw[d1]at heq;obtain⟨s,hs⟩:=aoT (x.getD k []);rw[hs]at g1 heq;by_cases hly:k<y.length
   .have d2:y.drop k=y.getD k []::y.drop (k+1):=(by rw[apw hly];simp[hly]);have g2:=hc2 k hly;rw[d2]at heq;obtain⟨t,ht⟩:=aoT (y.getD k []);rw[ht]at g2 heq;have hcon:=h1 ⟨⟨s⟩⟩ ⟨⟨t⟩⟩ wr;rw[cpP]at heq;obtain⟨z,hz⟩:=aoT (cpS s t);rw[show(if Op.bytesLess (ByteArray.mk ⟨s⟩).toList (ByteArray.mk ⟨t⟩).toList then(-1:Int)else if Op.bytesLess (ByteArray.mk ⟨t⟩).toList (ByteArray.mk ⟨s⟩).toList then 1 else 0)=z from by rw[arN,arN,<- hz,bytesLess_eq,bytesLess_eq];simp[cpS]]at hcon;rw[hz]at heq;have A:Aside (cpP x y=if z≠0 then z else cpP (x.drop (k+1)) (y.drop (k+1))):=heq.symm;clear heq hc1 hc2 d1 d2 hs ht hz h1;by_cases hz0:z=0
    .subst hz0
     go_wp2_with (go_at_call 101;refine hcon.mono ?_;rintro e w' ⟨rfl,rfl⟩)
     go_roundg (x.length-(k+1))
     case measure=>omega
     case rel=>exact⟨k+1,aso,aso,aso,by go_num,rfl,by have:=A.out;simp only[ne_eq,not_true_eq_false,if_false]at this;exact this.symm⟩
    .go_wp2_with (go_at_call 101;refine hcon.mono ?_;rintro e w' ⟨rfl,rfl⟩)
     all_goals go_ret
     have:=A.out;rw[if_pos hz0]at this;exact⟨by rw[this];rfl,rfl⟩
   .have A:Aside (cpP x y=1):=by show cpP x y=1;rw[aqW (l:=y) aso,cpP]at heq;exact heq.symm
    clear heq hc1 hc2 d1 hs h1
    go_wp2
    go_ret
    exact⟨by rw[A.out];rfl,rfl⟩
  .have hkx:k=x.length:=aso;have A:Aside (cpP x y=if x.length<y.length then -1 else 0):=by
    show cpP x y=if x.length<y.length then -1 else 0
    rw[aqW (l:=x) aso]at heq;by_cases hly:k<y.length;rw[apw hly,cpP]at heq;rw[if_pos aso];exact heq.symm;rw[aqW (l:=y) aso,cpP]at heq;rw[if_neg aso];exact heq.symm
   subst hkx;clear heq hc1 hc2 h1;by_cases hl:x.length<y.length
   .go_wp2
    all_goals (go_ret;first|exact⟨by rw[A.out,if_pos hl];rfl,rfl⟩|(exfalso;omega))
   .go_wp2
    all_goals (go_ret;first|exact⟨by rw[A.out,if_neg hl];rfl,rfl⟩|(exfalso;omega))
theorem Tryz.scp_c(x y:List (List UInt8))(a b:Int)(bb bo vb vo mb na oa pa qa ca nb ob pb qb cb:Nat)(W:World)(hb1:x.length<=1100000)(hb2:y.length<=1100000)(e1:W.cell? ⟨bb,bo,none⟩=some (.pointer (some ⟨vb,vo,none⟩)))(e2:W.cell? ⟨vb,vo+1,none⟩=some (.map (some mb)))(e3:∀n,(Instr.lookup 134 (.map (some mb)) (.int .i64 a) false).run Tryz.prog (W.drewN n)=.ok (.pointer (some ⟨na,oa,none⟩)) (W.drewN n))(e4:∀n,(Instr.lookup 134 (.map (some mb)) (.int .i64 b) false).run Tryz.prog (W.drewN n)=.ok (.pointer (some ⟨nb,ob,none⟩)) (W.drewN n))(e5:W.cell? ⟨na,oa+1,none⟩=some (.slice (some ⟨pa,qa,none⟩) x.length ca))(e6:W.cell? ⟨nb,ob+1,none⟩=some (.slice (some ⟨pb,qb,none⟩) y.length cb))(hc1:∀j,j<x.length->W.cell? ⟨pa,qa+j,none⟩=some (.string ⟨⟨x.getD j []⟩⟩))(hc2:∀j,j<y.length->W.cell? ⟨pb,qb+j,none⟩=some (.string ⟨⟨y.getD j []⟩⟩)):
  Calls Tryz.prog 56 #[.int .i64 a,.int .i64 b,.pointer (some ⟨bb,bo,none⟩)] W λe w'=>e=.returned (.int .i64 (cpP x y))/\∃q,w'=W.drewN q:=by
 have hcon:=λn=>Tryz.cmpn_c x y pa qa ca pb qb cb (W.drewN n) hb1 hb2 hc1 hc2
 generalize cpP x y=r at hcon⊢;clear hc1 hc2
 go_enter Tryz.func56,Tryz.ntmps56
 go_wp2
 go_quiet (exact Calls.quiet_of_same (hcon _))
 go_wp2
 go_ret
 exact⟨rfl,_,rfl⟩
end Go.Proofs
namespace Go.Proofs
open Go.Shelf Go.Sort Go.RowKit
theorem Tryz.sortF{α:Type}[Inhabited α](enc:α->Value)(j:OneCell enc)(a:α->α->Int)(k:SWO (ltOf a))(g:Nat)(cb:Array Value)(blk off cap:Nat)(d:Array α)(w:World)(l:∀args w,(callFunc g args).run Tryz.prog w=.ok (.enter g args) w)(b:CmpLays1 Tryz.prog g cb enc a blk off d.size w)(i:Holds enc w blk off d)(c:blk<w.heap.size)(f:d.size<4611686018427387904)(h:∀x y,(ltOf a) x y=false->(ltOf a) y x=false->x=y):
  Calls Tryz.prog 55 #[.slice (some ⟨blk,off,none⟩) d.size cap,.func (.func g) #[] cb] w λe w' =>
   e=.returned (.tuple #[])/\∃n os,w'=sortWorld enc w blk off n (d.toList.mergeSort λx y => !(ltOf a) y x).toArray os :=
 Any.slices_SortFunc_total Tryz.srtF enc j a k g cb blk off cap d w l b i c f h
theorem Tryz.sortF0(p:Option Addr)(cap:Nat)(a:Value)(w:World):
  Calls Tryz.prog 55 #[.slice p 0 cap,a] w λe w'=>e=.returned (.tuple #[])/\w'=w :=
 AnyF.slices_SortFunc_none {Tryz.srtF with} p cap a w
end Go.Proofs
namespace Go.Proofs.YtdnfjhflkkpokaaGreatDoor.Av
open Go Go.Sort Go.RowKit
variable {L:List Blk}{K:aoY}
set_option maxHeartbeats 8000000
set_option maxRecDepth 100000
theorem Rel.putG{α:Type}[Inhabited α]{enc:α->Value}{f:α->AV}{w0:World}{S0:SB}{E:Env}{L:List Blk}{w:World}(h:Rel w0 S0 E L w)(z:∀x,VR E (f x) (enc x)){i:Nat}{c0:List AV}{d:List α}{c:Loc}(l:L[i]?=some (.cells c0))(g:E.loc i=some c)(y:d.length=c0.length)(q:Nat):
  Rel w0 S0 E (L.set i (.cells (d.map f))) (putRow enc (Sort.ahead w q) c.blk c.off d.toArray):=by
 obtain⟨c',cs,ty,fr,m,p,s,h4,u,n⟩:=h.blk i _ l;rw[g]at m;cases m;have r:(putRow enc (Sort.ahead w q) c.blk c.off d.toArray).heap[c.blk]?=some (.cells (putCells enc c.off d.toArray cs) ty fr):=by simp[putRow,mapBlock,Sort.ahead,aqX,p,onCells]
 refine h.turn (k':=.cells (d.map f)) l rfl g asp (λb o=>?_) rfl rfl rfl ⟨c,_,ty,fr,g,r,by simp[putCells,s],?_,λj a A=>?_,n⟩ (λ_ _ e=>by cases e);have:c.blk≠b:=λe=>o e.symm
 simp[putRow,mapBlock,Sort.ahead,aqX,this];simp[*];have v:j<d.length:=by grind
 have k:c.off+j<cs.size:=aso;have t:(putCells enc c.off d.toArray cs)[c.off+j]?=some (if c.off<=c.off+j/\c.off+j<c.off+d.length then enc (d.toArray[c.off+j-c.off]!)else cs[c.off+j]):=by simp[putCells,k]
 grind
theorem aeD{α:Type}[Inhabited α]{enc:α->Value}{f:α->AV}{w0:World}{S0:SB}{E:Env}{L:List Blk}{w:World}(h:Rel w0 S0 E L w)(o:∀x v,VR E (f x) v->v=enc x){i:Nat}{d:List α}{c:Loc}(n:L[i]?=some (.cells (d.map f)))(k:E.loc i=some c):
  Holds enc w c.blk c.off d.toArray/\c.blk<w.heap.size:=by
 obtain⟨c',cs,ty,fr,g,b,q,h4,p,l⟩:=h.blk i _ n;rw[k]at g;cases g;refine⟨λj m=>?_,(apP.1 b).1⟩;have a:j<d.length:=by simpa using m
 obtain⟨v,g1,e⟩:=p j (f d[j]) (by simp[a]);have e:=o _ _ e;subst e;refine⟨by simp[World.cell?,b,g1,a],?_⟩;have r:=l (c.off+j) aso (by simp only[apm]at h4;omega);simp only[World.frozen?,b];simp_all
theorem akP{α:Type}[Inhabited α]{enc:α->Value}{w:World}{blk off n:Nat}{d:Array α}{os:Array Obj}{b:Nat}(c:b≠blk)(a:b<w.heap.size):(sortWorld enc w blk off n d os).heap[b]?=w.heap[b]?:=by
 have:blk≠b:=λe=>c e.symm
 unfold sortWorld grow;rw[arS (by simpa[putRow,mapBlock,Sort.ahead]using a)];simp[putRow,mapBlock,Sort.ahead,aqX,this]
theorem jf{w w':World}{b o:Nat}(h:w'.heap[b]?=w.heap[b]?):w'.cell? ⟨b,o,none⟩=w.cell? ⟨b,o,none⟩:=by simp only[World.cell?,h]
theorem Rel.at{w0:World}{S0:SB}{E:Env}{L:List Blk}{w:World}(h:Rel w0 S0 E L w){i j:Nat}{l:List AV}{a:AV}(e:L[i]?=some (.cells l))(d:l[j]?=some a):∃c v,E.loc i=some c/\w.cell? ⟨c.blk,c.off+j,none⟩=some v/\VR E a v/\c.blk<w.heap.size:=by obtain⟨c,cs,ty,fr,f,b,n,h4,k,m⟩:=h.blk i _ e;obtain⟨v,g1,g⟩:=k j a d;exact⟨c,v,f,by simp[World.cell?,b,g1],g,(apP.1 b).1⟩
theorem acM{E:Env}:∀(p:Pth) (b o:Nat),VRC E (aD p) b o->∀j,j<p.length->E.mem b (o+j)=some (.string ⟨⟨p.getD j []⟩⟩)
 |[],_,_,_,j,hj=>absurd hj (arc _)
 | s::p,b,o,h,j,hj=>by
   obtain⟨⟨x,c,rfl⟩,a⟩:=h;cases j with
   |zero=>simpa using c
   | succ j =>
     have:=acM p b (o+1) a j (by simpa using hj)
     grind
section
variable {suf:List Rdn}{last:Int}{l:List aC}{w0:World}{S0:SB}{E:Env}{L:List Blk}{w:World}{iv mn mi:Nat}{nb bn:Int->Nat}{ck ci:Nat}{rs:List TKy}
theorem bT.path(n:Rel w0 S0 E L w)(g:bT L iv mn mi nb bn ck ci rs suf last l){x:aC}(i:x∈l)(f:x.nm≠[]):
  ∃c a d ca,E.loc (nb x.id)=some c/\c.blk<w.heap.size/\w.cell? ⟨c.blk,c.off+1,none⟩=some (.slice (some ⟨a,d,none⟩) (pth x).length ca)/\∀j,j<(pth x).length->E.mem a (d+j)=some (.string ⟨⟨(pth x).getD j []⟩⟩):=by
 obtain⟨c,v,r,m,k,h4⟩:=n.at (g.nd x i) (j:=1) rfl;obtain⟨p,c',rfl,_,_,e⟩:=k;have q:(pth x).length=x.nm.length:=by simp[pth,bC]
 rcases e with⟨s,_⟩|⟨b,o,rfl,h⟩;simp_all;exact⟨c,b,o,c',r,h4,by rw[q];exact m,acM _ _ _ h⟩
theorem bT.lookup(v:Rel w0 S0 E L w)(o:bT L iv mn mi nb bn ck ci rs suf last l){a:Loc}(k:E.loc mn=some a){x:aC}(D:TOk suf last l)(B:x∈l){c:Loc}(i:E.loc (nb x.id)=some c)(W:World)(u:W.heap[a.blk]?=w.heap[a.blk]?):
  (Instr.lookup 134 (.map (some a.blk)) (.int .i64 x.id) false).run Tryz.prog W=.ok (.pointer (some ⟨c.blk,c.off,none⟩)) W:=by
 obtain⟨c',f,s,A,C⟩:=v.blk mn _ o.n;rw[k]at s;cases s;have z:Tryz.prog.underlying 134=some (.map 3 133):=asq;have d:ia Tryz.prog 3=some .int:=asq;have r:bS .int (.int .i64 x.id)=true:=rfl;have m:VR E (.int .i64 x.id) (.int .i64 x.id):=by simp[VR]
 have h:∀e,(Instr.checkKey e 10000 3 (.int .i64 x.id)).run Tryz.prog W=.ok () W:=λe=>m8 d r m e
 have F:(getObj a.blk).run Tryz.prog W=.ok (.map f ck) W:=by simp[getObj,Sem.run,u,A]
 rcases o.node x.id with⟨j,_⟩|⟨y,n,j,I,H,G,_⟩;rw[D.ent B]at j;cases j;obtain⟨e,q,b,g,J,g3,g4,_⟩:=Ei d r m C G W;obtain⟨c4,p,t⟩:=g4;rw[i]at p;cases p;simp[Instr.lookup,run_underlying z,F,h,g,t]
end
abbrev pc(m:List aC):List AV:=m.map λx=>.int .i64 x.id
abbrev InL(l:List aC):={x:aC // x∈l}
theorem akS{suf:List Rdn}{last:Int}{l:List aC}(G:TOk suf last l){m:List aC}(hm:∀x∈m,x∈l)(N:m≠[])(hn:m.length<=1100000){L:List Blk}{iv mn mi:Nat}{nb bn:Int->Nat}{ck ci:Nat}{rs:List TKy}(A:bT L iv mn mi nb bn ck ci rs suf last l){i bx:Nat}{cp:Option Nat}(C:L[i]?=some (.cells (pc m)))(J:L[bx]?=some (.cells [.ptr iv 0])){K:aoY}(h:K (.tup []) (L.set i (.cells (pc (m.mergeSort leE))))):
  aoX 55 [.lsl i 0 m.length cp 1,.func 56 [.ptr bx 0]] L K:=λw0 S0 E w vs o S=>by
 simp only[VRL,VR]at S;obtain⟨_,_,rfl,⟨c,rc,d,u,rfl,hd,a',_,_⟩,_,_,rfl,⟨_,rfl,_,_,rfl,⟨cb,U,rfl⟩,rfl⟩,rfl⟩:=S;have I:0<m.length:=apQ.2 N;have ad:d=c.off:=by have:=hd aso;omega
 subst ad;obtain⟨x0,an⟩:=List.exists_mem_of_ne_nil _ N;have O:∀x∈l,x.nm≠[]:=λx H e=>G.inv.ne (gN H) (by rw[e];rfl)
 haveI:Inhabited (InL l):=⟨⟨x0,hm x0 an⟩⟩
 obtain⟨p,rfl⟩:∃p:List (InL l),m=p.map (·.1):=⟨m.attach.map λx=>⟨x.1,hm x.1 x.2⟩,asp⟩;obtain⟨f,W⟩:∃f:(InL l)->AV,f=λx=>.int .i64 x.1.id:=⟨_,rfl⟩
 obtain⟨enc,g⟩:∃enc:(InL l)->Value,enc=λx=>.int .i64 x.1.id:=⟨_,rfl⟩
 have e1:∀s:List (InL l),pc (s.map (·.1))=s.map f:=λs=>by rw[W];exact apq
 rw[e1]at C;have a5:∀x v,VR E (f x) v->v=enc x:=λx v S=>by rw[W]at S;rw[g];simpa[VR]using S
 have av:∀x,VR E (f x) (enc x):=λx=>by rw[W,g];simp[VR]
 obtain⟨hH,al⟩:=aeD o a5 C u;obtain⟨c1,v1,X,b1,b2,b3⟩:=o.at J (j:=0) rfl;rw[U]at X;cases X;simp only[VR]at b2;obtain⟨c2,R,rfl⟩:=b2;obtain⟨a9,v2,h2,d1,d2,d3⟩:=o.at A.v (j:=1) rfl;rw[R]at h2;cases h2;simp only[VR]at d2;obtain⟨c3,t,rfl⟩:=d2;have Q:c3.blk<w.heap.size:=by obtain⟨c',a8,g1,g2,_⟩:=o.blk mn _ A.n;rw[t]at g1;cases g1;exact(apP.1 g2).1
 obtain⟨y0,Z,a4⟩:∃y Z,p=y::Z:=by
  cases p with
  |nil=>simp at I
  |cons y Z=>exact⟨y,Z,rfl⟩
 have ap:∀(j:Nat) (k:Blk) (c':Loc),L[j]?=some k->k.live=true->E.loc j=some c'->k≠.cells (p.map f)->c'.blk≠c.blk:=λj k c' B hl a6 hk e=>by have:=o.inj j i k _ c' c B hl C rfl a6 u e;subst this;rw[B]at C;exact hk (Option.some.inj C)
 have D:∀a P,(∀n,a≠.int .i64 n)->Blk.cells (a::P)≠.cells (p.map f):=λa P ha e=>by rw[a4,W]at e;simp only[apv,Blk.cells.injEq,List.cons.injEq]at e;exact ha _ e.1
 have a1:=ap bx _ cb J rfl U (D _ _ asp);have a2:=ap iv _ c2 A.v rfl R (D _ _ (by intro n;simp[dnA]));have a3:=ap mn _ c3 A.n rfl t asp;have M:=(o.own i _ c C rfl u).1;have r:∀x∈l,∃c4 F Y ca,E.loc (nb x.id)=some c4/\c4.blk<w.heap.size/\c4.blk≠c.blk/\F<w.heap.size/\F≠c.blk/\w.cell? ⟨c4.blk,c4.off+1,none⟩=some (.slice (some ⟨F,Y,none⟩) (pth x).length ca)/\∀j,j<(pth x).length->w.cell? ⟨F,Y+j,none⟩=some (.string ⟨⟨(pth x).getD j []⟩⟩):=λx H=>by
  obtain⟨c4,F,Y,ca,g1,g2,g3,g4⟩:=A.path o H (O x H);have a0:0<(pth x).length:=by have:=apQ.2 (O x H);simp only[pth,aql,bC];exact this
  have g5:=g4 0 a0;exact⟨c4,F,Y,ca,g1,g2,ap (nb x.id) _ c4 (A.nd x H) rfl g1 (D _ _ (by intro n;simp[dnA])),o.mem_lt g5,(λe=>by rw[e,M]at g5;cases g5),g3,λj B=>o.mem _ _ _ (g4 j B)⟩
 have T:CmpLays1 Tryz.prog 56 #[.pointer (some ⟨cb.blk,cb.off+0,none⟩)] enc (λx y=>cpP (pth x.1) (pth y.1)) c.blk c.off p.toArray.size w:=λn os dk hs x y=>by
  obtain⟨cx,px,qx,kx,x1,x2,x3,x4,x5,x6,x7⟩:=r x.1 x.2;obtain⟨cy,py,qy,ky,y1,y2,y3,y4,y5,y6,y7⟩:=r y.1 y.2;have ai:(pth x.1).length<=1100000:=(by have:=(G.ok x.1 x.2).len;simp only[pth,aql,bC];omega);have ar:(pth y.1).length<=1100000:=(by have:=(G.ok y.1 y.2).len;simp only[pth,aql,bC];omega);have z:∀b,b≠c.blk->b<w.heap.size->(sortWorld enc w c.blk c.off n dk os).heap[b]?=w.heap[b]?:=λb hb hl=>akP hb hl
  have:=Tryz.scp_c (pth x.1) (pth y.1) x.1.id y.1.id cb.blk (cb.off+0) c2.blk (c2.off+0) c3.blk cx.blk cx.off px qx kx cy.blk cy.off py qy ky (sortWorld enc w c.blk c.off n dk os) ai ar
   (by rw[jf (z _ a1 b3)];exact b1) (by rw[jf (z _ a2 d3)];exact d1)
   (λq=>A.lookup o t G x.2 x1 _ (z _ a3 Q)) (λq=>A.lookup o t G y.2 y1 _ (z _ a3 Q))
   (by rw[jf (z _ x3 x2)];exact x6) (by rw[jf (z _ y3 y2)];exact y6)
   (λj B=>by rw[jf (z _ x5 x4)];exact x7 j B) (λj B=>by rw[jf (z _ y5 y4)];exact y7 j B)
  rw[g]at this⊢;exact this.mono λe w' ⟨k1,q,k2⟩=>⟨k1,q,#[],by rw[k2,grow_empty]⟩
 have hO:SWO (ltOf (λx y:(InL l)=>cpP (pth x.1) (pth y.1))):=alm (λx:(InL l)=>pth x.1);have V:=Tryz.sortF enc (λx=>by rw[g];rfl) (λx y=>cpP (pth x.1) (pth y.1)) hO 56 #[.pointer (some ⟨cb.blk,cb.off+0,none⟩)] c.blk c.off rc p.toArray w (enters_of Tryz.func56 asq rfl) T hH al (by simp only[apm]at hn;simp only[List.size_toArray];omega) (λx y X h2=>by have:=abV (a:=pth x.1) (b:=pth y.1) X h2;exact Subtype.ext (G.byN x.2 y.2 (abQ this)))
 rw[apm]at *;refine .inl ⟨jC Tryz.func55 rfl asq _ _,V.mono ?_⟩;rintro e w' ⟨rfl,q,os,rfl⟩;have hp:(p.mergeSort λx y => !(ltOf (λx y:(InL l)=>cpP (pth x.1) (pth y.1))) y x).length=(p.map f).length:=by rw[ar6,apm]
 have r1:=o.putG av C u hp q;have e3:pc ((p.map (·.1)).mergeSort leE)=(p.mergeSort λx y => !(ltOf (λx y:(InL l)=>cpP (pth x.1) (pth y.1))) y x).map f:=by rw[<- e1];congr 1;refine(List.map_mergeSort λa _ b _=>?_).symm;rfl
 rw[e3]at h;refine⟨E,_,_,_,rfl,.refl E,h,by simp[VR,VRL],r1.grown ?_⟩;exact⟨λb hb=>arS hb,by simp[sortWorld,grow,putRow,mapBlock,Sort.ahead],rfl,rfl,rfl⟩
theorem aiv{cap:Option Nat}{d:AV}(h:K (.tup []) L):aoX 55 [.sl [] 0 cap,d] L K :=
 dD Tryz.func55 rfl asq (λw0 S0 E w vs g b=>by obtain⟨_,_,rfl,⟨p,c,rfl,_⟩,x,_,rfl,_,rfl⟩:=b;exact(Tryz.sortF0 p c x w).mono λe w' ⟨f,a⟩=>⟨_,f,by simp[VR,VRL],by subst a;exact EA.refl _⟩) h
end Go.Proofs.YtdnfjhflkkpokaaGreatDoor.Av
set_option maxRecDepth 100000
namespace Go.Proofs.YtdnfjhflkkpokaaGreatDoor.Av
open Go
def gj:LSO:=[Ak 2]
def gi:LSO:=[Aa 3 0,o1 4 (.slnil false (tm 3))]
def gh:LSO:=[Ak 2]
def gg:LSO:=[Cb 5,Aa 6 0,BK 7 5 6,Aa 2 7]
def bX:aK:=⟨8,(ash gj [] (.seq (ash gi C4 (asj 4 (.sreg gh []))) (ash gg C7 .ret))),[(.tmp 2)]⟩
attribute [push_cast] gj gi gh gg
theorem fW:aL Tryz.prog (λr i=>if r=3/\i=2 then 2 else 1) 47=some bX.raw:=asq
attribute [push_cast] bX
variable {L:List Blk}{K:aoY}
set_option maxHeartbeats 8000000
set_option maxRecDepth 100000
theorem agc{d e z:List Rdn}{cap cap':Option Nat}{ne nd:Nat}(s:e++d=z)(y:ne=e.length)(t:nd=d.length)(x:z.length<=1100000)(j:∀r∈z,r.length<=1100000)(h:K (dnA z) L):
  aoX 59 [.sl (d.map am) nd cap,.sl (e.map am) ne cap'] L K:=by
 subst y t;replace h:=hid h;have v:=hid (λk=>@mY z k);replace j:=hid j;have kk1:Hid (Ctr Tryz.prog 102 [.sl [.sl (e.map am) e.length cap',.sl (d.map am) d.length cap] 2 (some 2)] (.sl (z.map am) z.length none)):=@hid _ (by
  intro L K q;refine iK ?_;simp only[AV.frzL,AV.frz,bB];have:=@abv [e.map am,d.map am] none asp (by simp only[ar3,ar4,apG,<- apz,s,apm];exact x) (λl w=>by rw[apa];intro a B;simp only[apn,apX,or_false]at w;rcases w with rfl|rfl<;>(obtain⟨r,_,rfl⟩:=ao6.1 B;rfl)) (λp=>by simp only[ar3,ar4,apG,<- apz];exact fD p _) L K
  simp only[ar3,ar4,apG,<- apz,s,apv,aqI,apm,apJ,apb,aav]at this;exact this q)
 clear s;refine aoW VX ?_;refine bR (l:=[]) (n:=0) 5 1 rfl (aps 1).symm ?_;refine ak (λm T' L'=>∃(k:Nat) (C:List AV) (X:List Blk),m=z.length-k/\k<=z.length/\Hid (C=(z.take k).map am)/\T'=[(13,.int .i64 (k:Int)),(12,.int .i64 z.length),(11,.sl (z.map am) z.length none),(5,.gsl C k L.length 1)]/\L'=L++(.spare k 1::X)) ass ⟨0,[],[],rfl,ao2 _,hid rfl,rfl,asp⟩ ?_;rintro _ _ _ ⟨k,C,X,rfl,E,i,rfl,rfl⟩;by_cases b:k<z.length;have g1:(k:Int)<(z.length:Int):=aso;have I:=aoV k aso;have D:=v.o k b;have F:k<(z.map am).length:=by simpa using b
 obtain⟨r,c⟩:=aoT (z.getD k []);have A:=j.o r (by rw[<- c];simp[b]);have f:(z.take (k+1)).map am=C++[.sl (bd r) r.length none]:=by rw[i.o,aph b,apz,show z[k]=r by rw[<- c];simp[b]];rfl
 rw[c]at D;have H:=gR r;have G:=dm r;replace f:=hid f;clear c i;refine wk ?_;exact ast aso asr ⟨k+1,_,_,rfl,b,hid f.o.symm,rfl,rfl⟩;have u:k=z.length:=aso;subst u;have g1:¬(z.length:Int)<(z.length:Int):=aso;have g:=i.o;rw[apg]at g;subst g;clear i;refine wk ?_;refine aY ?_;simp only[AV.frz,bB];exact ac (by simp only[AV.refs,fD]) h.o
theorem ZM{xs:List (List UInt8)}{cap:Option Nat}(e:xs.length<=1100000)(h:K (.sl (xs.map AV.str) xs.length none) L):
  aoX 47 [.sl (xs.map AV.str) xs.length cap] L K:=by
 replace h:=hid h;by_cases b:xs=[]
 .subst b;refine ab fW (by simp[bX]) ?_;simp only[bX,ag]
  repeat' first
   |refine bH ?_
   | (first|refine bv asq ?_|refine aP asq ?_|refine aS ?_|refine cT ?_|refine bJ (fun _=>?_)|refine aH ?_|refine bz ?_)
     refine sm ?_
   | (first|refine bp asq ?_|refine bm ?_|refine aR ?_|refine bw ?_|refine bP (aG ?_))
     refine sl ?_
   |exact bL
   |first|apply bM|apply bq|apply bN|apply br|apply bO|apply bu
   |refine aV ?_
   |refine aQ ?_
   |first|refine aT rfl ?_|refine aU rfl ?_|refine aB rfl ?_ ?_|refine aX rfl (λ_=>?_) (λ_=>?_)|refine aW rfl (λ_=>?_) (λ_=>?_)
   |((first|refine aA (λ_=>?_) (λ_=>?_)|refine aE (λ_=>?_) (λ_=>?_))<;>try refine sm ?_)
   |refine And.intro trivial ?_
   |refine And.intro aso ?_
   |refine be rfl (λ_=>?_) (λ_=>?_)
   |refine And.intro ?_ ?_
  all_goals
   refine aY ?_;rw[show(AV.sl [] 0 (some 0)).frz=.sl (([]:List (List UInt8)).map AV.str) ([]:List (List UInt8)).length none from rfl];exact aa h.o
 have g:¬xs.length=0:=λc=>b (apK.1 c)
 have f:(xs.map AV.str).all AV.one=true:=by rw[apa];intro a d;obtain⟨r,_,rfl⟩:=ao6.1 d;rfl
 refine aoW fW ?_;refine EC (i:=L.length) (l:=xs.map AV.str) asp ?_;rw[show(AV.lsl L.length 0 xs.length none 1).snap L.length (xs.map AV.str)=.sl (xs.map AV.str) xs.length none from by simp[AV.snap,apA],show(L++[Blk.cells (xs.map AV.str)]).set L.length .dead=L++[.dead]by simp];exact ac (by simp only[AV.refs];exact i8 _ _) h.o
theorem Ym{l:List Atr}{cap:Option Nat}(x:l.length<=1100000)(t:∀a∈l,a.2.length<=1100000)(h:K (.sl (aJ l) l.length none) L):
  aoX 60 [.sl (aJ l) l.length cap] L K:=by
 replace h:=hid h;have s:Hid (∀{xs:List (List UInt8)}{c:Option Nat}(p:xs.length<=1100000){L:List Blk}{K:aoY},K (.sl (xs.map AV.str) xs.length none) L->aoX 47 [.sl (xs.map AV.str) xs.length c] L K):=@hid _ (by intro xs c p L K q;exact ZM p q);refine aoW ZU ?_;refine bR (l:=[]) (n:=0) 3 2 rfl (aps 2).symm ?_;refine ak (λm T' L'=>∃(k:Nat) (C:List AV) (X:List Blk),m=l.length-k/\k<=l.length/\C=aJ (l.take k)/\T'=[(8,.int .i64 (k:Int)),(7,.int .i64 l.length),(6,.sl (aJ l) l.length cap),(3,.gsl C k L.length 2)]/\L'=L++(.spare k 2::X)) ass ⟨0,[],[],rfl,ao2 _,rfl,rfl,rfl⟩ ?_;rintro _ _ _ ⟨k,C,X,rfl,u,e,rfl,rfl⟩;by_cases b:k<l.length;have g1:(k:Int)<(l.length:Int):=aso;have w:=aoV k aso;have j:=jD b;have v:k*2+2<=(aJ l).length:=by rw[iH];omega
 obtain⟨⟨nm,vs⟩,g⟩:∃a,l.getD k ([],[])=a:=⟨_,rfl⟩;have d:aJ (l.take (k+1))=aJ (l.take k)++[.str nm,.sl (vs.map AV.str) vs.length none]:=by rw[aph b,VZ,show l[k]=(nm,vs)by rw[<- g];simp[b]];rfl
 have f:=t (nm,vs) (by rw[<- g];simp[b]);simp only at f;rw[g]at j;simp only[atA]at j;have r:AV.frzL (vs.map AV.str)=vs.map AV.str:=iU vs;replace d:=hid d;replace e:=hid e;have kk1:Hid (∀{c:Option Nat}{L:List Blk}{K:aoY},K (.sl (vs.map AV.str) vs.length none) L->aoX 47 [.sl (vs.map AV.str) vs.length c] L K):=@hid _ (by intro c L K q;exact s.o f q);clear g t s;refine wk ?_;exact ast aso asr ⟨k+1,_,_,rfl,b,by rw[d.o,e.o],rfl,rfl⟩;have i:k=l.length:=aso;subst i;have g1:¬(l.length:Int)<(l.length:Int):=aso;rw[apg]at e;subst e;have r:=fi l;refine wk ?_;refine aY ?_;simp only[AV.frz,r];exact ac (by simp only[AV.refs,kk]) h.o
theorem YG{L:List Blk}{iv mn mi:Nat}{nb bn:Int->Nat}{ck ci:Nat}{rs:List TKy}{suf:List Rdn}{last:Int}{l:List aC}(t:TOk suf last l)(k:∀x∈l,x.av.length<=1100000/\∀a∈x.av,a.2.length<=1100000)(f:bT L iv mn mi nb bn ck ci rs suf last l){id:Int}{K:aoY}(u:o4 l id=none->K (.tup [dnA [],atR []]) L)(h:∀x,o4 l id=some x->K (.tup [dnA x.nm,atR x.av]) L):
  aoX 25 [.ptr iv 0,.int .i64 id] L K:=by
 have C:=f.v;have A:=f.n;have y:bS .int (.int .i64 id)=true:=rfl;rcases f.node id with⟨g,z⟩|⟨x,n,g,s,p,z,i⟩;replace h:=hid (u g);clear f g u k t;refine aoW o6 ?_;refine aY ?_;rw[show(AV.tup [.sl [] 0 (some 0),.sl [] 0 (some 0)]).frz=.tup [dnA [],atR []]from rfl];exact aa h.o;replace h:=hid (h x g);unfold nf at i;have e:=(t.ok x s).m.b;have d:=k x s;obtain⟨B,j,r⟩:=x;simp only at i e d h;have kk1:Hid (∀{c:Option Nat}{L:List Blk}{K:aoY},K (dnA j) L->aoX 59 [.sl (j.map am) j.length none,.sl [] 0 c] L K):=@hid _ (by intro c L K q;exact ab9 e.1 e.2 q);have kk2:Hid (Ctr Tryz.prog 60 [.sl (aJ r) r.length none] (atR r)):=@hid _ (by intro L K q;exact Ym d.1 d.2 q);obtain⟨q,w⟩:=aoT (bE (d7 l) (NK j));rw[w]at i;unfold atR at i kk2 h;clear f g u k t s p w e d;refine aoW o6 ?_;exact aa h.o
theorem an3{a b:Pth}{E nb:Nat}{ca cb:Option Nat}(z:E=a.length)(f:nb=b.length)(H:a.length<=1100000)(h:K (.bool (decide (a=b))) L):
  aoX 54 [.sl (aD a) E ca,.sl (aD b) nb cb] L K:=by
 subst z f;by_cases F:a.length=b.length;rotate_left;rw[decide_eq_false (λc=>F (by rw[c]))]at h;replace h:=hid h;have g:¬(a.length:Int)=(b.length:Int):=aso;refine aoW gk ?_;exact aa h.o;obtain⟨n,l⟩:=aoT (a.length);have f:b.length=n:=aso;obtain⟨R,v⟩:=aoT (decide (a=b));rw[v]at h;replace h:=hid h;have i:decide (a.drop 0=b.drop 0)=R:=v;replace i:=hid i;rw[l,f];rw[l]at H;have J:(aD a).length=n:=by simp[l]
 have N:(aD b).length=n:=by simp[f]
 replace l:=hid l;replace f:=hid f;clear F v;refine aoW gk ?_;refine ak (λm T' L'=>∃k:Nat,m=n-k/\k<=n/\Hid (decide (a.drop k=b.drop k)=R)/\T'=[(13,.int .i64 (k:Int)),(12,.int .i64 n),(0,.sl (aD a) n ca),(1,.sl (aD b) n cb)]/\L=L') (CutS (b:=ao0 _)) ⟨0,rfl,ao2 _,i,rfl,rfl⟩ ?_;rintro _ _ L' ⟨k,rfl,M,u,rfl,e⟩;subst e;clear i;have d:=u.o;by_cases p:k<n;have g1:(k:Int)<(n:Int):=aso;have O:=aoV k aso;have l1:k<a.length:=by rw[l.o];exact p
 have t:k<b.length:=by rw[f.o];exact p
 have G:(aD a).getD k .undef=.str (a.getD k []):=by simp[l1]
 have I:(aD b).getD k .undef=.str (b.getD k []):=by simp[t]
 have D:a.drop k=a.getD k []::a.drop (k+1):=by rw[apw l1];simp[l1]
 have B:b.drop k=b.getD k []::b.drop (k+1):=by rw[apw t];simp[t]
 rw[D,B]at d;obtain⟨x,C⟩:=aoT (a.getD k []);obtain⟨y,w⟩:=aoT (b.getD k []);rw[C]at G d;rw[w]at I d;by_cases s:x=y;subst s;have q:decide (a.drop (k+1)=b.drop (k+1))=R:=by rw[<- d];simp
 replace q:=hid q;clear u d D B C w l1 t;refine wk ?_;exact ast aso asr ⟨k+1,rfl,p,hid q.o,rfl,rfl⟩;have r:R=false:=by rw[<- d];simp[s]
 have j:=h.o;rw[r]at j;replace j:=hid j;clear u d D B C w l1 t r;refine wk ?_;exact aa j.o;have A:k=n:=aso;subst A;have g1:¬(k:Int)<(k:Int):=aso;have r:R=true:=by rw[<- d,aqW (by rw[l.o];exact ao0 _),aqW (by rw[f.o];exact ao0 _)];rfl
 have j:=h.o;rw[r]at j;replace j:=hid j;clear u d r;refine wk ?_;exact aa j.o
open Go Go.MapKept
section
variable {P:Program}{w0:World}{S0:SB}{E:Env}{L:List Blk}{w:World}{T:Tm}{a:Act}{N:Nat}
theorem aI.mem1:∀{es:List (AV×AV×Nat)}{rs:List MapEntry}{f:MapEntry},aI E es rs->f∈rs->∃e∈es,VR E e.1 f.key/\VR E e.2.1 f.val/\e.2.2=f.born
 |[],rs,f,h,a=>by simp only[aI]at h;subst h;cases a
 | (k,x,b)::es,rs,f,h,a=>by
   obtain⟨g,t,rfl,g1,c,g3,g4⟩:=h;rcases apn.1 a with rfl|a
   .simp[*]
   .obtain⟨e,he,h1⟩:=aI.mem1 g4 a
    grind
theorem aI.mem2:∀{es:List (AV×AV×Nat)}{rs:List MapEntry}{e:AV×AV×Nat},aI E es rs->e∈es->∃f∈rs,e.2.2=f.born
 |[],rs,e,h,a=>by cases a
 | (k,x,b)::es,rs,e,h,a=>by
   obtain⟨g,t,rfl,g1,c,g3,g4⟩:=h;rcases apn.1 a with rfl|a
   .simp[*]
   .obtain⟨f,hf,h1⟩:=aI.mem2 g4 a
    grind
theorem aaA{t:TypeId}{v:Value}{i j ck a last:Nat}{seen:List Nat}{es:List (AV×AV×Nat)}(p:Rel w0 S0 E L w)(B:L[i]?=some (.miter (some j) a seen last))(N:L[j]?=some (.map es ck))(K:VR E (.ptr i 0) v)(I:∀e∈es,e.2.2<a)(y:a<=last):
  ∃r,(match r with|none=>∀e∈es,seen.contains e.2.2=true|some e=>e∈es/\seen.contains e.2.2=false)/\dz P w0 S0 E (aa9 L i j a seen ck r) (Vx r) w (Instr.next v false t):=by
 obtain⟨c,u,rfl⟩:=K;obtain⟨c',q,J,C,G,d,h4,rfl⟩:=p.blk i _ B;rw[u]at J;cases J;obtain⟨U,rs,g1,Q,g3⟩:=p.blk j _ N;rw[h4]at g1;cases g1;have s:c.blk<w.heap.size:=(apP.1 C).1;have k:∀x∈rs.toList,x.born<a:=λx O=>by
  obtain⟨e,o,_,_,h⟩:=g3.mem1 O
  grind
 rw[G];rcases run_next_at (P:=P) w t c.blk d.blk a last ⟨seen⟩ rs ck C Q k y with⟨R,g⟩|⟨f,F,n,A,g⟩;refine⟨none,λe o=>?_,.same p g (by simp[Vx,VR,VRL])⟩;obtain⟨f,F,D⟩:=g3.mem2 o;have M:leftOf rs ⟨seen⟩=#[]:=Array.eq_empty_of_size_eq_zero R;unfold leftOf at M;simp_all;have l:f∈rs.toList/\seen.contains f.born=false:=by simp only[leftOf,Array.toList_filter,apC]at F;simp_all
 obtain⟨e,o,T,S,H⟩:=g3.mem1 l.1;have z:Rel w0 S0 E L n:=by rcases A with rfl|rfl;omega;exact p.grown ⟨λ_ _=>rfl,ao0 _,rfl,rfl,rfl⟩
 have m:c.blk<n.heap.size:=by rcases A with rfl|rfl<;>exact s
 have turn:=z.turn (w':={n with heap:=n.heap.setIfInBounds c.blk (.mapIter (some d.blk) a ((⟨seen⟩:Array Nat).push f.born) ck)}) (k':=.miter (some j) a (seen++[f.born]) ck) B rfl u asp (λb D=>by simp[art,Ne.symm D]) rfl rfl rfl
  ⟨c,some d.blk,u,by simp[m],G,d,h4,rfl⟩ (λ_ _ e=>by cases e)
 refine⟨some e,⟨o,by rw[H];exact l.2⟩,E,.tuple #[.bool true,f.key,f.val],_,g,.refl E,?_,?_⟩;simp only[Vx,VR,VRL]
 grind
 simp only[aa9,H];exact turn
def LOp.isNext:LOp->Bool
 |.mnext _=>true
 |_=>false
theorem aeU{own:Nat}{s d:TypeId}{x:Opd}{a:LOp}(h:EM P own s d x=some a):a.isNext=false:=by
 unfold EM at h
 repeat' split at h
 all_goals (first|(cases h;rfl)|cases h)
theorem ahd{op:BinOp}{t:TypeId}{x y:Operand}{a:LOp}(h:Se P op t x y=some a):a.isNext=false:=by
 unfold Se at h
 repeat' split at h
 all_goals (first|(cases h;rfl)|cases h)
theorem aax{own:Nat}{b:Builtin}{ts:List TypeId}{xs:List Opd}{a:LOp}(h:dH P own b ts xs=some a):a.isNext=false:=by
 unfold dH at h
 repeat' split at h
 all_goals (first|(cases h;rfl)|cases h|(simp only[apE]at h;obtain⟨_,_,rfl⟩:=h;rfl))
theorem aeT{own:Nat}{op:Op}{y:Opd}(h:ki P own op=some (.mnext y)):∃x,op=.next x false/\bV x=some y:=by
 cases op
 case next x isS =>
  simp only[ki]at h;split at h
  .simp_all
  simp_all
 case makeMap t r =>
  cases r with
  |some x=>simp[ki]at h
  | none =>
    simp only[ki]at h
    grind
 all_goals (exfalso;simp only[ki]at h;try (cases h;done))
 case binOp=>have:=ahd h;cases this
 case convert x=>simp only[aqC]at h;obtain⟨_,_,h⟩:=h;have:=aeU h;cases this
 case call c =>
  split at h<;>try cases h
  split at h<;>try cases h
  .simp_all
  .have:=aax h;cases this
 all_goals
  repeat' split at h
  all_goals (first|cases h|(simp only[apE]at h;obtain⟨_,_,h⟩:=h;cases h))
theorem ame{own:Nat->Nat->Nat}{Q:Exit->Tm->List Blk->Prop}{d t i j b last ck:Nat}{rest:List SOp}{f:List Bool}{seen:List Nat}{es:List (AV×AV×Nat)}(q:(okS rest&&(gds rest).isEmpty)=true)(ht:ay T t=some (.ptr i 0))(hi:L[i]?=some (.miter (some j) b seen last))(hj:L[j]?=some (.map es ck))(p:∀e∈es,e.2.2<b)(C:b<=last)(h0:(∀e∈es,seen.contains e.2.2=true)->SL P rest (aan f (Q .normal)) ((d,.tup [.bool false])::T) L)(h1:∀e∈es,seen.contains e.2.2=false->SL P rest (aan f (Q .normal)) ((d,.tup [.bool true,e.1,e.2.1])::T) (L.set i (.miter (some j) b (seen++[e.2.2]) ck))):
  AW P N own (.sreg (.op ⟨some d,.mnext (.tmp t),none⟩::rest) f) Q T L:=λc hc ro al w0 S0 E a w z=>by
 obtain⟨id,os,rfl,g⟩:=Sg hc;rw[ao3]at q;refine wpIn_region ?_;generalize List.range os.size=is at g⊢;cases is with
 |nil=>simp[cQ,SOp.flatL,SOp.flat]at g
 | cons i0 is =>
   simp only[SOp.flatL,SOp.flat,apH,apx,cQ]at g;split at g<;>try cases g
   rename_i lo Y e1 e2;obtain⟨o,ho,an,h,hd,hg⟩:=ja e1;rcases hg with⟨g1,_⟩|⟨_,_,_,_,_,_,g4⟩
   .simp only[wpOpsIn,ho];rw[if_pos (by simp[Region.wanted,g1])];have n:ki P (own id i0) o.op=some (.mnext (.tmp t)):=by
     rcases hq:ki P (own id i0) o.op with _|x
     .simp_all
     simp_all
    obtain⟨x,W,H⟩:=aeT n;obtain⟨hR,S,X,M⟩:=z;have F:=aq H (show evX T (.tmp t)=some (.ptr i 0)from ht) S;obtain⟨r,y,E',v,w',Z,m,I,G⟩:=aaA (P:=P) (t:=o.type) hR hi hj F p C;have K:∀c,o.op≠.defer c:=λc e=>by rw[W]at e;cases e
    refine⟨λ_ _=>trivial,?_⟩;rw[Oper.semAt_plain _ _ _ K];have B:(execOp a.eval o).run P w=.ok (.value v) w':=by obtain⟨od,ad,D,U,s,u⟩:=o;subst W;show(do pure (Next.value (<- Instr.next (a.eval x) false D)):Sem Next).run P w=_;simp[*]
    rw[B,Oper.uponIn_value];have l:St w0 S0 N E' (di (some d) (Vx r) T) (aa9 L i j b seen ck r) (a.put o.dst v) w':=⟨G,by rw[h];exact(S.mono m).putT (λk R=>by rw[X];exact hd k (by rw[h];exact R)) I,by rw[Y0];exact X,by rw[R7];exact M⟩;have A:Fr (gds rest) (di (some d) (Vx r) T):=λk R=>by simp_all
    have J:SL P rest (aan f (Q .normal)) (di (some d) (Vx r) T) (aa9 L i j b seen ck r):=by
     cases r with
     |none=>exact h0 y
     |some e=>exact h1 e y.1 y.2
    refine JR rest q.1 e2 l A J λO T' L' a' ai q2 V q4=>⟨w0,S0,O,sel f T',L',.refl _ _,m.trans q2,V.2,q4.weak (λt v F=>Ob V.1 F) rfl λ_ _ e=>.inr e⟩
   simp_all
end
end Go.Proofs.YtdnfjhflkkpokaaGreatDoor.Av
