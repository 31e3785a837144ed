/- Joined texts of the walk, made small by a program. -/
import Derived.Test.YtdnfjhflkkpokaaGreatDoorFk10
import Derived.Test.YtdnfjhflkkpokaaGreatDoorFk8
import Derived.Test.YtdnfjhflkkpokaaGreatDoorFk6
import Derived.Test.YtdnfjhflkkpokaaGreatDoorFk9
import Derived.Test.YtdnfjhflkkpokaaGreatDoorFk5
import Derived.Test.YtdnfjhflkkpokaaGreatDoorFk4
import Derived.Shelf.Strings.Builder1
import Derived.Shelf.Strings.Builder2
import Derived.Shelf.Strings.OnBuilder
import Derived.Shelf.Small.Bits
import Derived.Shelf.Small.Strs
import Derived.Shelf.Strconv.Itoa0
import Derived.Shelf.Strconv.Itoa1
import Derived.Shelf.LaysM
import Derived.Shelf.Strconv.Itoa2
import Derived.Shelf.Strconv.Itoa3
import Derived.Shelf.Strconv.Itoa4
import Derived.Shelf.Strconv.ParseIntEmpty
import Derived.Shelf.Strconv.Clone
import Derived.Shelf.Strconv.SyntaxError
import Derived.Shelf.LaysC
import Derived.Shelf.Strconv.ToError
import Derived.Shelf.Strconv.Lower
import Derived.Shelf.Strconv.ParseUint10
import Derived.Shelf.Strconv.ParseUint10Empty
import Derived.Shelf.Strconv.ParseUint10Any
import Derived.Shelf.Strconv.ParseInt10
import Derived.Shelf.Strconv.RangeError
import Derived.Shelf.Strconv.ToErrorRange
import Derived.Shelf.Strconv.ParseUintEmpty
import Derived.Shelf.Strconv.ParseUint10b64
import Derived.Shelf.Strconv.ParseUint10b32
import Derived.Shelf.Strconv.ParseUint10b16
import Derived.Shelf.Strconv.ParseUint10b8
import Derived.Shelf.Strconv.ParseUint10At
import Derived.Shelf.Strconv.ParseInt10At64
import Derived.Shelf.Strconv.ParseInt10At32
import Derived.Shelf.Strconv.ParseInt10At16
import Derived.Shelf.Strconv.ParseInt10At8
import Derived.Shelf.Strconv.ParseInt10All
import Derived.Shelf.Strconv.ParseIntPublic10
import Derived.Shelf.Strconv.ErrVarParseInt
import Derived.Shelf.Strings.Search1
import Derived.Shelf.Strings.Search2
import Derived.Shelf.Strings.Search3
import Derived.Shelf.Strings.Cut
import Derived.Shelf.Strings.Shaped
import Derived.Shelf.Sort.Plain
import Derived.Shelf.GgClosure.StringsIndexFunc
import Derived.Ground.GgwProg
import Derived.Shelf.GgClosure.StringsIndexFuncTop
import Derived.Shelf.GgClosure.StringsRunes
import Derived.Shelf.Strings.Prefix
import Derived.Shelf.Slices.Equal
import Derived.Ground.Names2Prog
import Derived.Shelf.Slices.Clone
import Derived.Shelf.Slices.In.SortNone
import Derived.Ground.SlsfProg
import Derived.Shelf.SlSortCmp.Insertion
import Derived.Shelf.SlSortCmp.SiftDown1
import Derived.Shelf.SlSortCmp.HeapSort1
import Derived.Shelf.SlSortCmp.Insertion1
import Derived.Shelf.SlSortCmp.Median1
import Derived.Shelf.SlSortCmp.Pivot1
import Derived.Shelf.SlSortCmp.ReverseRange1
import Derived.Shelf.SlSortCmp.PartialInsertion1
import Derived.Shelf.SlSortCmp.PartitionEqual1
import Derived.Shelf.SlSortCmp.Partition1
import Derived.Shelf.SlSortCmp.Pdq1
import Derived.Shelf.SlSortCmp.Whole1
import Derived.Shelf.SlSortCmp.NoneTotal
import Derived.Test.YtdnfjhflkkpokaaGreatDoorProg
import Derived.WalkKit
import Derived.WalkLawsBesides
import Derived.Deep.QuietTactic
import Derived.Deep.LoopGhost
import Derived.BigQuiet
import Derived.Lib.Walk
import Derived.Test.YtdnfjhflkkpokaaGreatDoorRows
import Derived.KernelRfl
import Derived.Maps.RangeRun
set_option linter.unusedSimpArgs false
set_option linter.unusedVariables false
namespace Go.Proofs.YtdnfjhflkkpokaaGreatDoor.Av
open Go
variable {d:List Rdn}{cap cap' c:Option Nat}{k rt:Nat}{β:Type}{rows:List AV}
variable {L:List Blk}{K:apr}
set_option maxHeartbeats 8000000
set_option maxRecDepth 100000
def dnM(d:List Rdn):Prop:=d.length<=1100000/\∀r∈d,r.length<=1100000/\∀a∈r,(a.1.length:Int)<=140737488351232
theorem dnM.b(h:dnM d):dnB d:=⟨h.1,λr a=>(h.2 r a).1⟩
theorem ZG(h:OkD d):d.length<=1000/\∀r∈d,r.length<=1000/\∀a∈r,a.1.length<=10000/\a.2.length<=10000:=by obtain⟨f,b⟩:=Zw h;exact⟨asP,λr c=>⟨by have:=(b r c).1;omega,λa e=>⟨by have:=((b r c).2 a e).1;omega,by have:=((b r c).2 a e).2;omega⟩⟩⟩
theorem OkD.m(h:OkD d):dnM d:=⟨by have:=(ZG h).1;omega,λr b=>⟨by have:=((ZG h).2 r b).1;omega,λa c=>by have:=(((ZG h).2 r b).2 a c).1;omega⟩⟩
theorem ala(g:OkD d)(h:K (.str (bp true d)) L):
  apq 85 [.sl (d.map aq) d.length cap,.bool true] L K:=by
 obtain⟨j,e⟩:=Zw g;have b:∀r∈d,(dy true r).length<=200000:=λr c=>TF (e r c).1 (λa f=>((e r c).2 a f).1) (λa f=>((e r c).2 a f).2)
 have i:=Tz asP b;exact agi (ZG g).1 (ZG g).2 (λr c=>by have:=b r c;omega) asP h
theorem ai2(g:OkD d)(h:K (.str (bp true d)) L):
  apq 88 [.sl ((gX d).map aq) d.length cap] L K:=by
 have e:=ZG g;have c:∀r∈gX d,r.length<=1000/\∀a∈r,a.1.length<=10000/\a.2.length<=10000:=λr i=>by obtain⟨f,b,rfl⟩:=apz.1 i;exact⟨by rw[tf];exact(e.2 f b).1,Zy (e.2 f b).2⟩
 have:=@YS (gX d) cap (by rw[SC];exact e.1) c L K (by rw[EK];exact h);rwa[SC]at this
theorem Tv{b:List Rdn}(l:dnB d)(j:dnB b)(h:K (.bool (cC d b)) L):
  apq 62 [.sl (d.map aq) d.length cap,.sl (b.map aq) b.length cap'] L K:=by
 have e:cC d b=(decide (OkD d)&&decide (OkD b)&&decide (b.length<=d.length)&&decide (bp true (d.drop (d.length-b.length))=bp true b)):=rfl;obtain⟨⟨ps,t⟩,m⟩:∃q,prS d=q:=⟨_,rfl⟩;obtain⟨⟨v,ne⟩,g⟩:∃q,SF b=q:=⟨_,rfl⟩;have kk1:Hid (Ctr Tryz.prog 36 [.sl (d.map aq) d.length cap] (.tup [.str ps,.int .i64 t])):=@hid _ (by intro L K q;exact lM l.1 l.2 (by rw[m];exact q));have kk2:Hid (Ctr Tryz.prog 58 [.sl (b.map aq) b.length cap'] (.tup [.str v,.int .i64 ne])):=@hid _ (by intro L K q;exact SG j.1 j.2 (by rw[g];exact q));have n:OkD d↔t=0:=by unfold OkD;rw[m]
 by_cases r:t=0;rotate_left;rw[e,decide_eq_false (λc=>r (n.1 c))]at h;simp only[aqg]at h;replace h:=hid h;clear m g e n l j;refine apo nN ?_;exact aa h.o;have a:OkD d:=n.2 r;by_cases u:ne=0;rotate_left;rw[e,decide_eq_false (p:=OkD b) (λc=>u (by have:=iP c;rw[g]at this;injection this))]at h;simp only[aqg,ar0]at h;replace h:=hid h;subst r;clear m g e n l j a;refine apo nN ?_;exact aa h.o;have f:OkD b:=by by_cases c:OkD b;exact c;exact absurd (by rw[g];exact u) (VY c)
 have i:v=bp true b:=by have:=iP f;rw[g]at this;injection this
 rw[decide_eq_true a,decide_eq_true f]at e;simp only[ap0]at e;subst r u;by_cases s:b.length<=d.length;rotate_left;rw[e,decide_eq_false s]at h;simp only[aqg]at h;replace h:=hid h;have g1:(d.length:Int)<(b.length:Int):=asP;clear m g e n l j a f i;refine apo nN ?_;exact aa h.o;rw[e,decide_eq_true s,<- i]at h;simp only[ap0]at h;obtain⟨k,w⟩:=apl (d.length-b.length);rw[w]at h;have kk3:Hid (∀{c:Option Nat}{L:List Blk}{K:apr},K (.str (bp true (d.drop k))) L->apq 85 [.sl (List.take (d.length-k) (List.drop k (d.map aq))) (d.length-k) c,.bool true] L K):=@hid _ (by intro c L K q;have:=ala (cap:=c) (a.drop k) q;rw[aqT]at this;rw[<- List.map_drop,ap2 asQ];exact this)
 have g1:¬(d.length:Int)<(b.length:Int):=asP;have x:d.length<=32:=a.len;have y:IntKind.i64.wrap ((d.length:Int)-(b.length:Int))=(k:Int):=by rw[ae asP asP];omega
 have g3:(k:Int)<=(d.length:Int):=asP;replace h:=hid h;clear m g e n l j a f i w s x;refine apo nN ?_;exact aa h.o
theorem Kf{b:List Rdn}(l:dnM d)(f:dnM b)(h:K (.bool (cC d b)) L):
  apq 38 [.sl (d.map aq) d.length cap,.sl (b.map aq) b.length cap'] L K:=by
 have e:cC d b=(decide (OkD d)&&decide (OkD b)&&decide (b.length<=d.length)&&decide (bp true (d.drop (d.length-b.length))=bp true b)):=rfl;obtain⟨⟨ps,t⟩,m⟩:∃q,prS d=q:=⟨_,rfl⟩;obtain⟨⟨v,ne⟩,i⟩:∃q,SF b=q:=⟨_,rfl⟩;have kk1:Hid (Ctr Tryz.prog 37 [.sl (d.map aq) d.length cap] (.tup [.str ps,.int .i64 t])):=@hid _ (by intro L K q;exact rG l.1 l.2 (by rw[m];exact q));have kk2:Hid (Ctr Tryz.prog 89 [.sl (b.map aq) b.length cap'] (.tup [.str v,.int .i64 ne])):=@hid _ (by intro L K q;exact TG f.1 f.2 (by rw[i];exact q));have n:OkD d↔t=0:=by unfold OkD;rw[m]
 by_cases r:t=0;rotate_left;rw[e,decide_eq_false (λc=>r (n.1 c))]at h;simp only[aqg]at h;replace h:=hid h;clear m i e n l f;refine apo jk ?_;exact aa h.o;have a:OkD d:=n.2 r;by_cases u:ne=0;rotate_left;rw[e,decide_eq_false (p:=OkD b) (λc=>u (by have:=iP c;rw[i]at this;injection this))]at h;simp only[aqg,ar0]at h;replace h:=hid h;subst r;clear m i e n l f a;refine apo jk ?_;exact aa h.o;have g:OkD b:=by by_cases c:OkD b;exact c;exact absurd (by rw[i];exact u) (VY c)
 have j:v=bp true b:=by have:=iP g;rw[i]at this;injection this
 rw[decide_eq_true a,decide_eq_true g]at e;simp only[ap0]at e;subst r u;by_cases s:b.length<=d.length;rotate_left;rw[e,decide_eq_false s]at h;simp only[aqg]at h;replace h:=hid h;have g1:(d.length:Int)<(b.length:Int):=asP;clear m i e n l f a g j;refine apo jk ?_;exact aa h.o;rw[e,decide_eq_true s,<- j]at h;simp only[ap0]at h;obtain⟨k,w⟩:=apl (d.length-b.length);rw[w]at h;have kk3:Hid (∀{c:Option Nat}{L:List Blk}{K:apr},K (.sl ((gX (d.drop k)).map aq) (d.length-k) none) L->apq 90 [.sl (List.take (d.length-k) (List.drop k (d.map aq))) (d.length-k) c] L K):=@hid _ (by intro c L K q;have f:=ZG (a.drop k);have:=@adx (d.drop k) c f.1 f.2 L K (by rw[aqT];exact q);rw[aqT]at this;rw[<- List.map_drop,ap2 asQ];exact this)
 have kk4:Hid (∀{c:Option Nat}{L:List Blk}{K:apr},K (.str (bp true (d.drop k))) L->apq 88 [.sl ((gX (d.drop k)).map aq) (d.length-k) c] L K):=@hid _ (by intro c L K q;have:=ai2 (cap:=c) (a.drop k) q;rw[aqT]at this;exact this)
 have g1:¬(d.length:Int)<(b.length:Int):=asP;have x:d.length<=32:=a.len;have y:IntKind.i64.wrap ((d.length:Int)-(b.length:Int))=(k:Int):=by rw[ae asP asP];omega
 have g3:(k:Int)<=(d.length:Int):=asP;replace h:=hid h;clear m i e n l f a g j w s x;refine apo jk ?_;exact aa h.o
abbrev aC:=Ent (List Atr)
instance:Inhabited aC:=⟨⟨0,[],[]⟩⟩
def atR(v:List Atr):AV:=.sl (aJ v) v.length none
def We(x:aC):List AV:=[.int .i64 x.id,dnA x.nm,atR x.av]
def bE(l:List aC):List AV:=l.flatMap We
theorem Em(l:List aC):(bE l).length=l.length*3:=by
 induction l with
 |nil=>rfl
 | cons x l ih =>
   unfold bE at ih⊢;rw[ap5,apB,ih,apC];simp only[We,apC,ap9];omega
theorem Er(l m:List aC):bE (l++m)=bE l++bE m:=by simp[bE]
theorem afS(l:List aC)(k:Nat):(bE l).drop (k*3)=bE (l.drop k):=by
 induction l generalizing k with
 |nil=>simp[bE]
 | cons x l ih =>
   cases k with
   |zero=>simp
   | succ k =>
     rw[arN,<- ih k,show(k+1)*3=k*3+1+1+1 by omega];simp[bE,We]
theorem Ep{l:List aC}(h:k<l.length):((bE l).drop (k*3)).take 3=We (l.getD k default):=by rw[afS,apY h,show l.getD k default=l[k]by simp[h]];unfold bE;rw[ap5];rfl
theorem En{l:List aC}(h:k<l.length):(bE l).getD (k*3) .undef=.int .i64 (l.getD k default).id/\(bE l).getD (k*3+1) .undef=dnA (l.getD k default).nm/\(bE l).getD (k*3+2) .undef=atR (l.getD k default).av:=by
 have a:∀j,j<3->(bE l).getD (k*3+j) .undef=(We (l.getD k default)).getD j .undef:=λj c=>by have b:=congrArg (λl=>l[j]?) (Ep h);simp only[aqs c,aqo]at b;rw[apO,b];exact(apO ..).symm
 exact⟨by have:=a 0 asP;simpa[We]using this,by have:=a 1 asP;simpa[We]using this,by have:=a 2 asP;simpa[We]using this⟩
theorem agh(t:d.length<=1100000)(j:∀r∈d,r.length<=1100000)(h:K (dnA d) L):
  apq 40 [.sl (d.map aq) d.length cap] L K:=by
 replace h:=hid h;have i:=hid (λk=>@nv d k);replace j:=hid j;refine apo YD ?_;refine bR (l:=[]) (n:=0) 3 1 rfl (apU 1).symm ?_;refine aj (λm T' L'=>∃(k:Nat) (C:List AV) (X:List Blk),m=d.length-k/\k<=d.length/\Hid (C=(d.take k).map aq)/\T'=[(8,.int .i64 (k:Int)),(7,.int .i64 d.length),(6,.sl (d.map aq) d.length cap),(3,.gsl C k L.length 1)]/\L'=L++(.spare k 1::X)) asT ⟨0,[],[],rfl,apv _,hid rfl,rfl,asQ⟩ ?_;rintro _ _ _ ⟨k,C,X,rfl,s,f,rfl,rfl⟩;by_cases a:k<d.length;have g1:(k:Int)<(d.length:Int):=asP;have x:=apn k asP;have q:=i.o k a;have u:k<(d.map aq).length:=by simpa using a
 obtain⟨r,b⟩:=apl (d.getD k []);have p:=j.o r (by rw[<- b];simp[a]);have c:(d.take (k+1)).map aq=C++[.sl (bg r) r.length none]:=by rw[f.o,apK a,ap1,show d[k]=r by rw[<- b];simp[a]];rfl
 rw[b]at q;have v:=gP r;have w:=dp r;replace c:=hid c;clear b f;refine wk ?_;exact asU asP asS ⟨k+1,_,_,rfl,a,hid c.o.symm,rfl,rfl⟩;have g:k=d.length:=asP;subst g;have g1:¬(d.length:Int)<(d.length:Int):=asP;have e:=f.o;rw[apJ]at e;subst e;clear f;refine wk ?_;refine aY ?_;simp only[AV.frz,bB];exact ac (by simp only[AV.refs,fD]) h.o
theorem alt(A:d.length<=1100000)(l:∀r∈d,r.length<=1100000)(h:K (.bool true) L):
  apq 12 [.sl (d.map aq) d.length cap,.sl (d.map aq) d.length cap'] L K:=by
 replace h:=hid h;have i:=hid (λk=>@nv d k);replace l:=hid l;refine apo YE ?_;refine aj (λm T' L'=>∃k:Nat,m=d.length-k/\k<=d.length/\T'=[(14,.int .i64 (k:Int)),(13,.int .i64 d.length),(0,.sl (d.map aq) d.length cap),(1,.sl (d.map aq) d.length cap')]/\L=L') (CutS (b:=apt _)) ⟨0,rfl,apv _,rfl,rfl⟩ ?_;rintro _ _ L' ⟨k,rfl,x,rfl,e⟩;subst e;by_cases c:k<d.length;have g1:(k:Int)<(d.length:Int):=asP;have y:=apn k asP;have q:=i.o k c;have v:k<(d.map aq).length:=by simpa using c
 obtain⟨r,f⟩:=apl (d.getD k []);have s:=l.o r (by rw[<- f];simp[c]);rw[f]at q;clear f;refine wk ?_;refine aj (λm T' L'=>∃j:Nat,m=r.length-j/\j<=r.length/\T'=[(33,.int .i64 (j:Int)),(32,.int .i64 r.length),(5,.int .i64 (k:Int)),(14,.int .i64 (k:Int)),(13,.int .i64 d.length),(0,.sl (d.map aq) d.length cap),(1,.sl (d.map aq) d.length cap')]/\L=L') (CutS (b:=apt _)) ⟨0,rfl,apv _,rfl,rfl⟩ ?_;rintro _ _ L' ⟨j,rfl,B,rfl,e⟩;subst e;by_cases g:j<r.length;have t:(j:Int)<(r.length:Int):=asP;have w:=apn j asP;have p:=gQ g;have z:j*2+2<=(bg r).length:=by rw[dp];omega
 obtain⟨⟨ty,u⟩,n⟩:∃a,r.getD j ([],[])=a:=⟨_,rfl⟩;rw[n]at p;simp only[pD]at p;clear n;refine wk ?_;exact asU asP asS ⟨j+1,rfl,g,rfl,rfl⟩;have t:¬(j:Int)<(r.length:Int):=asP;refine wk ?_;exact asU asP asS ⟨k+1,rfl,c,rfl,rfl⟩;have g1:¬(k:Int)<(d.length:Int):=asP;refine wk ?_;exact aa h.o
def plI(o:Option Nat):Int:=match o with|some i=>(i:Int)|none=>-1
theorem abR{f:β->Bool}{l:List β}[Inhabited β](a:k<l.length)(h:∀j,j<k->f (l.getD j default)=false)(b:f (l.getD k default)=true):l.findIdx? f=some k:=by rw[List.findIdx?_eq_some_iff_getElem];refine⟨a,by simpa[a]using b,λj c=>?_⟩;have:=h j c;simpa[show j<l.length by omega]using this
theorem abS{f:β->Bool}{l:List β}[Inhabited β](h:∀j,j<l.length->f (l.getD j default)=false):l.findIdx? f=none:=by rw[List.findIdx?_eq_none_iff];intro x b;obtain⟨j,a,e⟩:=aqn.1 b;have:=h j a;rw[<- e];simpa[a]using this
def byI(l:List aC)(id:Int):Int:=plI (l.findIdx? λx=>decide (x.id=id))
def atI(l:List aC)(d:List Rdn):Int:=if OkD d then plI (l.findIdx? λx=>decide (NK x.nm=NK d))else -1
theorem alJ{l:List aC}{id:Int}{a b:AV}(E:l.length<=1100000){L:List Blk}(B:L[rt]?=some (.cells [a,.sl (bE l) l.length c,b])){K:apr}(h:K (.int .i64 (byI l id)) L):
  apq 186 [.ptr rt 0,.int .i64 id] L K:=by
 obtain⟨R,n⟩:=apl (byI l id);rw[n]at h;replace h:=hid h;replace n:=hid n;have v:=Em l;refine apo Ol ?_;refine aj (λm T' L'=>∃k:Nat,m=l.length-k/\k<=l.length/\Hid (∀j,j<k->¬(l.getD j default).id=id)/\T'=[(11,.int .i64 (k:Int)),(10,.int .i64 l.length),(0,.ptr rt 0),(1,.int .i64 id)]/\L=L') (CutS (b:=apt _)) ⟨0,rfl,apv _,hid (λj r=>absurd r (arE _)),rfl,rfl⟩ ?_;rintro _ _ L' ⟨k,rfl,D,q,rfl,e⟩;subst e;by_cases p:k<l.length;have g1:(k:Int)<(l.length:Int):=asP;have F:=apn k asP;have C:k*3+2<(bE l).length:=by rw[v];omega
 have z:k*3<(bE l).length:=asP;obtain⟨y,_,_⟩:=En p;obtain⟨x,s⟩:=apl (l.getD k default);rw[s]at y;by_cases d:x.id=id;have t:R=(k:Int):=by rw[<- n.o];unfold byI;rw[abR p (λj r=>decide_eq_false (q.o j r)) (by rw[s];simpa using d)];rfl
 have i:=h.o;rw[t]at i;replace i:=hid i;obtain⟨A,g⟩:=apl (x.id);rw[g]at y d;subst d;clear s g q n t;refine wk ?_;exact aa i.o;obtain⟨A,g⟩:=apl (x.id);rw[g]at y d;have u:=hid (λj (r:j<k+1)=>show ¬(l.getD j default).id=id from by by_cases e:j=k;subst e;rw[s,g];exact d;exact q.o j asP)
 clear s g q n;refine wk ?_;exact asU asP asS ⟨k+1,rfl,p,u,rfl,rfl⟩;have w:k=l.length:=asP;subst w;have g1:¬(l.length:Int)<(l.length:Int):=asP;have t:R=-1:=by rw[<- n.o];unfold byI;rw[abS (f:=λx:aC=>decide (x.id=id)) (l:=l) λj r=>decide_eq_false (q.o j r)];rfl
 have i:=h.o;rw[t]at i;replace i:=hid i;clear q n t;refine wk ?_;exact aa i.o
theorem adF{l:List aC}(y:∀x∈l,OkD x.nm)(F:dnM d){a b:AV}(V:l.length<=1100000){L:List Blk}(S:L[rt]?=some (.cells [a,.sl (bE l) l.length c,b])){K:apr}(h:K (.int .i64 (atI l d)) L):
  apq 82 [.ptr rt 0,.sl (d.map aq) d.length cap] L K:=by
 obtain⟨⟨A,ne⟩,i⟩:∃q,SF d=q:=⟨_,rfl⟩;have kk1:Hid (Ctr Tryz.prog 89 [.sl (d.map aq) d.length cap] (.tup [.str A,.int .i64 ne])):=@hid _ (by intro L K q;exact TG F.1 F.2 (by rw[i];exact q));have I:=Em l;by_cases M:ne=0;rotate_left;have g:¬OkD d:=λc=>M (by have:=iP c;rw[i]at this;injection this)
 unfold atI at h;rw[if_neg g]at h;replace h:=hid h;clear i g y F;refine apo tA ?_;refine aj (λm T' L'=>m=1/\T'=[(7,.int .i64 0),(6,.int .i64 ne),(5,.str A),(0,.ptr rt 0)]/\L=L') (CutS (b:=apt _)) ⟨rfl,rfl,rfl⟩ ?_;rintro _ _ _ ⟨rfl,rfl,rfl⟩;refine wk ?_;exact aa h.o;have g:OkD d:=by by_cases c:OkD d;exact c;exact absurd (by rw[i];exact M) (VY c)
 have N:A=bp true d:=by have:=iP g;rw[i]at this;injection this
 subst M;obtain⟨R,v⟩:=apl (plI (l.findIdx? λx=>decide (NK x.nm=NK d)));unfold atI at h;rw[if_pos g,v]at h;replace h:=hid h;replace v:=hid v;have p:=hid (λ(x:aC) (w:x∈l)=>show bp true x.nm=A↔NK x.nm=NK d by rw[N];exact kD (y x w) g);replace y:=hid y;clear i N g F;refine apo tA ?_;refine aj (λm T' L'=>∃k:Nat,m=l.length-k/\k<=l.length/\Hid (∀j,j<k->¬NK (l.getD j default).nm=NK d)/\T'=[(7,.int .i64 (k:Int)),(6,.int .i64 0),(5,.str A),(0,.ptr rt 0)]/\L=L') (CutS (b:=apt _)) ⟨0,rfl,apv _,hid (λj C=>absurd C (arE _)),rfl,rfl⟩ ?_;rintro _ _ L' ⟨k,rfl,U,B,rfl,e⟩;subst e;by_cases t:k<l.length;have g1:(k:Int)<(l.length:Int):=asP;have Q:=apn k asP;have T:k*3+1<(bE l).length:=by rw[I];omega
 obtain⟨_,P,_⟩:=En t;obtain⟨x,w⟩:=apl (l.getD k default);rw[w]at P;have s:x∈l:=by rw[<- w];simp[t]
 have D:=p.o x s;have n:=y.o x s;obtain⟨m,G⟩:=apl (bp true x.nm);have kk2:Hid (Ctr Tryz.prog 89 [.sl (x.nm.map aq) x.nm.length none] (.tup [.str m,.int .i64 0])):=@hid _ (by intro L K q;exact TG n.m.1 n.m.2 (by rw[iP n,G];exact q));rw[G]at D;obtain⟨W,z⟩:=apl (x.nm);rw[z]at P kk2;by_cases r:m=A;have E:R=(k:Int):=by rw[<- v.o,abR t (λj C=>decide_eq_false (B.o j C)) (by rw[w];exact decide_eq_true (D.1 r))];rfl
 have u:=h.o;rw[E]at u;replace u:=hid u;subst r;clear w s B v E D n G z p y;refine wk ?_;exact aa u.o;have O:¬A=m:=λe=>r e.symm
 have H:=hid (λj (C:j<k+1)=>show ¬NK (l.getD j default).nm=NK d from by
  by_cases e:j=k;subst e;rw[w];exact λc=>r (D.2 c)
  exact B.o j asP)
 clear w s B v D n G z p y;refine wk ?_;exact asU asP asS ⟨k+1,rfl,t,H,rfl,rfl⟩;have J:k=l.length:=asP;subst J;have g1:¬(l.length:Int)<(l.length:Int):=asP;have E:R=-1:=by rw[<- v.o,abS (f:=λx:aC=>decide (NK x.nm=NK d)) (l:=l) λj C=>decide_eq_false (B.o j C)];rfl
 have u:=h.o;rw[E]at u;replace u:=hid u;clear B v E p y;refine wk ?_;exact aa u.o
abbrev TKy:=List UInt8×Int×Nat
def kyA(r:TKy):AV×AV×Nat:=(.str r.1,.int .i64 r.2.1,r.2.2)
def gL(nb bn:Int->Nat)(x:aC):AV×AV×Nat:=(.int .i64 x.id,.ptr (nb x.id) 0,bn x.id)
def nC(l:List aC)(x:aC):List AV:=[dnA x.nm,.sl (aG (pth x)) x.nm.length none,atR x.av,.int .i64 (bF (d8 l) (NK x.nm):Nat)]
structure b9(L:List Blk)(iv mn mi:Nat)(nb bn:Int->Nat)(ck ci:Nat)(rs:List TKy)(suf:List Rdn)(last:Int)(l:List aC):Prop where
 v:L[iv]?=some (.cells [dnA suf,.lmap mn,.lmap mi,.int .i64 last])
 n:L[mn]?=some (.map (l.map (gL nb bn)) ck)
 i:L[mi]?=some (.map (rs.map kyA) ci)
 nd:∀x∈l,L[nb x.id]?=some (.cells (nC l x))
 keys:(rs.map (·.1)).Nodup
 mem:∀k id,(∃b,(k,id,b)∈rs)↔∃x∈l,bp true x.nm=k/\x.id=id
 bnd:(l.map λx=>bn x.id).Nodup
 blt:∀x∈l,bn x.id<ck
theorem b9.app{L:List Blk}{iv mn mi:Nat}{nb bn:Int->Nat}{ck ci:Nat}{rs:List TKy}{suf:List Rdn}{last:Int}{l:List aC}(h:b9 L iv mn mi nb bn ck ci rs suf last l)(X:List Blk):b9 (L++X) iv mn mi nb bn ck ci rs suf last l:=by
 have key:∀{i:Nat}{b:Blk},L[i]?=some b->(L++X)[i]?=some b:=λ{i b} e=>by rw[apx (aps.1 e).1];exact e
 exact⟨key h.v,key h.n,key h.i,λx a=>key (h.nd x a),h.keys,h.mem,h.bnd,h.blt⟩
theorem Eh:∀(rs:List TKy) (k:List UInt8) (j:Nat),dH (.str k) (rs.map kyA) j=some ((rs.findIdx? λr=>decide (r.1=k)).map λn=>(j+n,.int .i64 (rs.getD n default).2.1))
 |[],k,j=>rfl
 | r::rs,k,j=>by
   by_cases h:k=r.1
   .subst h;simp[dH,kyA,J3,arn]
   .have h':¬r.1=k:=λe=>h e.symm
    simp only[apX,kyA,dH,J3,decide_eq_false h,arn,decide_eq_false h',apL,if_false];have a:=Eh rs k (j+1);rw[a];cases rs.findIdx? (λr=>decide (r.1=k))with
    |none=>rfl
    |some n=>simp only[apN];rw[show j+1+n=j+(n+1)by omega];rfl
theorem Ef(nb bn:Int->Nat):∀(l:List aC) (id:Int) (j:Nat),dH (.int .i64 id) (l.map (gL nb bn)) j=some ((l.findIdx? λx=>decide (x.id=id)).map λn=>(j+n,.ptr (nb id) 0))
 |[],id,j=>rfl
 | x::l,id,j=>by
   by_cases h:id=x.id
   .subst h;simp[dH,gL,J3,arn]
   .have h':¬x.id=id:=λe=>h e.symm
    simp only[apX,gL,dH,J3,if_true,decide_eq_false h,arn,decide_eq_false h',apL,if_false];have a:=Ef nb bn l id (j+1);rw[a];cases l.findIdx? (λx=>decide (x.id=id))with
    |none=>rfl
    |some n=>simp only[apN];rw[show j+1+n=j+(n+1)by omega]
theorem fR{f:β->Bool}{l:List β}[Inhabited β]:(l.findIdx? f=none/\l.find? f=none)\/∃n,l.findIdx? f=some n/\n<l.length/\l.find? f=some (l.getD n default):=by
 induction l with
 |nil=>exact .inl ⟨rfl,rfl⟩
 | cons x l ih =>
   by_cases h:f x=true
   .exact .inr ⟨0,by simp[arn,h],asQ,by simp[ars,h]⟩
   .rcases ih with⟨b,a⟩|⟨n,b,a,c⟩
    .exact .inl ⟨by simp[arn,h,b],by simp[ars,h,a]⟩
    .exact .inr ⟨n+1,by simp[arn,h,b],by simpa using a,by simp[ars,h,c]⟩
theorem b9.look{L:List Blk}{iv mn mi:Nat}{nb bn:Int->Nat}{ck ci:Nat}{rs:List TKy}{suf:List Rdn}{last:Int}{l:List aC}(h:b9 L iv mn mi nb bn ck ci rs suf last l)(i:TOk suf last l)(o:OkD d):
  (bC l d=0/\atE l d=none/\dH (.str (bp true d)) (rs.map kyA) 0=some none)\/∃j,dH (.str (bp true d)) (rs.map kyA) 0=some (some (j,.int .i64 (bC l d))):=by
 rw[Eh];rcases fR (f:=λr:TKy=>decide (r.1=bp true d)) (l:=rs)with⟨m,g⟩|⟨n,m,w,g⟩;left;have a:atE l d=none:=tJ.2 λ_ x c e=>by obtain⟨b,t⟩:=(h.mem (bp true x.nm) x.id).2 ⟨x,c,rfl,rfl⟩;have:=aq2.1 g _ t;simp only[decide_eq_true_eq]at this;exact this ((kD (i.ok x c) o).2 e)
 exact⟨i.find0.2 a,a,by rw[m];rfl⟩;right;refine⟨n,?_⟩;obtain⟨⟨k,id,b⟩,p⟩:∃r,rs.getD n default=r:=⟨_,rfl⟩;have q:=arl g;have s:k=bp true d:=by have:=arm g;rw[p]at this;simpa using this
 rw[p]at q;obtain⟨x,c,u,v⟩:=(h.mem k id).1 ⟨b,q⟩;have:atE l d=some x:=i.at c o ((kD o (i.ok x c)).1 (by rw[<- s,u]));rw[m];simp only[apN,p,aqA,bC,this,v]
theorem tQ(r:dnB d){L:List Blk}{iv mn mi:Nat}{nb bn:Int->Nat}{ck ci:Nat}{rs:List TKy}{suf:List Rdn}{last:Int}{l:List aC}(u:TOk suf last l)(b:b9 L iv mn mi nb bn ck ci rs suf last l){K:apr}(h:K (.int .i64 (bC l d)) L):
  apq 24 [.ptr iv 0,.sl (d.map aq) d.length cap] L K:=by
 replace h:=hid h;obtain⟨⟨s,e⟩,a⟩:∃q,SF d=q:=⟨_,rfl⟩;have kk1:Hid (Ctr Tryz.prog 58 [.sl (d.map aq) d.length cap] (.tup [.str s,.int .i64 e])):=@hid _ (by intro L K q;exact SG r.1 r.2 (by rw[a];exact q));have x:=b.v;have w:=b.i;by_cases p:e=0;subst p;have f:OkD d:=by by_cases c:OkD d;exact c;exact absurd (by rw[a]) (VY c)
 have k:s=bp true d:=by have:=iP f;rw[a]at this;injection this
 rcases b.look u f with⟨n,_,g⟩|⟨j,g⟩;rw[<- k]at g;rw[n]at h;have m:bT .str (.str s)=true:=rfl;clear a b k;refine apo dF ?_;exact aa h.o;rw[<- k]at g;have m:bT .str (.str s)=true:=rfl;obtain⟨z,t⟩:=apl (bC l d);rw[t]at h g;clear a b k t;refine apo dF ?_;exact aa h.o;have n:bC l d=0:=by refine u.find0.2 (tJ.2 λc=>?_);have:=iP c;rw[a]at this;exact absurd (by injection this) p
 rw[n]at h;clear a b;refine apo dF ?_;exact aa h.o
theorem Ft(l:List aC)(d:List Rdn):(atI l d=-1/\atE l d=none)\/∃n:Nat,n<l.length/\atI l d=n/\atE l d=some (l.getD n default):=by unfold atI atE;by_cases h:OkD d;rw[if_pos h,if_pos h];rcases fR (f:=λx:aC=>decide (NK x.nm=NK d)) (l:=l)with⟨b,a⟩|⟨n,b,a,c⟩;exact .inl ⟨by rw[b];rfl,a⟩;exact .inr ⟨n,a,by rw[b];rfl,c⟩;rw[if_neg h,if_neg h];exact .inl ⟨rfl,rfl⟩
theorem akl(l:List aC)(id:Int):(byI l id=-1/\o7 l id=none)\/∃n:Nat,n<l.length/\byI l id=n/\o7 l id=some (l.getD n default):=by unfold byI o7;rcases fR (f:=λx:aC=>decide (x.id=id)) (l:=l)with⟨b,a⟩|⟨n,b,a,c⟩;exact .inl ⟨by rw[b];rfl,a⟩;exact .inr ⟨n,a,by rw[b];rfl,c⟩
theorem alB{suf:List Rdn}{last:Int}{l:List aC}(J:TOk suf last l){id:Int}{a b:AV}(V:l.length<=1100000){L:List Blk}(U:L[rt]?=some (.cells [a,.sl (bE l) l.length c,b])){K:apr}(h:K (.int .i64 (iQ l id:Nat)) L):
  apq 130 [.ptr rt 0,.int .i64 id] L K:=by
 have kk1:Hid (∀{K:apr},K (.int .i64 (byI l id)) L->apq 186 [.ptr rt 0,.int .i64 id] L K):=@hid _ (by intro K q;exact alJ V U q);have E:=Em l;unfold iQ at h;rcases akl l id with⟨D,F⟩|⟨n,I,D,F⟩;rw[F]at h;rw[D]at kk1;replace h:=hid h;clear D F J;refine apo pg ?_;refine aj (λm T' L'=>∃k:Nat,m=l.length-k/\k<=l.length/\T'=[(16,.int .i64 (k:Int)),(15,.int .i64 l.length),(6,.int .i64 0),(5,.int .i64 (-1)),(0,.ptr rt 0)]/\L=L') (CutS (b:=apt _)) ⟨0,rfl,apv _,rfl,rfl⟩ ?_;rintro _ _ L' ⟨k,rfl,S,rfl,e⟩;subst e;by_cases g:k<l.length;have g1:(k:Int)<(l.length:Int):=asP;have T:=apn k asP;refine wk ?_;exact asU asP asS ⟨k+1,rfl,g,rfl,rfl⟩;have x:k=l.length:=asP;subst x;have g1:¬(l.length:Int)<(l.length:Int):=asP;refine wk ?_;exact aa h.o;rw[F]at h;rw[D]at kk1;have B:l.getD n default∈l:=by simp[I]
 simp only at h;rw[J.kids B]at h;obtain⟨_,Y,_⟩:=En I;have r:=J.ok _ B;obtain⟨f,H⟩:=apl ((l.getD n default).nm);rw[H]at Y h r;have e4:n*3+1<(bE l).length:=by rw[E];omega
 have g0:(0:Int)<=(n:Int):=asP;obtain⟨R,v⟩:=apl ((l.filter λk=>decide (k.nm.length=f.length+1)&&cC k.nm f).length);rw[v]at h;have p:∀k,((l.take k).filter λk=>decide (k.nm.length=f.length+1)&&cC k.nm f).length<=l.length:=λk=>apR (aqL _ _) (by simp;omega)
 replace p:=hid p;replace h:=hid h;replace v:=hid v;have X:=hid J.ok;have G:Hid (∀y∈l,∀{K:apr},K (.bool (cC y.nm f)) L->apq 38 [dnA y.nm,dnA f] L K):=@hid _ (by intro y C K q;exact Kf (X.o y C).m r.m q);have hw:IntKind.i64.wrap ((f.length:Int)+1)=(f.length:Int)+1:=by have:=r.len;exact ae asP asP
 clear D F J B H r;refine apo pg ?_;refine aj (λm T' L'=>∃(k s:Nat),m=l.length-k/\k<=l.length/\Hid (((l.take k).filter λk=>decide (k.nm.length=f.length+1)&&cC k.nm f).length=s)/\T'=[(16,.int .i64 (k:Int)),(15,.int .i64 l.length),(6,.int .i64 (s:Int)),(5,.int .i64 (n:Int)),(0,.ptr rt 0)]/\L=L') (CutS (b:=apt _)) ⟨0,0,rfl,apv _,hid rfl,rfl,rfl⟩ ?_;rintro _ _ L' ⟨k,s,rfl,S,A,rfl,e⟩;subst e;by_cases g:k<l.length;have g1:(k:Int)<(l.length:Int):=asP;have T:=apn k asP;obtain⟨_,Q,_⟩:=En g;have Z:k*3+1<(bE l).length:=by rw[E];omega
 have i:l.getD k default∈l:=by simp[g]
 have j:l.take (k+1)=l.take k++[l.getD k default]:=by rw[apK g];simp[g]
 obtain⟨y,C⟩:=apl (l.getD k default);rw[C]at Q i j;have kk2:=@hid _ (λ{K:apr}=>G.o y i (K:=K));have M:=p.o k;rw[A.o]at M;have g3:=apn s asP;have d:((l.take (k+1)).filter λk=>decide (k.nm.length=f.length+1)&&cC k.nm f).length=s+(if y.nm.length=f.length+1 then if cC y.nm f=true then 1 else 0 else 0):=by rw[j,asv,apB,A.o];congr 1;by_cases w:y.nm.length=f.length+1;cases c2:cC y.nm f<;>simp[w,c2];simp[w]
 obtain⟨P,t⟩:=apl (y.nm);rw[t]at Q kk2 d;obtain⟨u,O⟩:=apl (cC P f);rw[O]at kk2 d;by_cases w:P.length=f.length+1;have W:((P.length:Int)=(f.length:Int)+1):=asP;rw[if_pos w]at d;cases u with
 | true =>
   replace d:=hid d;clear A i j C t O G w M v;refine wk ?_;exact asU asP asS ⟨k+1,s+1,rfl,g,hid d.o,rfl,rfl⟩
 | false =>
   replace d:=hid d;clear A i j C t O G w M v;refine wk ?_;exact asU asP asS ⟨k+1,s,rfl,g,hid d.o,rfl,rfl⟩
 have W:¬((P.length:Int)=(f.length:Int)+1):=asP;rw[if_neg w]at d;replace d:=hid d;clear A i j C t O G w M v;refine wk ?_;exact asU asP asS ⟨k+1,s,rfl,g,hid d.o,rfl,rfl⟩;have x:k=l.length:=asP;subst x;have g1:¬(l.length:Int)<(l.length:Int):=asP;have z:=A.o;rw[apJ,v.o]at z;have N:=h.o;rw[z]at N;replace N:=hid N;clear A z v G;refine wk ?_;exact aa N.o
theorem b9.node{L:List Blk}{iv mn mi:Nat}{nb bn:Int->Nat}{ck ci:Nat}{rs:List TKy}{suf:List Rdn}{last:Int}{l:List aC}(h:b9 L iv mn mi nb bn ck ci rs suf last l)(id:Int):
  (o7 l id=none/\dH (.int .i64 id) (l.map (gL nb bn)) 0=some none)\/∃x n,o7 l id=some x/\x∈l/\x.id=id/\dH (.int .i64 id) (l.map (gL nb bn)) 0=some (some (n,.ptr (nb id) 0))/\L[nb id]?=some (.cells (nC l x)):=by
 rw[Ef];unfold o7;rcases fR (f:=λx:aC=>decide (x.id=id)) (l:=l)with⟨b,e⟩|⟨n,b,e,a⟩;exact .inl ⟨e,by rw[b];rfl⟩;right;have d:=arl a;have c:(l.getD n default).id=id:=by have:=arm a;simpa using this
 refine⟨_,n,a,d,c,by rw[b];simp,?_⟩;have:=h.nd _ d;rwa[c]at this
theorem ac2{b:List Rdn}(c:dnB d)(a:dnB b)(h:K (.bool (kH d b)) L):
  apq 61 [.sl (d.map aq) d.length cap,.sl (b.map aq) b.length cap'] L K:=by
 have kk1:Hid (Ctr Tryz.prog 62 [.sl (d.map aq) d.length cap,.sl (b.map aq) b.length cap'] (.bool (cC d b))):=@hid _ (by intro L K q;exact Tv c a q);unfold kH at h;obtain⟨u,f⟩:=apl (cC d b);rw[f]at h kk1;have e:decide (d.length=b.length)=decide ((d.length:Int)=(b.length:Int)):=by simp only[Int.natCast_inj]
 rw[e]at h;replace h:=hid h;clear f c a e;refine apo abe ?_;exact aa h.o
theorem aiR{r:Rul}(s:0<=r.who/\r.who<=4){who ent:List Rdn}{a l:Option Nat}(b:dnB who)(k:dnB ent)(h:K (.bool (aiQ r who ent)) L):
  apq 63 [.agg (rlC r),.sl (who.map aq) who.length a,.sl (ent.map aq) ent.length l] L K:=by
 have g:dnB (dW r.dn).1:=⟨by have:=(OM r.dn).1;omega,λx n=>by have:=(OM r.dn).2 x n;omega⟩;have kk1:Hid (Ctr Tryz.prog 61 [.sl (who.map aq) who.length a,.sl (ent.map aq) ent.length l] (.bool (kH who ent))):=@hid _ (λ{L K} q=>ac2 b k q);have kk2:Hid (Ctr Tryz.prog 61 [.sl (who.map aq) who.length a,.sl ((dW r.dn).1.map aq) (dW r.dn).1.length none] (.bool (kH who (dW r.dn).1))):=@hid _ (λ{L K} q=>ac2 b g q);have kk3:Hid (Ctr Tryz.prog 62 [.sl (who.map aq) who.length a,.sl ((dW r.dn).1.map aq) (dW r.dn).1.length none] (.bool (cC who (dW r.dn).1))):=@hid _ (λ{L K} q=>Tv b g q);obtain⟨w,d,wh,at_,rg,al⟩:=r;simp only[rlC,Yp,aqa,apZ]at *;obtain⟨y,f⟩:=apl (kH who ent);obtain⟨v,c⟩:=apl (kH who (dW d).1);obtain⟨u,i⟩:=apl (cC who (dW d).1);obtain⟨P,e⟩:=apl ((dW d).1);obtain⟨Q,j⟩:=apl ((dW wh).1);have p:decide ((0:Int)<(who.length:Int)) = !decide (who=[]):=by cases who<;>simp<;>omega
 unfold aiQ at h;rw[f,c,i]at h;rw[f]at kk1;rw[c]at kk2;rw[i]at kk3;rw[e]at kk2 kk3;rw[e,j];obtain⟨z,m⟩:=apl ((!decide (who=[])));rw[m]at h p;clear f c i e j m g b k;have t:w=0\/w=1\/w=2\/w=3\/w=4:=asP;clear s;rcases t with rfl|rfl|rfl|rfl|rfl
 all_goals
  simp at h;replace h:=hid h;refine apo Oz ?_;exact ac rfl h.o
theorem akD{A B C:Prop}[Decidable A][Decidable B][Decidable C]:decide (¬A/\(B\/C))=((!decide A)&&(decide B ||decide C)):=by by_cases A<;>by_cases B<;>simp[*]
theorem amK{adm:List Rdn}{rs:List Rul}{ca:Option Nat}{ib:Nat}{who ent:List Rdn}{I H:Option Nat}{n:List UInt8}{a:Int}(W:Y5 a)(j:∀r∈rs,0<=r.who/\r.who<=4/\1<=r.rg/\r.rg<=15)(p:∀r∈rs,bS r.at_)(hn:bS n)(hl:rs.length<=1100000)(ha:dnB adm)(Y:dnB who)(V:dnB ent){L:List Blk}(hL:L[ib]?=some (.cells [.sl (adm.map aq) adm.length ca,.sl (kr rs) rs.length c])){K:apr}(h:K (.bool (ajB adm rs who ent n a)) L):
  apq 26 [.ptr ib 0,.sl (who.map aq) who.length I,.sl (ent.map aq) ent.length H,.str n,.int .i64 a] L K:=by
 have kk1:Hid (Ctr Tryz.prog 36 [.sl (who.map aq) who.length I] (kG (prS who))):=@hid _ (λ{L K} q=>lM Y.1 Y.2 q);have kk2:Hid (Ctr Tryz.prog 36 [.sl (ent.map aq) ent.length H] (kG (prS ent))):=@hid _ (λ{L K} q=>lM V.1 V.2 q);have kk3:Hid (Ctr Tryz.prog 61 [.sl (who.map aq) who.length I,.sl (adm.map aq) adm.length ca] (.bool (kH who adm))):=@hid _ (λ{L K} q=>ac2 Y ha q);obtain⟨⟨p1,N⟩,E⟩:∃q,prS who=q:=⟨_,rfl⟩;obtain⟨⟨p2,T⟩,F⟩:∃q,prS ent=q:=⟨_,rfl⟩;have o1:decide (OkD who)=decide (N=0):=by rw[arS];simp[OkD,E]
 have o2:decide (OkD ent)=decide (T=0):=by rw[arS];simp[OkD,F]
 rw[E]at kk1;rw[F]at kk2;unfold ajB at h;rw[o1,o2]at h;simp only[kG]at kk1 kk2;have e0:decide ((0:Int)<(who.length:Int)) = !decide (who=[]):=by cases who<;>simp<;>omega
 obtain⟨z,hz⟩:=apl ((!decide (who=[])));obtain⟨s,hs⟩:=apl (kH who adm);rw[hs]at kk3 h;rw[hz]at e0 h;clear E F o1 o2 hz hs;have ad:decide (((¬a=1/\¬a=2)/\¬a=4)/\¬a=8)=false:=by rcases W with rfl|rfl|rfl|rfl<;>rfl
 by_cases c1:N=0/\T=0;obtain⟨rfl,rfl⟩:=c1;simp only[decide_true,ap0]at h;rcases hb:z&&s with _|_;rw[hb,aqG]at h;replace h:=hid h;replace j:=hid j;replace p:=hid p;replace W:=hid W;obtain⟨R,G⟩:=apl (ahD rs who ent n a);rw[G]at h;replace G:=hid G;have ai:=hid hL;refine apo lY ?_;refine aj (λm T' L'=>∃(k:Nat) (X:List Blk),m=rs.length-k/\k<=rs.length/\Hid (ahD (rs.drop k) who ent n a=R)/\T'=[(69,.int .i64 (k:Int)),(68,.int .i64 rs.length),(67,.sl (kr rs) rs.length c),(0,.ptr ib 0),(1,.sl (who.map aq) who.length I),(2,.sl (ent.map aq) ent.length H),(3,.str n),(4,.int .i64 a)]/\L'=L++X) asT ⟨0,[],rfl,apv _,G,rfl,asQ⟩ ?_;clear G hL kk1 kk2 kk3 hb ad e0;rintro _ _ _ ⟨k,X,rfl,hk,U,rfl,rfl⟩;by_cases l:k<rs.length;have g1:(k:Int)<(rs.length:Int):=asP;have g2:=apn k asP;have e3:=alz l;have e4:k*8+8<=(kr rs).length:=by rw[ai4];omega
 obtain⟨r,y⟩:=apl (rs.getD k default);have hm:r∈rs:=by rw[<- y];simp[l]
 have J:rs.drop k=r::rs.drop (k+1):=by rw[apY l,<- y];simp[l]
 have e:=U.o;rw[J,ahC]at e;rw[y]at e3;have f:=j.o r hm;have i:=(akz f.2.2.1 f.2.2.2 W.o).1;have A:=p.o r hm;have hw:dnB (dW r.wh).1:=⟨by have:=(OM r.wh).1;omega,λx hx=>by have:=(OM r.wh).2 x hx;omega⟩;have kk1:Hid (Ctr Tryz.prog 46 [.str r.at_] (.str (ak r.at_))):=@hid _ (λ{L K} q=>jD A q);have kk2:Hid (Ctr Tryz.prog 46 [.str n] (.str (ak n))):=@hid _ (λ{L K} q=>jD hn q);have kk3:Hid (Ctr Tryz.prog 62 [.sl (ent.map aq) ent.length H,.sl ((dW r.wh).1.map aq) (dW r.wh).1.length none] (.bool (cC ent (dW r.wh).1))):=@hid _ (λ{L K} q=>Tv V hw q);have kk4:Hid (Ctr Tryz.prog 63 [.agg (rlC r),.sl (who.map aq) who.length I,.sl (ent.map aq) ent.length H] (.bool (aiQ r who ent))):=@hid _ (λ{L K} q=>aiR ⟨f.1,f.2.1⟩ Y V q);unfold am6 at e;obtain⟨S,C⟩:=apl (ak r.at_);obtain⟨O,D⟩:=apl (ak n);obtain⟨u,Z⟩:=apl (cC ent (dW r.wh).1);obtain⟨v,hv⟩:=apl (aiQ r who ent);obtain⟨bt,B⟩:=apl (ami r.rg a);rw[C,D,Z,hv,B]at e;rw[C]at kk1;rw[D]at kk2;rw[Z]at kk3;rw[hv]at kk4;rw[B]at i;clear C D Z hv B J U A f hw hm y;obtain⟨w,d,wh,at_,rg,al⟩:=r;obtain⟨P,hP⟩:=apl ((dW d).1);obtain⟨Q,hQ⟩:=apl ((dW wh).1);simp only[rlC,Yp,aqa,apZ]at e3 kk1 kk2 kk3 kk4 e i;rw[hP,hQ]at e3 kk4;rw[hQ]at kk3;clear hP hQ;have ht:(decide (¬IntKind.i64.wrap ((BitVec.ofInt IntKind.i64.bits rg &&& BitVec.ofInt IntKind.i64.bits a).toNat:Int)=0/\(at_=[]\/S=O))&&u&&v)=(bt&&(decide (at_=[]) ||decide (S=O))&&u&&v):=by rw[akD];exact congrArg (λb=>(b&&(decide (at_=[]) ||decide (S=O)))&&u&&v) i
 obtain⟨t,M⟩:=apl ((bt&&(decide (at_=[]) ||decide (S=O))&&u&&v));rw[M]at ht e;clear i M;replace e:=hid e;cases t with
 | false =>
   refine wk ?_;exact asU asP asS ⟨k+1,_,rfl,l,hid (by simpa using e.o),rfl,rfl⟩
 | true =>
   refine wk ?_;exact ac rfl (by have:=e.o;rw[if_pos rfl]at this;rw[this];exact h.o)
 have g1:¬(k:Int)<(rs.length:Int):=asP;have e:=U.o;rw[aro asP]at e;replace e:=hid e;clear U;refine wk ?_;exact ac rfl (by have:=e.o;rw[<- this]at h;exact h.o);rw[hb,ari]at h;replace h:=hid h;simp only[apw]at hb;obtain⟨rfl,rfl⟩:=hb;clear j p;refine apo lY ?_;exact aa h.o;have g:(decide (N=0)&&decide (T=0))=false:=by rw[<- arZ];exact decide_eq_false c1
 rw[g,aqg]at h;replace h:=hid h;have g2:decide (¬N=0\/¬T=0)=true:=by simp only[decide_eq_true_eq];omega
 clear g j p;refine apo lY ?_;exact aa h.o
theorem agc{b:List Rdn}(e:dnB d)(a:dnB b){v:Nat}(h:K (.bool (kH d b)) L):
  apq 123 [.ptr v 0,.sl (d.map aq) d.length cap,.sl (b.map aq) b.length cap'] L K:=by
 have kk1:Hid (Ctr Tryz.prog 62 [.sl (d.map aq) d.length cap,.sl (b.map aq) b.length cap'] (.bool (cC d b))):=@hid _ (by intro L K q;exact Tv e a q);unfold kH at h;obtain⟨u,f⟩:=apl (cC d b);rw[f]at h kk1;by_cases c:d.length=b.length;have g:(d.length:Int)=(b.length:Int):=asP;rw[decide_eq_true c,ap0]at h;replace h:=hid h;clear f e a c;refine apo rz ?_;exact aa h.o;have g:¬(d.length:Int)=(b.length:Int):=asP;rw[decide_eq_false c,aqg]at h;replace h:=hid h;clear f e a c;refine apo rz ?_;exact aa h.o
theorem ahm{b:List Rdn}(e:dnM d)(a:dnM b)(h:K (.bool (kH d b)) L):
  apq 129 [.sl (d.map aq) d.length cap,.sl (b.map aq) b.length cap'] L K:=by
 have kk1:Hid (Ctr Tryz.prog 38 [.sl (d.map aq) d.length cap,.sl (b.map aq) b.length cap'] (.bool (cC d b))):=@hid _ (by intro L K q;exact Kf e a q);unfold kH at h;obtain⟨u,f⟩:=apl (cC d b);rw[f]at h kk1;by_cases c:d.length=b.length;have g:(d.length:Int)=(b.length:Int):=asP;rw[decide_eq_true c,ap0]at h;replace h:=hid h;clear f e a c;refine apo JZ ?_;exact aa h.o;have g:¬(d.length:Int)=(b.length:Int):=asP;rw[decide_eq_false c,aqg]at h;replace h:=hid h;clear f e a c;refine apo JZ ?_;exact aa h.o
theorem ang(i:dnM d){L:List Blk}{K:apr}(h:¬OkD d->K (.tup [.nilptr,.int .i64 (prS d).2]) L)(l:d=[]->K (.tup [.nilptr,.int .i64 2]) L)(k:OkD d->d≠[]->K (.tup [.ptr L.length 0,.int .i64 0]) (L++[.cells [dnA d,.sl [] 0 (some 0),.int .i64 0]])):
  apq 32 [.sl (d.map aq) d.length cap] L K:=by
 obtain⟨⟨s,e⟩,a⟩:∃q,prS d=q:=⟨_,rfl⟩;have kk1:Hid (Ctr Tryz.prog 37 [.sl (d.map aq) d.length cap] (.tup [.str s,.int .i64 e])):=@hid _ (by intro L K q;exact rG i.1 i.2 (by rw[a];exact q));have kk2:Hid (Ctr Tryz.prog 40 [.sl (d.map aq) d.length cap] (dnA d)):=@hid _ (by intro L K q;exact agh i.b.1 i.b.2 q);have j:OkD d↔e=0:=by unfold OkD;rw[a]
 rw[a]at h;by_cases n:e=0;rotate_left;replace h:=hid (h λc=>n (j.1 c));clear a j l k i;refine apo tB ?_;exact aa h.o;subst n;by_cases m:d.length=0;have f:=aqc.1 m;replace h:=hid (l f);subst f;clear a j l k i m;refine apo tB ?_;exact aa h.o;have g:¬(d.length:Int)=0:=asP;replace h:=hid (k (j.2 rfl) λc=>m (by rw[c];rfl));clear a j l k i;refine apo tB ?_;exact aa h.o
theorem ak9(f:dnB d){L:List Blk}{K:apr}(h:¬OkD d->K (.tup [.nilptr,.int .i64 (prS d).2]) L)(k:d=[]->K (.tup [.nilptr,.int .i64 2]) L)(j:OkD d->d≠[]->K (.tup [.ptr (L.length+3) 0,.int .i64 0]) (L++[.map [] 0,.map [] 0,.cells [dnA d,.lmap L.length,.lmap (L.length+1),.int .i64 0],.cells [.ptr (L.length+2) 0]])):
  apq 30 [.sl (d.map aq) d.length cap] L K:=by
 obtain⟨⟨s,e⟩,a⟩:∃q,prS d=q:=⟨_,rfl⟩;have kk1:Hid (Ctr Tryz.prog 36 [.sl (d.map aq) d.length cap] (.tup [.str s,.int .i64 e])):=@hid _ (by intro L K q;exact lM f.1 f.2 (by rw[a];exact q));have kk2:Hid (∀{c:Option Nat}{L:List Blk}{K:apr},K (dnA d) L->apq 59 [.sl (d.map aq) d.length cap,.sl [] 0 c] L K):=@hid _ (by intro c L K q;exact acF f.1 f.2 q);have i:OkD d↔e=0:=by unfold OkD;rw[a]
 rw[a]at h;by_cases m:e=0;rotate_left;replace h:=hid (h λc=>m (i.1 c));clear a i k j f;refine apo wn ?_;exact aa h.o;subst m;by_cases l:d.length=0;have b:=aqc.1 l;replace h:=hid (k b);subst b;clear a i k j f l;refine apo wn ?_;exact aa h.o;have g:¬(d.length:Int)=0:=asP;replace h:=hid (j (i.2 rfl) λc=>l (by rw[c];rfl));clear a i k j f;refine apo wn ?_;exact aa h.o
theorem acy{b:List Rdn}(s:d.length<=1100000)(m:b.length<=1100000)(i:k<=d.length)(h:K (dnA (iB d k b)) L):
  apq 83 [.sl (d.map aq) d.length cap,.int .i64 (k:Int),.sl (b.map aq) b.length cap'] L K:=by
 obtain⟨j,c⟩:=apl (d.length-k);have g1:IntKind.i64.wrap ((d.length:Int)-(k:Int))=(j:Int):=by rw[ae asP asP];omega
 have t:(j:Int)<=(d.length:Int):=asP;have l1:(List.take j (d.map aq)).length=j:=by simp;omega
 have q:AV.frzL (List.take j (d.map aq))=(d.take j).map aq:=by rw[<- asb,bB]
 have l:AV.frzL (b.map aq)=b.map aq:=bB b;have n:(b.map aq).all AV.one=true:=by rw[apF];intro a g;obtain⟨r,_,rfl⟩:=apz.1 g;rfl
 have e:dnA (iB d k b)=.sl ((d.take j).map aq++b.map aq) (j+b.length) none:=by unfold dnA iB;rw[c,ap1,apB,aqK,Nat.min_eq_left asP]
 rw[e]at h;have p:j<=1100000:=asP;replace h:=hid h;clear e c;refine apo W0 ?_;refine aY ?_;simp only[AV.frz,<- ap1,bB];have f:=h.o;rw[<- ap1]at f;exact ac (by simp only[AV.refs,fD]) f
section
variable {P:Program}{w0:World}{S0:SB}{N:Nat}{own:Nat->Nat->Nat}{Q:Exit->Tm->List Blk->Prop}{T:Tm}{L:List Blk}
theorem afu{c:Code}{g:Opd}{ps:List Nat}{x y:bP}(hc:bc P N own c=some (.rangeF g ps x y)):
  ∃g0 ps0 ca cb,c=.rangeFunc g0 ps0 ca cb/\bV g0=some g/\ps0.toList=ps/\bc P N own ca=some x/\bc P N own cb=some y/\x.hasRF=false/\y.hasRF=false/\∀p∈ps,p<N:=by
 cases c
 case rangeFunc g0 ps0 ca cb =>
  simp only[bc]at hc;split at hc<;>try cases hc
  rename_i g1 x1 y1 h1 h2 h3;split at hc<;>cases hc;rename_i hb;simp only[apw,aqd,Array.all_eq_true_iff_forall_mem,decide_eq_true_eq]at hb
  grind
 case region id ops draw =>
  cases draw<;>simp only[bc]at hc
  all_goals
   (repeat' split at hc)
   all_goals (first|(cases hc;done)|(simp only[ap6]at hc;obtain⟨_,_,hc⟩:=hc;cases hc;done)|(simp only[aq3]at hc;obtain⟨_,_,hc⟩:=hc;split at hc<;>cases hc;done))
 all_goals
  simp only[bc]at hc
  (repeat' split at hc)
  all_goals (first|(cases hc;done)|(simp only[ap6]at hc;obtain⟨_,_,hc⟩:=hc;cases hc;done))
def Ss:List Nat->List AV->Tm->Tm
 |p::ps,a::as',T=>Ss ps as' ((p,a)::T)
 |_,_,T=>T
theorem aaE{E:Env}:∀(ps:List Nat) (b:List AV) (vs:List Value) (T:Tm) (tm:Array Value),ps.length=b.length->VRL E b vs->(∀p∈ps,p<tm.size)->(∀t v,ay T t=some v->VR E v (tm.getD t undef)) ->
  ∀t v,ay (Ss ps b T) t=some v->VR E v (((ps.zip vs).foldl (λtm (p:Nat×Value)=>tm.setIfInBounds p.1 p.2) tm).getD t undef)
 |[],[],vs,T,tm,_,_,_,h,t,v,ht=>by simpa[Ss]using h t v (by simpa[Ss]using ht)
 |[],_::_,_,_,_,hl,_,_,_,_,_,_=>by simp at hl
 |_::_,[],_,_,_,hl,_,_,_,_,_,_=>by simp at hl
 | p::ps,a::b,vs,T,tm,hl,hv,hp,h,t,v,ht=>by
   obtain⟨x,xs,rfl,f,e⟩:=hv;refine aaE ps b xs ((p,a)::T) (tm.setIfInBounds p x) (by simpa using hl) e (λq d=>by simpa using hp q (by simp[d])) (λt' g c=>?_) t v (by simpa[Ss]using ht);simp only[ay]at c;split at c
   .simp_all
   simp_all
theorem afO(l:List (Nat×Value)):∀tm:Array Value,(l.foldl (λtm (p:Nat×Value)=>tm.setIfInBounds p.1 p.2) tm).size=tm.size:=by
 induction l with
 |nil=>intro tm;rfl
 |cons a l ih=>intro tm;rw[aqt,ih];simp
def api(i:Nat)(b0 b1:Blk)(K:AV->List Blk->Prop)(e:Exit)(T:Tm)(L:List Blk):Prop:=e=.normal/\L[i]?=some b0/\K (.bool true) (L.set i b1)
theorem adc{i:Nat}{fn:FuncId}{ps:List Nat}{ca cb:Code}{args:List AV}{K:AV->List Blk->Prop}{x y:bP}(hL:L[i]?=some (.lrec T N fn ps ca cb false))(hx:bc P N own ca=some x.raw)(hy:bc P N own cb=some y.raw)(hfx:x.hasRF=false)(hfy:y.hasRF=false)(hlen:ps.length=args.length)(hps:∀p∈ps,p<N)(h:AW P N own x (aeM (λT1 L1=>L1[i]?=some (.lrec T N fn ps ca cb false)/\AW P N own y (api i (.lrec T N fn ps ca cb true) (.lrec T N fn ps ca cb false) K) T1 (L1.set i (.lrec T N fn ps ca cb true))) (λ_ _ _=>False)) (Ss ps args T) L):abi P i args L K:=by
 intro w0 S0 E w vs hR hv c hc;have hB:=hR.blk i _ hL;obtain⟨c',D,tm,h1,h2,h3,h4,h5⟩:=hB;rw[hc]at h1;cases h1;have hvl:=hv.length;have hyd:=run_yield (P:=P) (args:=⟨vs⟩) h2 (by simp[hvl,hlen]);refine⟨fn,_,ca,cb,hyd,roundIn_of_wpIn (F:=gR none) (n:=0) trivial ?_⟩;have hst:St w ⟨Wr E L,w.heap.size⟩ N E (Ss ps args T) L {tmps:=((⟨ps⟩:Array Tmp).zip ⟨vs⟩).foldl (λtmps (t,a)=>tmps.setIfInBounds t a) tm,defers:=[]} w:=by
  have e:((⟨ps⟩:Array Tmp).zip ⟨vs⟩).foldl (λtmps (t,a)=>tmps.setIfInBounds t a) tm=(ps.zip vs).foldl (λtm (p:Nat×Value)=>tm.setIfInBounds p.1 p.2) tm:=by simp
  refine⟨hR.enter _,λt v ht=>?_,?_,aeP.nil (apt _)⟩;simp only[e];exact aaE ps args vs T tm hlen hv (λp hp=>by rw[h4];exact hps p hp) h5 t v ht;simp only[e];rw[afO];exact h4
 refine wpIn_mono (h ca hx (some c.blk) (λe=>by rw[hfx]at e;cases e) w _ E _ w hst) λe a1 wA ⟨w1,S1,E1,T1,L1,b1,le1,q1,st1⟩=>?_
 cases e
 case normal =>
  obtain⟨hL1,hAW⟩:=q1;have hc1:=le1.loc _ _ hc;have hB1:=st1.1.blk i _ hL1;obtain⟨c1,D1,tm1,k1,k2,k3,k4,k5⟩:=hB1;rw[hc1]at k1;cases k1;have hlt1:c.blk<wA.heap.size:=(aqh.1 k2).1;refine⟨_,run_beginRound k2 rfl,?_⟩;have st2:St w1 S1 N E1 T1 (L1.set i (.lrec T N fn ps ca cb true)) a1 (wA.putObj c.blk (.loop {state:=.busy,pending:=none,fn:=fn,tmps:=tm1,params:=⟨ps⟩,assign:=ca,body:=cb,defers:=D1})):=by refine⟨st1.1.turn hL1 rfl hc1 asQ (λb hb=>arY hb) rfl rfl rfl ⟨c,D1,tm1,hc1,by rw[World.putObj_heap_same hlt1];rfl,k3,k4,k5⟩ (λ_ _ e=>by cases e),st1.2⟩
  refine wpIn_mono (hAW cb hy (some c.blk) (λe=>by rw[hfy]at e;cases e) w1 S1 E1 a1 _ st2) λe a2 w4 ⟨w3,S3,E3,T2,L2,b3,le3,q3,st3⟩=>?_
  obtain⟨rfl,hL2,hK⟩:=q3;have hc3:=le3.loc _ _ hc1;have hB3:=st3.1.blk i _ hL2;obtain⟨c3,D3,tm3,m1,m2,m3,m4,m5⟩:=hB3;rw[hc3]at m1;cases m1;have hlt3:c.blk<w4.heap.size:=(aqh.1 m2).1;refine⟨_,_,run_endRound none m2,E3,_,.bool true,_,rfl,le1.trans le3,hK,rfl,hR.back ((b1.trans b3).rel ?_)⟩;exact st3.1.turn hL2 rfl hc3 asQ (λb hb=>arY hb) rfl rfl rfl ⟨c,D3,tm3,hc3,by rw[World.putObj_heap_same hlt3];simp,m3,m4,m5⟩ (λ_ _ e=>by cases e)
 all_goals exact q1
theorem Xp{g:Opd}{ps:List Nat}{x y:bP}{f:FuncId}{caps:List AV}(he:∀args w,(callFunc f args).run P w=.ok (.enter f args) w)(hg:evX T g=some (.func f caps))(h:∀fn ca cb,bc P N own ca=some x.raw->bc P N own cb=some y.raw->x.hasRF=false->y.hasRF=false->(∀p∈ps,p<N) ->
   af P f (.yld L.length::caps) (L++[.lrec T N fn ps ca cb false]) λ_ L'=>L'[L.length]?=some (.lrec T N fn ps ca cb false)/\Q .normal T (L'.set L.length .dead)):
  AW P N own (.rangeF g ps x y) Q T L:=λc hc r hr w0 S0 E a w hst=>by
 obtain⟨g0,ps0,ca,cb,rfl,hg0,hps0,hca,hcb,hfx,hfy,hps⟩:=afu hc;rw[bP.hasRF_raw]at hfx hfy;have hrn:r=none:=hr rfl;subst hrn;obtain⟨hR,hT,hN,hMk⟩:=hst;have hgv:=ao hg0 hg hT;simp only[VR]at hgv;obtain⟨lb,hgv,hlb⟩:=hgv;refine wpIn_rangeFunc λfn _=>?_
 have ha:∀(v:World) (o:Obj),(v.alloc o)={v with heap:=v.heap.push o}:=λ_ _=>rfl
 have hR0:Rel w0 S0 E L {w with heap:=w.heap.push (.deferred (some []))}:=hR.grown ⟨λb hb=>by show(w.heap.push _)[b]?=_;rw[aqP hb,<- aqp hb],asQ,rfl,rfl,rfl⟩
 obtain⟨rec,hrec⟩:∃rec:Loop,rec={state:=.ready,pending:=none,fn,tmps:=a.tmps,params:=ps0,assign:=ca,body:=cb,defers:=w.heap.size}:=⟨_,rfl⟩;obtain⟨E1,hE1⟩:∃E1:Env,E1={E with loc:=λi=>if i=L.length then some ⟨w.heap.size+1,0,0⟩else E.loc i}:=⟨_,rfl⟩;have hl1:E1.loc L.length=some ⟨w.heap.size+1,0,0⟩:=by rw[hE1];simp
 have leE:E.le E1:=⟨λ_ _ _ x=>by rw[hE1];exact x,λi c x=>by rw[hE1];show(if i=L.length then _ else E.loc i)=_;rw[if_neg (λe=>by rw[hR.fresh i asP]at x;cases x)];exact x,λi t x=>⟨t,by rw[hE1];exact x,.inl rfl⟩⟩
 obtain⟨le1,hR1⟩:=hR0.push (.loop rec) (.lrec T N fn ps ca cb false) ⟨w.heap.size+1,0,0⟩ asQ rfl (by rw[<- hE1];refine⟨⟨w.heap.size+1,0,0⟩,w.heap.size,a.tmps,hl1,?_,rfl,hN,λt v hv=>VR.mono leE _ _ (hT t v hv)⟩;show((w.heap.push _).push _)[w.heap.size+1]?=_;rw[Array.getElem?_push,if_pos asQ,hrec,<- hps0];rfl)
 rw[<- hE1]at le1 hR1;obtain⟨W1,hW1⟩:∃W1:World,W1={({w with heap:=w.heap.push (.deferred (some []))}:World)with heap:=(w.heap.push (.deferred (some []))).push (.loop rec)}:=⟨_,rfl⟩;rw[<- hW1]at hR1;have hWs:W1.heap.size=w.heap.size+2:=by rw[hW1];simp
 have hWl:W1.heap[w.heap.size+1]?=some (.loop rec):=by rw[hW1];show((w.heap.push _).push _)[w.heap.size+1]?=_;rw[Array.getElem?_push,if_pos asQ]
 have hWd:W1.heap[w.heap.size]?=some (.deferred (some [])):=by rw[hW1];show((w.heap.push _).push _)[w.heap.size]?=_;rw[aqP asQ];simp
 have hcall:=h fn ca cb hca hcb hfx hfy hps W1 ⟨Wr E1 (L++[.lrec T N fn ps ca cb false]),S0.B⟩ E1 W1 (.func (.yield (w.heap.size+1)) #[] #[]::lb) (hR1.enter _) ⟨_,lb,rfl,⟨_,hl1,rfl⟩,VRL.mono le1 _ _ hlb⟩;have hnoD:¬Wr E1 (L++[.lrec T N fn ps ca cb false]) w.heap.size:=by
  rintro(⟨i,k,c,h1,h2,h3,h4⟩|⟨i,n,sz,t,k,h1,h2,h3,h4⟩);by_cases hi:i=L.length;subst hi;rw[hl1]at h3;cases h3;simp at h4;have hi':i<L.length:=(by have:=(aps.1 h1).1;simp at this;omega);rw[apx hi']at h1;have h3':E.loc i=some c:=(by rw[hE1]at h3;simpa[hi]using h3);obtain⟨c',o,g1,g2⟩:=(hR.blk i k h1).loc h2;rw[h3']at g1;cases g1;rw[h4]at g2;have:=(aqh.1 g2).1;omega;have hi':i<L.length:=by rcases apV i L.length with h5|h5;exact h5;rw[apH h5]at h1;rcases aqQ (i-L.length)with h6|h6;rw[h6]at h1;cases h1;rw[ard (by simp;omega)]at h1;cases h1
  rw[apx hi']at h1;have hb:=hR.blk i _ h1;simp only[bZ]at hb;obtain⟨t',g1,_,_,g2⟩:=hb;have h2':E.tok i=some t:=(by rw[hE1]at h2;exact h2);rw[h2']at g1;cases g1;obtain⟨cs,ty,fr,g3,_⟩:=g2 k h3;rw[h4]at g3;have:=(aqh.1 g3).1;omega
 refine⟨w.heap.size+1,[mkD w.heap.size],W1,{target:=.fn (.func f) ⟨lb⟩,args:=#[.func (.yield (w.heap.size+1)) #[] #[]]},W1,f,#[.func (.yield (w.heap.size+1)) #[] #[]]++⟨lb⟩,W1,?_,?_,λ_ _=>trivial,?_,λe=>(by cases e),?_⟩;have:=run_enterLoop_outer (P:=P) (w:=w) fn a.tmps ps0 ca cb;rw[ha,ha]at this;rw[hW1,hrec];exact this;simp only[resolve,hgv];simp[go_sem];simp[invoke,go_sem,he];rcases hcall with⟨_,hcalls⟩|⟨_,_,_,_,_,hv2,_⟩;refine aal none _ ?_;have e:(#[Value.func (.yield (w.heap.size+1)) #[] #[]]++(⟨lb⟩:Array Value))=⟨.func (.yield (w.heap.size+1)) #[] #[]::lb⟩:=by apply Array.ext';simp
 rw[e];refine hcalls.mono λen w3 ⟨E3,v,av,L3,e1,le3,⟨hL3,hQ⟩,_,hR3⟩=>?_
 subst e1;have hl3:=le3.loc _ _ hl1;have hB3:=hR3.blk _ _ hL3;simp only[bZ,apL,if_false]at hB3;obtain⟨c3,D3,tm3,m1,m2,m3,m4,m5⟩:=hB3;rw[hl3]at m1;cases m1;have hlt3:w.heap.size+1<w3.heap.size:=(aqh.1 m2).1;have hR4:=hR3.turn hL3 rfl hl3 (k':=.dead) (w':=w3.putObj (w.heap.size+1) (.loop {state:=.exhausted,pending:=none,fn:=fn,tmps:=tm3,params:=⟨ps⟩,assign:=ca,body:=cb,defers:=D3})) asQ (λb hb=>arY hb) rfl rfl rfl trivial (λ_ _ e=>by cases e);have hbs:Bs w0 S0 W1 ⟨Wr E1 (L++[.lrec T N fn ps ca cb false]),S0.B⟩:=hR1.bs;refine⟨none,_,run_endLoop m2 asQ,W1,⟨Wr E1 (L++[.lrec T N fn ps ca cb false]),S0.B⟩,E3,T,_,hbs,le1.trans le3,hQ,hR4,(hT.mono le1).mono le3,hN,?_⟩;have hM:=hMk.bs hbs;refine⟨hM.1,aqI.2 ⟨λhm=>?_,hM.2.1⟩,λd hd=>?_⟩;obtain⟨D,g1,_,g2,_⟩:=hMk.2.2 _ hm;have:w.heap.size=D:=by injection g1 with g1 _;injection g1
 have:=hR.size;omega;rcases apP.1 hd with rfl|hd;exact⟨_,rfl,by have:=hMk.1;have:=hR.size;show S0.B<=_;omega,asP,hnoD,hWd⟩;exact hM.2.2 d hd;rw[he]at hv2;cases hv2
end
variable {L:List Blk}{K:apr}
set_option maxHeartbeats 8000000
set_option maxRecDepth 100000
theorem amn{i j:Nat}(y:rows.length<=1100000){Inv:Nat->List Blk->Prop}{L:List Blk}{K:apr}(e:∀k L',Inv k L'->L'[j]?=some (.cells [.sl rows rows.length cap])/\L.length<=L'.length)(g:Inv rows.length L)(l:∀k L' (Q:AV->List Blk->Prop),k<rows.length->Inv (k+1) L'->(∀d,Inv k d->Q (.bool true) d)->abi Tryz.prog i [.int .i64 (k:Int),rows.getD k .undef] L' Q)(h:∀L',Inv 0 L'->Fin L (.tup []) L' K):
  apq 206 [.yld i,.ptr j 0] L K:=by
 have t:=(e _ _ g).1;have w:IntKind.i64.wrap ((rows.length:Int)-1)=(rows.length:Int)-1:=ae asP asP;replace e:=hid e;replace l:=hid l;replace h:=hid h;replace g:=hid g;refine apo jj ?_;refine aj (λn T' L'=>∃(k:Nat) (x:Int),n=k/\k<=rows.length/\Hid (Inv k L')/\x=(k:Int)-1/\T'=[(3,.int .i64 x),(0,.yld i),(1,.ptr j 0)]) (CutS (b:=apt _)) ⟨rows.length,_,rfl,apt _,g,rfl,rfl⟩ ?_;rintro k _ L' ⟨_,x,rfl,q,f,m,rfl⟩;have r:=(e.o _ _ f.o).1;have p:=(e.o _ _ f.o).2;cases k with
 | zero =>
   have c:x=-1:=asP;subst c;clear m;refine wk ?_;exact⟨.inl rfl,True,[],rfl,trivial,h.o _ f.o⟩
 | succ k =>
   have c:x=(k:Int):=asP;subst c;clear m;have g1:(0:Int)<=(k:Int):=asP;have v:IntKind.i64.wrap ((k:Int)-1)=(k:Int)-1:=ae asP asP;have g3:(k:Int)<(rows.length:Int):=asP;have g4:k<rows.length:=q;refine wk ?_;rw[aaV];refine l.o k L' _ g4 f.o λd a=>?_
   have s:=(e.o _ _ a).1;have u:=(e.o _ _ a).2;replace a:=hid a;clear f r p;refine asX ?_;exact asU asP (CutL (b:=asP)) ⟨k,_,rfl,asP,hid a.o,rfl,rfl⟩
theorem amm{i j:Nat}(y:rows.length<=1100000){Inv:Nat->List Blk->Prop}{L:List Blk}{K:apr}(e:∀k L',Inv k L'->L'[j]?=some (.cells [.sl rows rows.length cap])/\L.length<=L'.length)(g:Inv rows.length L)(l:∀k L' (Q:AV->List Blk->Prop),k<rows.length->Inv (k+1) L'->(∀d,Inv k d->Q (.bool true) d)->abi Tryz.prog i [.int .i64 (k:Int),rows.getD k .undef] L' Q)(h:∀L',Inv 0 L'->Fin L (.tup []) L' K):
  apq 209 [.yld i,.ptr j 0] L K:=by
 have t:=(e _ _ g).1;have w:IntKind.i64.wrap ((rows.length:Int)-1)=(rows.length:Int)-1:=ae asP asP;replace e:=hid e;replace l:=hid l;replace h:=hid h;replace g:=hid g;refine apo jq ?_;refine aj (λn T' L'=>∃(k:Nat) (x:Int),n=k/\k<=rows.length/\Hid (Inv k L')/\x=(k:Int)-1/\T'=[(3,.int .i64 x),(0,.yld i),(1,.ptr j 0)]) (CutS (b:=apt _)) ⟨rows.length,_,rfl,apt _,g,rfl,rfl⟩ ?_;rintro k _ L' ⟨_,x,rfl,q,f,m,rfl⟩;have r:=(e.o _ _ f.o).1;have p:=(e.o _ _ f.o).2;cases k with
 | zero =>
   have c:x=-1:=asP;subst c;clear m;refine wk ?_;exact⟨.inl rfl,True,[],rfl,trivial,h.o _ f.o⟩
 | succ k =>
   have c:x=(k:Int):=asP;subst c;clear m;have g1:(0:Int)<=(k:Int):=asP;have v:IntKind.i64.wrap ((k:Int)-1)=(k:Int)-1:=ae asP asP;have g3:(k:Int)<(rows.length:Int):=asP;have g4:k<rows.length:=q;refine wk ?_;rw[aaV];refine l.o k L' _ g4 f.o λd a=>?_
   have s:=(e.o _ _ a).1;have u:=(e.o _ _ a).2;replace a:=hid a;clear f r p;refine asX ?_;exact asU asP (CutL (b:=asP)) ⟨k,_,rfl,asP,hid a.o,rfl,rfl⟩
theorem aoO{n:Nat}(h:K (.func 206 [.ptr L.length 0]) (L++[.cells [.sl rows n cap]])):
  apq 179 [.sl rows n cap] L K:=by
 replace h:=hid h;refine apo jz ?_;exact aa h.o
theorem aoN{n:Nat}(h:K (.func 209 [.ptr L.length 0]) (L++[.cells [.sl rows n cap]])):
  apq 185 [.sl rows n cap] L K:=by
 replace h:=hid h;refine apo jN ?_;exact aa h.o
theorem OkD.one(h:OkD d){r:Rdn}(k:r∈d):OkD [r]:=by obtain⟨a,b,rfl⟩:=List.append_of_mem k;have f:OkD (r::b):=OkD.app h;rw[VW]at f⊢;obtain⟨l,j,c,h4⟩:=f;refine⟨asQ,λx i=>j x (by rw[apT.1 i];simp),?_,apR ?_ h4⟩;unfold JV at c⊢;rw[ar5,arO]at c;rw[ar5,c.1];rfl;have e:=o5 ([r].map (dy false)) 44;have g:=o5 ((r::b).map (dy false)) 44;rw[if_neg asQ]at e g;simp only[apX,ara,arb,List.sum_nil,apC,ap9]at e g;unfold bp;simp only[apX,ara];omega
theorem ank(U:OkD d)(h:K (.sl (aG (NK d).reverse) d.length none) L):
  apq 125 [.sl (d.map aq) d.length cap] L K:=by
 have N:=U.len;replace h:=hid h;have kk1:Hid (∀{L:List Blk}{K:apr},K (.func 206 [.ptr L.length 0]) (L++[.cells [.sl (d.map aq) d.length cap]])->apq 179 [.sl (d.map aq) d.length cap] L K):=@hid _ (by intro L K q;exact aoO q);refine apo aap ?_;have P:∀(a b c x y:Blk) (Z:List Blk),(L++([a,b,c]++Z))[(L++[x,y]).length]?=some c:=λa b c x y Z=>by rw[apH asQ];simp
 have p:(d.map aq).length=d.length:=apQ _;refine Xp (f:=206) (caps:=[.ptr (L.length+1) 0]) (λargs w=>rfl) rfl (λfn ca cb F B D E u=>?_);refine amn (rows:=d.map aq) (cap:=cap) (Inv:=λk L'=>∃(v:AV) (Z:List Blk),L'=L++([.cells [v],.cells [.sl (d.map aq) d.length cap],.lrec [(9,.func 206 [.ptr (L.length+1) 0]),(3,.ptr L.length 0),(2,.sl [] 0 (some 0)),(0,.sl (d.map aq) d.length cap)] 23 fn [10,11] ca cb false]++Z)/\((k=d.length/\v=.sl [] 0 (some 0))\/∃m,v=.lsl (L.length+3+m) 0 (d.length-k) none 1/\Z[m]?=some (.cells (aG ((NK d).reverse.take (d.length-k)))))) asP ?_ ?_ ?_ ?_;rintro k L' ⟨v,Z,rfl,_⟩;refine⟨?_,asQ⟩;rw[p,apH asP];simp;exact⟨.sl [] 0 (some 0),[],asQ,.inl ⟨p,rfl⟩⟩;rintro k L' Q O ⟨v,Z,rfl,T⟩ R;rw[p]at O;obtain⟨r,S⟩:=apl (d.getD k []);have W:(d.map aq).getD k .undef=.sl (bg r) r.length none:=by rw[nv O,S]
 have J:r∈d:=by rw[<- S];simp[O]
 have t:=U.one J;have n:(NK d).reverse.take (d.length-k)=(NK d).reverse.take (d.length-(k+1))++[dy true r]:=by rw[show d.length-k=d.length-(k+1)+1 by omega,apK (by rw[aqM,bD];omega)];congr 2;rw[List.getElem_reverse];simp only[NK,List.getElem_map,apQ];congr 1;rw[<- S];simp only[apO];rw[apD O];simp only[aql];congr 1;omega
 obtain⟨s,V⟩:=apl (dy true r);rw[V]at n;have kk2:Hid (∀{c:Option Nat}{L:List Blk}{K:apr},K (.tup [.str s,.int .i64 0]) L->apq 58 [.sl [.sl (bg r) r.length none] 1 c] L K):=@hid _ (by intro c L K q;refine SG (d:=[r]) t.m.b.1 t.m.b.2 ?_;rw[iP t,show bp true [r]=s from by simp[bp,Lib.join,V]];exact q)
 rw[W];refine adc (P _ _ _ _ _ _) F B D E rfl u ?_;simp only[Ss];replace R:=hid R;replace n:=hid n;clear S J t V W F B D E u kk1 P h;have e:∀(a b c c':Blk) (Z:List Blk),(L++a::b::c::Z).set (L.length+2) c'=L++([a,b,c']++Z):=λa b c c' Z=>by rw[apW _ _ asP,show L.length+2-L.length=2 by omega];rfl
 have g:∀(a b c:Blk) (Z:List Blk),(L++a::b::c::Z)[L.length+2]?=some c:=λa b c Z=>by rw[apH asP,show L.length+2-L.length=2 by omega];rfl
 replace e:=hid e;replace g:=hid g;rcases T with⟨al,rfl⟩|⟨m,rfl,A⟩;refine wk ?_;refine⟨rfl,g.o _ _ _ _,?_⟩;rw[e.o];refine R.o _ ⟨_,Z++[.cells [.str s]],rfl,.inr ⟨Z.length,?_,?_⟩⟩;rw[show d.length-k=1 by omega,show L.length+(Z.length+1+1+1)=L.length+3+Z.length by omega];rw[n.o,show d.length-(k+1)=0 by omega];simp;obtain⟨j,hj⟩:=apl (d.length-(k+1));obtain⟨C,z⟩:=apl (aG ((NK d).reverse.take (d.length-(k+1))));have H:C.length=j:=by rw[<- z,apQ,aqK,aqM,bD];omega
 have ad:List.take j C=C:=ap2 asP;rw[z]at A;rw[hj];have hm:m<Z.length:=(aps.1 A).1;have I:∀(a b c:Blk),(L++a::b::c::Z)[L.length+3+m]?=some (.cells C):=λa b c=>by rw[apH asP,show L.length+3+m-L.length=m+1+1+1 by omega];simpa using A
 have ai:j<=32:=asP;have Y:∀(a b c:Blk),(L++a::b::c::Z).set (L.length+3+m) .dead=L++a::b::c::Z.set m .dead:=λa b c=>by rw[apW _ _ asP,show L.length+3+m-L.length=m+1+1+1 by omega];rfl
 refine wk ?_;refine⟨rfl,g.o _ _ _ _,?_⟩;rw[e.o];refine R.o _ ⟨_,Z.set m .dead++[.cells (C++[.str s])],rfl,.inr ⟨Z.length,?_,?_⟩⟩;rw[show d.length-k=j+1 by omega,show L.length+(Z.length+1+1+1)=L.length+3+Z.length by omega];rw[n.o,<- z,apH asQ];simp;have G:∀(a b c c' x y:Blk) (Z:List Blk),(L++([a,b,c]++Z)).set (L++[x,y]).length c'=L++a::b::c'::Z:=λa b c c' x y Z=>by rw[apW _ _ asQ,show(L++[x,y]).length-L.length=2 by simp];rfl
 rintro L' ⟨v,Z,rfl,T⟩;refine aa ⟨P _ _ _ _ _ _,?_⟩;rw[G];clear G P F B D E u kk1;rcases T with⟨X,rfl⟩|⟨m,rfl,A⟩;have M:d=[]:=aqc.1 X.symm;subst M;clear X N p U;refine wk ?_;refine aY ?_;rw[show(AV.sl [] 0 (some 0)).frz=.sl (aG (NK []).reverse) ([]:List Rdn).length none from rfl];exact ac rfl h.o;rw[aru,ap2 (by rw[aqM,bD];omega)]at A;rw[aru];obtain⟨C,z⟩:=apl (aG (NK d).reverse);have H:C.length=d.length:=by rw[<- z,apQ,aqM,bD]
 rw[z]at A h;have I:∀(a b c:Blk),(L++a::b::c::Z)[L.length+3+m]?=some (.cells C):=λa b c=>by rw[apH asP,show L.length+3+m-L.length=m+1+1+1 by omega];simpa using A
 refine wk ?_;refine EE (i:=L.length+3+m) (l:=C) (I _ _ _) ?_;rw[show(AV.lsl (L.length+3+m) 0 d.length none 1).snap (L.length+3+m) C=.sl C d.length none from by simp[AV.snap,<- H],apW _ _ asP];exact ac (by rw[<- z];simp only[AV.refs];exact jb _ _) h.o
theorem Eo:∀l:List aC,AV.frzL (bE l)=bE l
 |[]=>rfl
 |x::l=>by have a:=Eo l;unfold bE at a⊢;rw[ap5];show AV.frzL (.int .i64 x.id::dnA x.nm::atR x.av::l.flatMap We)=_;simp only[AV.frzL,AV.frz,a];unfold atR;simp only[AV.frz,bB,fi];rfl
end Go.Proofs.YtdnfjhflkkpokaaGreatDoor.Av
namespace Go.Proofs
open Go.Shelf
def Tryz.srtF_ren:Go.Shelf.Ren:=⟨λ|6=>55|15=>100|14=>99|28=>154|29=>155|20=>146|21=>147|22=>148|23=>149|24=>150|25=>151|26=>152|27=>153|46=>191|47=>192|48=>193|49=>194|50=>195|57=>220|n=>n,λ|22=>75|24=>3|25=>143|3=>3|39=>185|0=>0|53=>229|55=>231|4=>4|46=>223|45=>222|50=>161|5=>5|9=>9|66=>273|70=>180|76=>292|77=>293|n=>n,λ|n=>n⟩
theorem Tryz.srtF:Go.Proofs.SlLaysF.n6 Tryz.prog Tryz.srtF_ren:={
 mixed:=by kernel_rfl
 f6:=⟨Tryz.f55.name,by decide,Tryz.func55.trans (congrArg some (by kernel_rfl))⟩
 f14:=⟨Tryz.f99.name,by decide,Tryz.func99.trans (congrArg some (by kernel_rfl))⟩
 f15:=Tryz.func100.trans (congrArg some (by kernel_rfl))
 f20:=⟨Tryz.f146.name,by decide,Tryz.func146.trans (congrArg some (by kernel_rfl))⟩
 f21:=⟨Tryz.f147.name,by decide,Tryz.func147.trans (congrArg some (by kernel_rfl))⟩
 f22:=⟨Tryz.f148.name,by decide,Tryz.func148.trans (congrArg some (by kernel_rfl))⟩
 f23:=⟨Tryz.f149.name,by decide,Tryz.func149.trans (congrArg some (by kernel_rfl))⟩
 f24:=⟨Tryz.f150.name,by decide,Tryz.func150.trans (congrArg some (by kernel_rfl))⟩
 f25:=⟨Tryz.f151.name,by decide,Tryz.func151.trans (congrArg some (by kernel_rfl))⟩
 f26:=⟨Tryz.f152.name,by decide,Tryz.func152.trans (congrArg some (by kernel_rfl))⟩
 f27:=⟨Tryz.f153.name,by decide,Tryz.func153.trans (congrArg some (by kernel_rfl))⟩
 f28:=Tryz.func154.trans (congrArg some (by kernel_rfl))
 f29:=Tryz.func155.trans (congrArg some (by kernel_rfl))
 f46:=⟨Tryz.f191.name,by decide,Tryz.func191.trans (congrArg some (by kernel_rfl))⟩
 f47:=Tryz.func192.trans (congrArg some (by kernel_rfl))
 f48:=Tryz.func193.trans (congrArg some (by kernel_rfl))
 f49:=⟨Tryz.f194.name,by decide,Tryz.func194.trans (congrArg some (by kernel_rfl))⟩
 f50:=⟨Tryz.f195.name,by decide,Tryz.func195.trans (congrArg some (by kernel_rfl))⟩
 f57:=⟨Tryz.f220.name,by decide,Tryz.func220.trans (congrArg some (by kernel_rfl))⟩
 t0:=Tryz.underlying0
 a0:=Tryz.isAgg0
 z0:=Tryz.sizeOf0
 v0:=Tryz.zeroValue0
 t3:=Tryz.underlying3
 a3:=Tryz.isAgg3
 z3:=Tryz.sizeOf3
 v3:=Tryz.zeroValue3
 t4:=Tryz.underlying4
 a4:=Tryz.isAgg4
 z4:=Tryz.sizeOf4
 v4:=Tryz.zeroValue4
 t5:=Tryz.underlying5
 a5:=Tryz.isAgg5
 z5:=Tryz.sizeOf5
 v5:=Tryz.zeroValue5
 t9:=Tryz.underlying9
 a9:=Tryz.isAgg9
 z9:=Tryz.sizeOf9
 v9:=Tryz.zeroValue9
 t22:=Tryz.underlying75
 a22:=Tryz.isAgg75
 z22:=Tryz.sizeOf75
 v22:=Tryz.zeroValue75
 a24:=Tryz.isAgg3
 z24:=Tryz.sizeOf3
 t25:=Tryz.underlying143
 a25:=Tryz.isAgg143
 z25:=Tryz.sizeOf143
 v25:=Tryz.zeroValue143
 t39:=Tryz.underlying185
 a39:=Tryz.isAgg185
 z39:=Tryz.sizeOf185
 v39:=Tryz.zeroValue185
 t45:=Tryz.underlying222
 a45:=Tryz.isAgg222
 z45:=Tryz.sizeOf222
 v45:=Tryz.zeroValue222
 t46:=Tryz.underlying223
 a46:=Tryz.isAgg223
 z46:=Tryz.sizeOf223
 v46:=Tryz.zeroValue223
 t50:=Tryz.underlying161
 a50:=Tryz.isAgg161
 z50:=Tryz.sizeOf161
 v50:=Tryz.zeroValue161
 t53:=Tryz.underlying229
 a53:=Tryz.isAgg229
 z53:=Tryz.sizeOf229
 v53:=Tryz.zeroValue229
 t55:=Tryz.underlying231
 a55:=Tryz.isAgg231
 z55:=Tryz.sizeOf231
 v55:=Tryz.zeroValue231
 t66:=Tryz.underlying273
 a66:=Tryz.isAgg273
 z66:=Tryz.sizeOf273
 v66:=Tryz.zeroValue273
 t70:=Tryz.underlying180
 a70:=Tryz.isAgg180
 z70:=Tryz.sizeOf180
 v70:=Tryz.zeroValue180
 t76:=Tryz.underlying292
 a76:=Tryz.isAgg292
 z76:=Tryz.sizeOf292
 v76:=Tryz.zeroValue292
 t77:=Tryz.underlying293
 a77:=Tryz.isAgg293
 z77:=Tryz.sizeOf293
 v77:=Tryz.zeroValue293}
end Go.Proofs
namespace Go.Proofs
open Go Go.Lib Go.RowKit Go.Proofs.YtdnfjhflkkpokaaGreatDoor.Av
set_option maxHeartbeats 2000000
set_option maxRecDepth 100000
theorem Tryz.isnan_c(a:ByteArray)(w:World):Calls Tryz.prog 156 #[.string a] w λe w'=>e=.returned (.bool false)/\w'=w:=by
 go_enter Tryz.func156,Tryz.ntmps156
 go_wp2
 go_ret
 exact⟨asQ,rfl⟩
theorem Tryz.cmps_c(a b:ByteArray)(w:World):Calls Tryz.prog 101 #[.string a,.string b] w λe w'=>e=.returned (.int .i64 (if Op.bytesLess a.toList b.toList then -1 else if Op.bytesLess b.toList a.toList then 1 else 0))/\w'=w:=by
 have h1:=λs W=>Tryz.isnan_c s W
 obtain⟨p,hp⟩:=apl (Op.bytesLess a.toList b.toList);obtain⟨q,hq⟩:=apl (Op.bytesLess b.toList a.toList);rw[hp,hq];have ht:p=false->q=false->a.toList=b.toList:=λe1 e2=>by rw[e1,bytesLess_eq,decide_eq_false_iff_not]at hp;rw[e2,bytesLess_eq,decide_eq_false_iff_not]at hq;exact anL hp hq
 cases p<;>cases q
 all_goals
  go_enter Tryz.func101,Tryz.ntmps101
  go_wp2_with (go_at_call 156;refine(h1 _ _).mono ?_;rintro e w' ⟨rfl,rfl⟩)
 all_goals (go_ret;first|exact⟨rfl,rfl⟩|(exfalso;simp_all;done))
theorem Tryz.cmpn_c(x:List (List UInt8))(y:List (List UInt8))(b1 o1 c b2 o2 d:Nat)(w:World)(hb1:x.length<=1100000)(hb2:y.length<=1100000)(hc1:∀j,j<x.length->w.cell? ⟨b1,o1+j,none⟩=some (.string ⟨⟨x.getD j []⟩⟩))(hc2:∀j,j<y.length->w.cell? ⟨b2,o2+j,none⟩=some (.string ⟨⟨y.getD j []⟩⟩)):
  Calls Tryz.prog 57 #[.slice (some ⟨b1,o1,none⟩) x.length c,.slice (some ⟨b2,o2,none⟩) y.length d] w λe w'=>e=.returned (.int .i64 (cpP x y))/\w'=w:=by
 have h1:=λa b W=>Tryz.cmps_c a b W
 go_enter Tryz.func57,Tryz.ntmps57
 go_wp2
 go_loopg [11] x.length (λg s11 wr=>∃k:Nat,k<=x.length/\k<=y.length/\x.length-k<=g/\s11=.int .i64 k/\wr=w/\cpP (x.drop k) (y.drop k)=cpP x y)
 case atStart=>exact⟨0,apv _,apv _,asP,rfl,rfl,rfl⟩
 case round =>
  obtain⟨k,hk,hky,hg,rfl,rfl,heq⟩:=hrel;by_cases hlt:k<x.length
  .have d1:x.drop k=x.getD k []::x.drop (k+1):=(by rw[apY hlt];simp[hlt]);have g1:=hc1 k hlt;rw[d1]at heq;obtain⟨s,hs⟩:=apl (x.getD k []);rw[hs]at g1 heq;by_cases hly:k<y.length
   .have d2:y.drop k=y.getD k []::y.drop (k+1):=(by rw[apY hly];simp[hly]);have g2:=hc2 k hly;rw[d2]at heq;obtain⟨t,ht⟩:=apl (y.getD k []);rw[ht]at g2 heq;have hcon:=h1 ⟨⟨s⟩⟩ ⟨⟨t⟩⟩ wr;rw[cpP]at heq;obtain⟨z,hz⟩:=apl (cpS s t);rw[show(if Op.bytesLess (ByteArray.mk ⟨s⟩).toList (ByteArray.mk ⟨t⟩).toList then(-1:Int)else if Op.bytesLess (ByteArray.mk ⟨t⟩).toList (ByteArray.mk ⟨s⟩).toList then 1 else 0)=z from by rw[asf,asf,<- hz,bytesLess_eq,bytesLess_eq];simp[cpS]]at hcon;rw[hz]at heq;have A:Aside (cpP x y=if z≠0 then z else cpP (x.drop (k+1)) (y.drop (k+1))):=heq.symm;clear heq hc1 hc2 d1 d2 hs ht hz h1;by_cases hz0:z=0
    .subst hz0
     go_wp2_with (go_at_call 101;refine hcon.mono ?_;rintro e w' ⟨rfl,rfl⟩)
     go_roundg (x.length-(k+1))
     case measure=>omega
     case rel=>exact⟨k+1,asP,asP,asP,by go_num,rfl,by have:=A.out;simp only[ne_eq,not_true_eq_false,if_false]at this;exact this.symm⟩
    .go_wp2_with (go_at_call 101;refine hcon.mono ?_;rintro e w' ⟨rfl,rfl⟩)
     all_goals go_ret
     have:=A.out;rw[if_pos hz0]at this;exact⟨by rw[this];rfl,rfl⟩
   .have A:Aside (cpP x y=1):=by show cpP x y=1;rw[aro (l:=y) asP,cpP]at heq;exact heq.symm
    clear heq hc1 hc2 d1 hs h1
    go_wp2
    go_ret
    exact⟨by rw[A.out];rfl,rfl⟩
  .have hkx:k=x.length:=asP;have A:Aside (cpP x y=if x.length<y.length then -1 else 0):=by
    show cpP x y=if x.length<y.length then -1 else 0
    rw[aro (l:=x) asP]at heq;by_cases hly:k<y.length;rw[apY hly,cpP]at heq;rw[if_pos asP];exact heq.symm;rw[aro (l:=y) asP,cpP]at heq;rw[if_neg asP];exact heq.symm
   subst hkx;clear heq hc1 hc2 h1;by_cases hl:x.length<y.length
   .go_wp2
    all_goals (go_ret;first|exact⟨by rw[A.out,if_pos hl];rfl,rfl⟩|(exfalso;omega))
   .go_wp2
    all_goals (go_ret;first|exact⟨by rw[A.out,if_neg hl];rfl,rfl⟩|(exfalso;omega))
theorem Tryz.scp_c(x y:List (List UInt8))(a b:Int)(bb bo vb vo mb na oa pa qa ca nb ob pb qb cb:Nat)(W:World)(hb1:x.length<=1100000)(hb2:y.length<=1100000)(e1:W.cell? ⟨bb,bo,none⟩=some (.pointer (some ⟨vb,vo,none⟩)))(e2:W.cell? ⟨vb,vo+1,none⟩=some (.map (some mb)))(e3:∀n,(Instr.lookup 134 (.map (some mb)) (.int .i64 a) false).run Tryz.prog (W.drewN n)=.ok (.pointer (some ⟨na,oa,none⟩)) (W.drewN n))(e4:∀n,(Instr.lookup 134 (.map (some mb)) (.int .i64 b) false).run Tryz.prog (W.drewN n)=.ok (.pointer (some ⟨nb,ob,none⟩)) (W.drewN n))(e5:W.cell? ⟨na,oa+1,none⟩=some (.slice (some ⟨pa,qa,none⟩) x.length ca))(e6:W.cell? ⟨nb,ob+1,none⟩=some (.slice (some ⟨pb,qb,none⟩) y.length cb))(hc1:∀j,j<x.length->W.cell? ⟨pa,qa+j,none⟩=some (.string ⟨⟨x.getD j []⟩⟩))(hc2:∀j,j<y.length->W.cell? ⟨pb,qb+j,none⟩=some (.string ⟨⟨y.getD j []⟩⟩)):
  Calls Tryz.prog 56 #[.int .i64 a,.int .i64 b,.pointer (some ⟨bb,bo,none⟩)] W λe w'=>e=.returned (.int .i64 (cpP x y))/\∃q,w'=W.drewN q:=by
 have hcon:=λn=>Tryz.cmpn_c x y pa qa ca pb qb cb (W.drewN n) hb1 hb2 hc1 hc2
 generalize cpP x y=r at hcon⊢;clear hc1 hc2
 go_enter Tryz.func56,Tryz.ntmps56
 go_wp2
 go_quiet (exact Calls.quiet_of_same (hcon _))
 go_wp2
 go_ret
 exact⟨rfl,_,rfl⟩
end Go.Proofs
namespace Go.Proofs
open Go.Shelf Go.Sort Go.RowKit
theorem Tryz.sortF{α:Type}[Inhabited α](enc:α->Value)(k:OneCell enc)(a:α->α->Int)(j:SWO (ltOf a))(g:Nat)(cb:Array Value)(blk off cap:Nat)(d:Array α)(w:World)(i:∀args w,(callFunc g args).run Tryz.prog w=.ok (.enter g args) w)(c:CmpLays1 Tryz.prog g cb enc a blk off d.size w)(h:Holds enc w blk off d)(b:blk<w.heap.size)(f:d.size<4611686018427387904)(l:∀x y,(ltOf a) x y=false->(ltOf a) y x=false->x=y):
  Calls Tryz.prog 55 #[.slice (some ⟨blk,off,none⟩) d.size cap,.func (.func g) #[] cb] w λe w' =>
   e=.returned (.tuple #[])/\∃n os,w'=sortWorld enc w blk off n (d.toList.mergeSort λx y => !(ltOf a) y x).toArray os :=
 Any.slices_SortFunc_total Tryz.srtF enc k a j g cb blk off cap d w i c h b f l
theorem Tryz.sortF0(p:Option Addr)(cap:Nat)(a:Value)(w:World):
  Calls Tryz.prog 55 #[.slice p 0 cap,a] w λe w'=>e=.returned (.tuple #[])/\w'=w :=
 AnyF.slices_SortFunc_none {Tryz.srtF with} p cap a w
end Go.Proofs
namespace Go.Proofs.YtdnfjhflkkpokaaGreatDoor.Av
open Go Go.Sort Go.RowKit
variable {L:List Blk}{K:apr}
set_option maxHeartbeats 8000000
set_option maxRecDepth 100000
theorem Rel.putG{α:Type}[Inhabited α]{enc:α->Value}{f:α->AV}{w0:World}{S0:SB}{E:Env}{L:List Blk}{w:World}(h:Rel w0 S0 E L w)(A:∀x,VR E (f x) (enc x)){i:Nat}{c0:List AV}{d:List α}{c:Loc}(l:L[i]?=some (.cells c0))(k:E.loc i=some c)(v:d.length=c0.length)(q:Nat):
  Rel w0 S0 E (L.set i (.cells (d.map f))) (putRow enc (Sort.ahead w q) c.blk c.off d.toArray):=by
 obtain⟨c',cs,ty,fr,m,p,s,h4,y,n⟩:=h.blk i _ l;rw[k]at m;cases m;have r:(putRow enc (Sort.ahead w q) c.blk c.off d.toArray).heap[c.blk]?=some (.cells (putCells enc c.off d.toArray cs) ty fr):=by simp[putRow,mapBlock,Sort.ahead,arp,p,onCells]
 refine h.turn (k':=.cells (d.map f)) l rfl k asQ (λb o=>?_) rfl rfl rfl ⟨c,_,ty,fr,k,r,by simp[putCells,s],?_,λj a u=>?_,n⟩ (λ_ _ e=>by cases e);have:c.blk≠b:=λe=>o e.symm
 simp[putRow,mapBlock,Sort.ahead,arp,this];simp[*];have z:j<d.length:=by grind
 have g:c.off+j<cs.size:=asP;have t:(putCells enc c.off d.toArray cs)[c.off+j]?=some (if c.off<=c.off+j/\c.off+j<c.off+d.length then enc (d.toArray[c.off+j-c.off]!)else cs[c.off+j]):=by simp[putCells,g]
 grind
theorem ae6{α:Type}[Inhabited α]{enc:α->Value}{f:α->AV}{w0:World}{S0:SB}{E:Env}{L:List Blk}{w:World}(h:Rel w0 S0 E L w)(n:∀x v,VR E (f x) v->v=enc x){i:Nat}{d:List α}{c:Loc}(m:L[i]?=some (.cells (d.map f)))(k:E.loc i=some c):
  Holds enc w c.blk c.off d.toArray/\c.blk<w.heap.size:=by
 obtain⟨c',cs,ty,fr,g,b,q,h4,p,l⟩:=h.blk i _ m;rw[k]at g;cases g;refine⟨λj o=>?_,(aqh.1 b).1⟩;have a:j<d.length:=by simpa using o
 obtain⟨v,g1,e⟩:=p j (f d[j]) (by simp[a]);have e:=n _ _ e;subst e;refine⟨by simp[World.cell?,b,g1,a],?_⟩;have r:=l (c.off+j) asP (by simp only[apQ]at h4;omega);simp only[World.frozen?,b];simp_all
theorem alc{α:Type}[Inhabited α]{enc:α->Value}{w:World}{blk off n:Nat}{d:Array α}{os:Array Obj}{b:Nat}(c:b≠blk)(a:b<w.heap.size):(sortWorld enc w blk off n d os).heap[b]?=w.heap[b]?:=by
 have:blk≠b:=λe=>c e.symm
 unfold sortWorld grow;rw[asj (by simpa[putRow,mapBlock,Sort.ahead]using a)];simp[putRow,mapBlock,Sort.ahead,arp,this]
theorem jh{w w':World}{b o:Nat}(h:w'.heap[b]?=w.heap[b]?):w'.cell? ⟨b,o,none⟩=w.cell? ⟨b,o,none⟩:=by simp only[World.cell?,h]
theorem Rel.at{w0:World}{S0:SB}{E:Env}{L:List Blk}{w:World}(h:Rel w0 S0 E L w){i j:Nat}{l:List AV}{a:AV}(d:L[i]?=some (.cells l))(g:l[j]?=some a):∃c v,E.loc i=some c/\w.cell? ⟨c.blk,c.off+j,none⟩=some v/\VR E a v/\c.blk<w.heap.size:=by obtain⟨c,cs,ty,fr,e,b,m,h4,k,n⟩:=h.blk i _ d;obtain⟨v,g1,f⟩:=k j a g;exact⟨c,v,e,by simp[World.cell?,b,g1],f,(aqh.1 b).1⟩
theorem adi{E:Env}:∀(p:Pth) (b o:Nat),VRC E (aG p) b o->∀j,j<p.length->E.mem b (o+j)=some (.string ⟨⟨p.getD j []⟩⟩)
 |[],_,_,_,j,hj=>absurd hj (arE _)
 | s::p,b,o,h,j,hj=>by
   obtain⟨⟨x,c,rfl⟩,a⟩:=h;cases j with
   |zero=>simpa using c
   | succ j =>
     have:=adi p b (o+1) a j (by simpa using hj)
     grind
section
variable {suf:List Rdn}{last:Int}{l:List aC}{w0:World}{S0:SB}{E:Env}{L:List Blk}{w:World}{iv mn mi:Nat}{nb bn:Int->Nat}{ck ci:Nat}{rs:List TKy}
theorem b9.path(h:Rel w0 S0 E L w)(f:b9 L iv mn mi nb bn ck ci rs suf last l){x:aC}(i:x∈l)(m:x.nm≠[]):
  ∃c a d ca,E.loc (nb x.id)=some c/\c.blk<w.heap.size/\w.cell? ⟨c.blk,c.off+1,none⟩=some (.slice (some ⟨a,d,none⟩) (pth x).length ca)/\∀j,j<(pth x).length->E.mem a (d+j)=some (.string ⟨⟨(pth x).getD j []⟩⟩):=by
 obtain⟨c,v,k,q,e,h4⟩:=h.at (f.nd x i) (j:=1) rfl;obtain⟨p,c',rfl,_,_,r⟩:=e;have n:(pth x).length=x.nm.length:=by simp[pth,bD]
 rcases r with⟨s,_⟩|⟨b,o,rfl,g⟩;simp_all;exact⟨c,b,o,c',k,h4,by rw[n];exact q,adi _ _ _ g⟩
theorem b9.lookup(t:Rel w0 S0 E L w)(r:b9 L iv mn mi nb bn ck ci rs suf last l){d:Loc}(i:E.loc mn=some d){x:aC}(B:TOk suf last l)(u:x∈l){c:Loc}(h:E.loc (nb x.id)=some c)(W:World)(C:W.heap[d.blk]?=w.heap[d.blk]?):
  (Instr.lookup 134 (.map (some d.blk)) (.int .i64 x.id) false).run Tryz.prog W=.ok (.pointer (some ⟨c.blk,c.off,none⟩)) W:=by
 obtain⟨c',k,p,A,F⟩:=t.blk mn _ r.n;rw[i]at p;cases p;have z:Tryz.prog.underlying 134=some (.map 3 133):=asR;have a:gZ Tryz.prog 3=some .int:=asR;have s:bT .int (.int .i64 x.id)=true:=rfl;have o:VR E (.int .i64 x.id) (.int .i64 x.id):=by simp[VR]
 have f:∀e,(Instr.checkKey e 10000 3 (.int .i64 x.id)).run Tryz.prog W=.ok () W:=λe=>nA a s o e
 have H:(getObj d.blk).run Tryz.prog W=.ok (.map k ck) W:=by simp[getObj,Sem.run,C,A]
 rcases r.node x.id with⟨j,_⟩|⟨y,n,j,I,D,v,_⟩;rw[B.ent u]at j;cases j;obtain⟨e,q,b,g,J,g3,g4,_⟩:=Ej a s o F v W;obtain⟨c4,m,G⟩:=g4;rw[h]at m;cases m;simp[Instr.lookup,run_underlying z,H,f,g,G]
end
abbrev pj(m:List aC):List AV:=m.map λx=>.int .i64 x.id
abbrev InL(l:List aC):={x:aC // x∈l}
theorem alf{suf:List Rdn}{last:Int}{l:List aC}(G:TOk suf last l){m:List aC}(hm:∀x∈m,x∈l)(I:m≠[])(hn:m.length<=1100000){L:List Blk}{iv mn mi:Nat}{nb bn:Int->Nat}{ck ci:Nat}{rs:List TKy}(A:b9 L iv mn mi nb bn ck ci rs suf last l){i bx:Nat}{cp:Option Nat}(C:L[i]?=some (.cells (pj m)))(O:L[bx]?=some (.cells [.ptr iv 0])){K:apr}(h:K (.tup []) (L.set i (.cells (pj (m.mergeSort leE))))):
  apq 55 [.lsl i 0 m.length cp 1,.func 56 [.ptr bx 0]] L K:=λw0 S0 E w vs o M=>by
 simp only[VRL,VR]at M;obtain⟨_,_,rfl,⟨c,rc,d,u,rfl,hd,a7,_,_⟩,_,_,rfl,⟨_,rfl,_,_,rfl,⟨cb,S,rfl⟩,rfl⟩,rfl⟩:=M;have J:0<m.length:=aqi.2 I;have av:d=c.off:=by have:=hd asP;omega
 subst av;obtain⟨x0,a4⟩:=List.exists_mem_of_ne_nil _ I;have T:∀x∈l,x.nm≠[]:=λx H e=>G.inv.ne (gM H) (by rw[e];rfl)
 haveI:Inhabited (InL l):=⟨⟨x0,hm x0 a4⟩⟩
 obtain⟨p,rfl⟩:∃p:List (InL l),m=p.map (·.1):=⟨m.attach.map λx=>⟨x.1,hm x.1 x.2⟩,asQ⟩;obtain⟨f,X⟩:∃f:(InL l)->AV,f=λx=>.int .i64 x.1.id:=⟨_,rfl⟩
 obtain⟨enc,g⟩:∃enc:(InL l)->Value,enc=λx=>.int .i64 x.1.id:=⟨_,rfl⟩
 have e1:∀s:List (InL l),pj (s.map (·.1))=s.map f:=λs=>by rw[X];exact apS
 rw[e1]at C;have a0:∀x v,VR E (f x) v->v=enc x:=λx v M=>by rw[X]at M;rw[g];simpa[VR]using M
 have a6:∀x,VR E (f x) (enc x):=λx=>by rw[X,g];simp[VR]
 obtain⟨hH,ar⟩:=ae6 o a0 C u;obtain⟨c1,v1,h1,b1,b2,b3⟩:=o.at O (j:=0) rfl;rw[S]at h1;cases h1;simp only[VR]at b2;obtain⟨c2,N,rfl⟩:=b2;obtain⟨a8,v2,Z,d1,d2,d3⟩:=o.at A.v (j:=1) rfl;rw[N]at Z;cases Z;simp only[VR]at d2;obtain⟨c3,t,rfl⟩:=d2;have V:c3.blk<w.heap.size:=by obtain⟨c',a9,g1,g2,_⟩:=o.blk mn _ A.n;rw[t]at g1;cases g1;exact(aqh.1 g2).1
 obtain⟨y0,ys,an⟩:∃y ys,p=y::ys:=by
  cases p with
  |nil=>simp at J
  |cons y ys=>exact⟨y,ys,rfl⟩
 have W:∀(j:Nat) (k:Blk) (c':Loc),L[j]?=some k->k.live=true->E.loc j=some c'->k≠.cells (p.map f)->c'.blk≠c.blk:=λj k c' z hl ai hk e=>by have:=o.inj j i k _ c' c z hl C rfl ai u e;subst this;rw[z]at C;exact hk (Option.some.inj C)
 have D:∀a U,(∀n,a≠.int .i64 n)->Blk.cells (a::U)≠.cells (p.map f):=λa U ha e=>by rw[an,X]at e;simp only[apX,Blk.cells.injEq,List.cons.injEq]at e;exact ha _ e.1
 have a1:=W bx _ cb O rfl S (D _ _ asQ);have a2:=W iv _ c2 A.v rfl N (D _ _ (by intro n;simp[dnA]));have a3:=W mn _ c3 A.n rfl t asQ;have P:=(o.own i _ c C rfl u).1;have r:∀x∈l,∃c4 F Y ca,E.loc (nb x.id)=some c4/\c4.blk<w.heap.size/\c4.blk≠c.blk/\F<w.heap.size/\F≠c.blk/\w.cell? ⟨c4.blk,c4.off+1,none⟩=some (.slice (some ⟨F,Y,none⟩) (pth x).length ca)/\∀j,j<(pth x).length->w.cell? ⟨F,Y+j,none⟩=some (.string ⟨⟨(pth x).getD j []⟩⟩):=λx H=>by
  obtain⟨c4,F,Y,ca,g1,g2,g3,g4⟩:=A.path o H (T x H);have ad:0<(pth x).length:=by have:=aqi.2 (T x H);simp only[pth,aqM,bD];exact this
  have g5:=g4 0 ad;exact⟨c4,F,Y,ca,g1,g2,W (nb x.id) _ c4 (A.nd x H) rfl g1 (D _ _ (by intro n;simp[dnA])),o.mem_lt g5,(λe=>by rw[e,P]at g5;cases g5),g3,λj z=>o.mem _ _ _ (g4 j z)⟩
 have R:CmpLays1 Tryz.prog 56 #[.pointer (some ⟨cb.blk,cb.off+0,none⟩)] enc (λx y=>cpP (pth x.1) (pth y.1)) c.blk c.off p.toArray.size w:=λn os dk hs x y=>by
  obtain⟨cx,px,qx,kx,x1,x2,x3,x4,x5,x6,x7⟩:=r x.1 x.2;obtain⟨cy,py,qy,ky,y1,y2,y3,y4,y5,y6,y7⟩:=r y.1 y.2;have a5:(pth x.1).length<=1100000:=(by have:=(G.ok x.1 x.2).len;simp only[pth,aqM,bD];omega);have al:(pth y.1).length<=1100000:=(by have:=(G.ok y.1 y.2).len;simp only[pth,aqM,bD];omega);have B:∀b,b≠c.blk->b<w.heap.size->(sortWorld enc w c.blk c.off n dk os).heap[b]?=w.heap[b]?:=λb hb hl=>alc hb hl
  have:=Tryz.scp_c (pth x.1) (pth y.1) x.1.id y.1.id cb.blk (cb.off+0) c2.blk (c2.off+0) c3.blk cx.blk cx.off px qx kx cy.blk cy.off py qy ky (sortWorld enc w c.blk c.off n dk os) a5 al
   (by rw[jh (B _ a1 b3)];exact b1) (by rw[jh (B _ a2 d3)];exact d1)
   (λq=>A.lookup o t G x.2 x1 _ (B _ a3 V)) (λq=>A.lookup o t G y.2 y1 _ (B _ a3 V))
   (by rw[jh (B _ x3 x2)];exact x6) (by rw[jh (B _ y3 y2)];exact y6)
   (λj z=>by rw[jh (B _ x5 x4)];exact x7 j z) (λj z=>by rw[jh (B _ y5 y4)];exact y7 j z)
  rw[g]at this⊢;exact this.mono λe w' ⟨k1,q,k2⟩=>⟨k1,q,#[],by rw[k2,grow_empty]⟩
 have hO:SWO (ltOf (λx y:(InL l)=>cpP (pth x.1) (pth y.1))):=alL (λx:(InL l)=>pth x.1);have Q:=Tryz.sortF enc (λx=>by rw[g];rfl) (λx y=>cpP (pth x.1) (pth y.1)) hO 56 #[.pointer (some ⟨cb.blk,cb.off+0,none⟩)] c.blk c.off rc p.toArray w (enters_of Tryz.func56 asR rfl) R hH ar (by simp only[apQ]at hn;simp only[List.size_toArray];omega) (λx y h1 Z=>by have:=acv (a:=pth x.1) (b:=pth y.1) h1 Z;exact Subtype.ext (G.byN x.2 y.2 (acq this)))
 rw[apQ]at *;refine .inl ⟨jE Tryz.func55 rfl asR _ _,Q.mono ?_⟩;rintro e w' ⟨rfl,q,os,rfl⟩;have hp:(p.mergeSort λx y => !(ltOf (λx y:(InL l)=>cpP (pth x.1) (pth y.1))) y x).length=(p.map f).length:=by rw[asw,apQ]
 have r1:=o.putG a6 C u hp q;have e3:pj ((p.map (·.1)).mergeSort leE)=(p.mergeSort λx y => !(ltOf (λx y:(InL l)=>cpP (pth x.1) (pth y.1))) y x).map f:=by rw[<- e1];congr 1;refine(List.map_mergeSort λa _ b _=>?_).symm;rfl
 rw[e3]at h;refine⟨E,_,_,_,rfl,.refl E,h,by simp[VR,VRL],r1.grown ?_⟩;exact⟨λb hb=>asj hb,by simp[sortWorld,grow,putRow,mapBlock,Sort.ahead],rfl,rfl,rfl⟩
theorem aiU{cap:Option Nat}{d:AV}(h:K (.tup []) L):apq 55 [.sl [] 0 cap,d] L K :=
 dE Tryz.func55 rfl asR (λw0 S0 E w vs g f=>by obtain⟨_,_,rfl,⟨p,c,rfl,_⟩,x,_,rfl,_,rfl⟩:=f;exact(Tryz.sortF0 p c x w).mono λe w' ⟨b,a⟩=>⟨_,b,by simp[VR,VRL],by subst a;exact EC.refl _⟩) h
end Go.Proofs.YtdnfjhflkkpokaaGreatDoor.Av
set_option maxRecDepth 100000
namespace Go.Proofs.YtdnfjhflkkpokaaGreatDoor.Av
open Go
def gj:LSO:=[Ak 2]
def gi:LSO:=[Aa 3 0,o1 4 (.slnil false (tm 3))]
def gh:LSO:=[Ak 2]
def gg:LSO:=[Ce 5,Aa 6 0,BK 7 5 6,Aa 2 7]
def bX:aK:=⟨8,(asI gj [] (.seq (asI gi C4 (asK 4 (.sreg gh []))) (asI gg C7 .ret))),[(.tmp 2)]⟩
attribute [push_cast] gj gi gh gg
theorem fW:aL Tryz.prog (λr i=>if r=3/\i=2 then 2 else 1) 47=some bX.raw:=asR
attribute [push_cast] bX
variable {L:List Blk}{K:apr}
set_option maxHeartbeats 8000000
set_option maxRecDepth 100000
theorem agE{d e z:List Rdn}{cap cap':Option Nat}{ne nd:Nat}(t:e++d=z)(D:ne=e.length)(j:nd=d.length)(B:z.length<=1100000)(s:∀r∈z,r.length<=1100000)(h:K (dnA z) L):
  apq 59 [.sl (d.map aq) nd cap,.sl (e.map aq) ne cap'] L K:=by
 subst D j;replace h:=hid h;have v:=hid (λk=>@nv z k);replace s:=hid s;have kk1:Hid (Ctr Tryz.prog 102 [.sl [.sl (e.map aq) e.length cap',.sl (d.map aq) d.length cap] 2 (some 2)] (.sl (z.map aq) z.length none)):=@hid _ (by
  intro L K q;refine iL ?_;simp only[AV.frzL,AV.frz,bB];have:=@abZ [e.map aq,d.map aq] none asQ (by simp only[ast,asu,ap4,<- ap1,t,apQ];exact B) (λl w=>by rw[apF];intro a x;simp only[apP,aqq,or_false]at w;rcases w with rfl|rfl<;>(obtain⟨r,_,rfl⟩:=apz.1 x;rfl)) (λp=>by simp only[ast,asu,ap4,<- ap1];exact fD p _) L K
  simp only[ast,asu,ap4,<- ap1,t,apX,ara,apQ,ap9,apC,aaZ]at this;exact this q)
 clear t;refine apo Wo ?_;refine bR (l:=[]) (n:=0) 5 1 rfl (apU 1).symm ?_;refine aj (λm T' L'=>∃(k:Nat) (C:List AV) (X:List Blk),m=z.length-k/\k<=z.length/\Hid (C=(z.take k).map aq)/\T'=[(13,.int .i64 (k:Int)),(12,.int .i64 z.length),(11,.sl (z.map aq) z.length none),(5,.gsl C k L.length 1)]/\L'=L++(.spare k 1::X)) asT ⟨0,[],[],rfl,apv _,hid rfl,rfl,asQ⟩ ?_;rintro _ _ _ ⟨k,C,X,rfl,G,i,rfl,rfl⟩;by_cases b:k<z.length;have g1:(k:Int)<(z.length:Int):=asP;have E:=apn k asP;have y:=v.o k b;have H:k<(z.map aq).length:=by simpa using b
 obtain⟨r,c⟩:=apl (z.getD k []);have A:=s.o r (by rw[<- c];simp[b]);have f:(z.take (k+1)).map aq=C++[.sl (bg r) r.length none]:=by rw[i.o,apK b,ap1,show z[k]=r by rw[<- c];simp[b]];rfl
 rw[c]at y;have F:=gP r;have I:=dp r;replace f:=hid f;clear c i;refine wk ?_;exact asU asP asS ⟨k+1,_,_,rfl,b,hid f.o.symm,rfl,rfl⟩;have u:k=z.length:=asP;subst u;have g1:¬(z.length:Int)<(z.length:Int):=asP;have g:=i.o;rw[apJ]at g;subst g;clear i;refine wk ?_;refine aY ?_;simp only[AV.frz,bB];exact ac (by simp only[AV.refs,fD]) h.o
theorem aag{xs:List (List UInt8)}{cap:Option Nat}(g:xs.length<=1100000)(h:K (.sl (xs.map AV.str) xs.length none) L):
  apq 47 [.sl (xs.map AV.str) xs.length cap] L K:=by
 replace h:=hid h;by_cases b:xs=[]
 .subst b;refine ab fW (by simp[bX]) ?_;simp only[bX,ag]
  repeat' first
   |refine bG ?_
   | (first|refine bw asR ?_|refine aN asR ?_|refine aQ ?_|refine cS ?_|refine bJ (fun _=>?_)|refine aF ?_|refine bA ?_)
     refine sm ?_
   | (first|refine bq asR ?_|refine bm ?_|refine aP ?_|refine bz ?_|refine bO (aE ?_))
     refine sl ?_
   |exact bK
   |first|apply bL|apply br|apply bM|apply bu|apply bN|apply bv
   |refine aT ?_
   |refine aO ?_
   |first|refine aR rfl ?_|refine aS rfl ?_|refine aB rfl ?_ ?_|refine aW rfl (λ_=>?_) (λ_=>?_)|refine aV rfl (λ_=>?_) (λ_=>?_)
   |((first|refine aA (λ_=>?_) (λ_=>?_)|refine aD (λ_=>?_) (λ_=>?_))<;>try refine sm ?_)
   |refine And.intro trivial ?_
   |refine And.intro asP ?_
   |refine bd rfl (λ_=>?_) (λ_=>?_)
   |refine And.intro ?_ ?_
  all_goals
   refine aY ?_;rw[show(AV.sl [] 0 (some 0)).frz=.sl (([]:List (List UInt8)).map AV.str) ([]:List (List UInt8)).length none from rfl];exact aa h.o
 have e:¬xs.length=0:=λc=>b (aqc.1 c)
 have f:(xs.map AV.str).all AV.one=true:=by rw[apF];intro a d;obtain⟨r,_,rfl⟩:=apz.1 d;rfl
 refine apo fW ?_;refine EE (i:=L.length) (l:=xs.map AV.str) asQ ?_;rw[show(AV.lsl L.length 0 xs.length none 1).snap L.length (xs.map AV.str)=.sl (xs.map AV.str) xs.length none from by simp[AV.snap,ap2],show(L++[Blk.cells (xs.map AV.str)]).set L.length .dead=L++[.dead]by simp];exact ac (by simp only[AV.refs];exact jb _ _) h.o
theorem YP{l:List Atr}{cap:Option Nat}(x:l.length<=1100000)(s:∀a∈l,a.2.length<=1100000)(h:K (.sl (aJ l) l.length none) L):
  apq 60 [.sl (aJ l) l.length cap] L K:=by
 replace h:=hid h;have t:Hid (∀{xs:List (List UInt8)}{c:Option Nat}(p:xs.length<=1100000){L:List Blk}{K:apr},K (.sl (xs.map AV.str) xs.length none) L->apq 47 [.sl (xs.map AV.str) xs.length c] L K):=@hid _ (by intro xs c p L K q;exact aag p q);refine apo aao ?_;refine bR (l:=[]) (n:=0) 3 2 rfl (apU 2).symm ?_;refine aj (λm T' L'=>∃(k:Nat) (C:List AV) (X:List Blk),m=l.length-k/\k<=l.length/\C=aJ (l.take k)/\T'=[(8,.int .i64 (k:Int)),(7,.int .i64 l.length),(6,.sl (aJ l) l.length cap),(3,.gsl C k L.length 2)]/\L'=L++(.spare k 2::X)) asT ⟨0,[],[],rfl,apv _,rfl,rfl,rfl⟩ ?_;rintro _ _ _ ⟨k,C,X,rfl,u,f,rfl,rfl⟩;by_cases b:k<l.length;have g1:(k:Int)<(l.length:Int):=asP;have w:=apn k asP;have j:=jF b;have v:k*2+2<=(aJ l).length:=by rw[iI];omega
 obtain⟨⟨nm,vs⟩,g⟩:∃a,l.getD k ([],[])=a:=⟨_,rfl⟩;have d:aJ (l.take (k+1))=aJ (l.take k)++[.str nm,.sl (vs.map AV.str) vs.length none]:=by rw[apK b,Wq,show l[k]=(nm,vs)by rw[<- g];simp[b]];rfl
 have e:=s (nm,vs) (by rw[<- g];simp[b]);simp only at e;rw[g]at j;simp only[atA]at j;have r:AV.frzL (vs.map AV.str)=vs.map AV.str:=iV vs;replace d:=hid d;replace f:=hid f;have kk1:Hid (∀{c:Option Nat}{L:List Blk}{K:apr},K (.sl (vs.map AV.str) vs.length none) L->apq 47 [.sl (vs.map AV.str) vs.length c] L K):=@hid _ (by intro c L K q;exact t.o e q);clear g s t;refine wk ?_;exact asU asP asS ⟨k+1,_,_,rfl,b,by rw[d.o,f.o],rfl,rfl⟩;have i:k=l.length:=asP;subst i;have g1:¬(l.length:Int)<(l.length:Int):=asP;rw[apJ]at f;subst f;have r:=fi l;refine wk ?_;refine aY ?_;simp only[AV.frz,r];exact ac (by simp only[AV.refs,ko]) h.o
theorem adk{L:List Blk}{iv mn mi:Nat}{nb bn:Int->Nat}{ck ci:Nat}{rs:List TKy}{suf:List Rdn}{last:Int}{l:List aC}(s:TOk suf last l)(p:∀x∈l,x.av.length<=1100000/\∀a∈x.av,a.2.length<=1100000)(g:b9 L iv mn mi nb bn ck ci rs suf last l){id:Int}{K:apr}(t:o7 l id=none->K (.tup [dnA [],atR []]) L)(h:∀x,o7 l id=some x->K (.tup [dnA x.nm,atR x.av]) L):
  apq 25 [.ptr iv 0,.int .i64 id] L K:=by
 have A:=g.v;have C:=g.n;have z:bT .int (.int .i64 id)=true:=rfl;rcases g.node id with⟨f,y⟩|⟨x,n,f,k,r,y,i⟩;replace h:=hid (t f);clear g f t p s;refine apo o9 ?_;refine aY ?_;rw[show(AV.tup [.sl [] 0 (some 0),.sl [] 0 (some 0)]).frz=.tup [dnA [],atR []]from rfl];exact aa h.o;replace h:=hid (h x f);unfold nC at i;have e:=(s.ok x k).m.b;have d:=p x k;obtain⟨B,j,u⟩:=x;simp only at i e d h;have kk1:Hid (∀{c:Option Nat}{L:List Blk}{K:apr},K (dnA j) L->apq 59 [.sl (j.map aq) j.length none,.sl [] 0 c] L K):=@hid _ (by intro c L K q;exact acF e.1 e.2 q);have kk2:Hid (Ctr Tryz.prog 60 [.sl (aJ u) u.length none] (atR u)):=@hid _ (by intro L K q;exact YP d.1 d.2 q);obtain⟨q,w⟩:=apl (bF (d8 l) (NK j));rw[w]at i;unfold atR at i kk2 h;clear g f t p s k r w e d;refine apo o9 ?_;exact aa h.o
theorem aow{a b:Pth}{F nb:Nat}{ca cb:Option Nat}(w:F=a.length)(f:nb=b.length)(G:a.length<=1100000)(h:K (.bool (decide (a=b))) L):
  apq 54 [.sl (aG a) F ca,.sl (aG b) nb cb] L K:=by
 subst w f;by_cases E:a.length=b.length;rotate_left;rw[decide_eq_false (λc=>E (by rw[c]))]at h;replace h:=hid h;have g:¬(a.length:Int)=(b.length:Int):=asP;refine apo gk ?_;exact aa h.o;obtain⟨n,q⟩:=apl (a.length);have f:b.length=n:=asP;obtain⟨R,v⟩:=apl (decide (a=b));rw[v]at h;replace h:=hid h;have i:decide (a.drop 0=b.drop 0)=R:=v;replace i:=hid i;rw[q,f];rw[q]at G;have J:(aG a).length=n:=by simp[q]
 have N:(aG b).length=n:=by simp[f]
 replace q:=hid q;replace f:=hid f;clear E v;refine apo gk ?_;refine aj (λm T' L'=>∃k:Nat,m=n-k/\k<=n/\Hid (decide (a.drop k=b.drop k)=R)/\T'=[(13,.int .i64 (k:Int)),(12,.int .i64 n),(0,.sl (aG a) n ca),(1,.sl (aG b) n cb)]/\L=L') (CutS (b:=apt _)) ⟨0,rfl,apv _,i,rfl,rfl⟩ ?_;rintro _ _ L' ⟨k,rfl,O,u,rfl,e⟩;subst e;clear i;have d:=u.o;by_cases l:k<n;have g1:(k:Int)<(n:Int):=asP;have M:=apn k asP;have l1:k<a.length:=by rw[q.o];exact l
 have t:k<b.length:=by rw[f.o];exact l
 have I:(aG a).getD k .undef=.str (a.getD k []):=by simp[l1]
 have H:(aG b).getD k .undef=.str (b.getD k []):=by simp[t]
 have D:a.drop k=a.getD k []::a.drop (k+1):=by rw[apY l1];simp[l1]
 have B:b.drop k=b.getD k []::b.drop (k+1):=by rw[apY t];simp[t]
 rw[D,B]at d;obtain⟨x,z⟩:=apl (a.getD k []);obtain⟨y,A⟩:=apl (b.getD k []);rw[z]at I d;rw[A]at H d;by_cases r:x=y;subst r;have p:decide (a.drop (k+1)=b.drop (k+1))=R:=by rw[<- d];simp
 replace p:=hid p;clear u d D B z A l1 t;refine wk ?_;exact asU asP asS ⟨k+1,rfl,l,hid p.o,rfl,rfl⟩;have s:R=false:=by rw[<- d];simp[r]
 have j:=h.o;rw[s]at j;replace j:=hid j;clear u d D B z A l1 t s;refine wk ?_;exact aa j.o;have C:k=n:=asP;subst C;have g1:¬(k:Int)<(k:Int):=asP;have s:R=true:=by rw[<- d,aro (by rw[q.o];exact apt _),aro (by rw[f.o];exact apt _)];rfl
 have j:=h.o;rw[s]at j;replace j:=hid j;clear u d s;refine wk ?_;exact aa j.o
open Go Go.MapKept
section
variable {P:Program}{w0:World}{S0:SB}{E:Env}{L:List Blk}{w:World}{T:Tm}{a:Act}{N:Nat}
theorem aI.mem1:∀{es:List (AV×AV×Nat)}{rs:List MapEntry}{f:MapEntry},aI E es rs->f∈rs->∃e∈es,VR E e.1 f.key/\VR E e.2.1 f.val/\e.2.2=f.born
 |[],rs,f,h,a=>by simp only[aI]at h;subst h;cases a
 | (k,x,b)::es,rs,f,h,a=>by
   obtain⟨g,t,rfl,g1,c,g3,g4⟩:=h;rcases apP.1 a with rfl|a
   .simp[*]
   .obtain⟨e,he,h1⟩:=aI.mem1 g4 a
    grind
theorem aI.mem2:∀{es:List (AV×AV×Nat)}{rs:List MapEntry}{e:AV×AV×Nat},aI E es rs->e∈es->∃f∈rs,e.2.2=f.born
 |[],rs,e,h,a=>by cases a
 | (k,x,b)::es,rs,e,h,a=>by
   obtain⟨g,t,rfl,g1,c,g3,g4⟩:=h;rcases apP.1 a with rfl|a
   .simp[*]
   .obtain⟨f,hf,h1⟩:=aI.mem2 g4 a
    grind
theorem aa4{t:TypeId}{v:Value}{i j ck a last:Nat}{seen:List Nat}{es:List (AV×AV×Nat)}(n:Rel w0 S0 E L w)(H:L[i]?=some (.miter (some j) a seen last))(O:L[j]?=some (.map es ck))(M:VR E (.ptr i 0) v)(C:∀e∈es,e.2.2<a)(s:a<=last):
  ∃r,(match r with|none=>∀e∈es,seen.contains e.2.2=true|some e=>e∈es/\seen.contains e.2.2=false)/\dA P w0 S0 E (abD L i j a seen ck r) (V0 r) w (Instr.next v false t):=by
 obtain⟨c,u,rfl⟩:=M;obtain⟨c',q,A,I,D,d,h4,rfl⟩:=n.blk i _ H;rw[u]at A;cases A;obtain⟨U,rs,g1,R,g3⟩:=n.blk j _ O;rw[h4]at g1;cases g1;have z:c.blk<w.heap.size:=(aqh.1 I).1;have k:∀x∈rs.toList,x.born<a:=λx K=>by
  obtain⟨e,o,_,_,h⟩:=g3.mem1 K
  grind
 rw[D];rcases run_next_at (P:=P) w t c.blk d.blk a last ⟨seen⟩ rs ck I R k s with⟨Q,g⟩|⟨f,J,p,F,g⟩;refine⟨none,λe o=>?_,.same n g (by simp[V0,VR,VRL])⟩;obtain⟨f,J,B⟩:=g3.mem2 o;have N:leftOf rs ⟨seen⟩=#[]:=Array.eq_empty_of_size_eq_zero Q;unfold leftOf at N;simp_all;have l:f∈rs.toList/\seen.contains f.born=false:=by simp only[leftOf,Array.toList_filter,ap8]at J;simp_all
 obtain⟨e,o,S,T,G⟩:=g3.mem1 l.1;have y:Rel w0 S0 E L p:=by rcases F with rfl|rfl;omega;exact n.grown ⟨λ_ _=>rfl,apt _,rfl,rfl,rfl⟩
 have m:c.blk<p.heap.size:=by rcases F with rfl|rfl<;>exact z
 have turn:=y.turn (w':={p with heap:=p.heap.setIfInBounds c.blk (.mapIter (some d.blk) a ((⟨seen⟩:Array Nat).push f.born) ck)}) (k':=.miter (some j) a (seen++[f.born]) ck) H rfl u asQ (λb B=>by simp[arV,Ne.symm B]) rfl rfl rfl
  ⟨c,some d.blk,u,by simp[m],D,d,h4,rfl⟩ (λ_ _ e=>by cases e)
 refine⟨some e,⟨o,by rw[G];exact l.2⟩,E,.tuple #[.bool true,f.key,f.val],_,g,.refl E,?_,?_⟩;simp only[V0,VR,VRL]
 grind
 simp only[abD,G];exact turn
def LOp.isNext:LOp->Bool
 |.mnext _=>true
 |_=>false
theorem afn{own:Nat}{s d:TypeId}{x:Opd}{a:LOp}(h:EO P own s d x=some a):a.isNext=false:=by
 unfold EO at h
 repeat' split at h
 all_goals (first|(cases h;rfl)|cases h)
theorem ahE{op:BinOp}{t:TypeId}{x y:Operand}{a:LOp}(h:SJ P op t x y=some a):a.isNext=false:=by
 unfold SJ at h
 repeat' split at h
 all_goals (first|(cases h;rfl)|cases h)
theorem aa1{own:Nat}{b:Builtin}{ts:List TypeId}{xs:List Opd}{a:LOp}(h:dI P own b ts xs=some a):a.isNext=false:=by
 unfold dI at h
 repeat' split at h
 all_goals (first|(cases h;rfl)|cases h|(simp only[ap6]at h;obtain⟨_,_,rfl⟩:=h;rfl))
theorem afm{own:Nat}{op:Op}{y:Opd}(h:kk P own op=some (.mnext y)):∃x,op=.next x false/\bV x=some y:=by
 cases op
 case next x isS =>
  simp only[kk]at h;split at h
  .simp_all
  simp_all
 case makeMap t r =>
  cases r with
  |some x=>simp[kk]at h
  | none =>
    simp only[kk]at h
    grind
 all_goals (exfalso;simp only[kk]at h;try (cases h;done))
 case binOp=>have:=ahE h;cases this
 case convert x=>simp only[aq3]at h;obtain⟨_,_,h⟩:=h;have:=afn h;cases this
 case call c =>
  split at h<;>try cases h
  split at h<;>try cases h
  .simp_all
  .have:=aa1 h;cases this
 all_goals
  repeat' split at h
  all_goals (first|cases h|(simp only[ap6]at h;obtain⟨_,_,h⟩:=h;cases h))
theorem amC{own:Nat->Nat->Nat}{Q:Exit->Tm->List Blk->Prop}{d t i j b last ck:Nat}{rest:List SOp}{f:List Bool}{seen:List Nat}{es:List (AV×AV×Nat)}(l:(okS rest&&(gds rest).isEmpty)=true)(ht:ay T t=some (.ptr i 0))(hi:L[i]?=some (.miter (some j) b seen last))(hj:L[j]?=some (.map es ck))(p:∀e∈es,e.2.2<b)(G:b<=last)(h0:(∀e∈es,seen.contains e.2.2=true)->SL P rest (aaQ f (Q .normal)) ((d,.tup [.bool false])::T) L)(h1:∀e∈es,seen.contains e.2.2=false->SL P rest (aaQ f (Q .normal)) ((d,.tup [.bool true,e.1,e.2.1])::T) (L.set i (.miter (some j) b (seen++[e.2.2]) ck))):
  AW P N own (.sreg (.op ⟨some d,.mnext (.tmp t),none⟩::rest) f) Q T L:=λc hc ro al w0 S0 E a w A=>by
 obtain⟨id,os,rfl,g⟩:=SP hc;rw[apw]at l;refine wpIn_region ?_;generalize List.range os.size=is at g⊢;cases is with
 |nil=>simp[cR,SOp.flatL,SOp.flat]at g
 | cons i0 is =>
   simp only[SOp.flatL,SOp.flat,aqa,apZ,cR]at g;split at g<;>try cases g
   rename_i lo X e1 e2;obtain⟨o,ho,ai,h,hd,hg⟩:=jc e1;rcases hg with⟨g1,_⟩|⟨_,_,_,_,_,_,g4⟩
   .simp only[wpOpsIn,ho];rw[if_pos (by simp[Region.wanted,g1])];have q:kk P (own id i0) o.op=some (.mnext (.tmp t)):=by
     rcases hq:kk P (own id i0) o.op with _|x
     .simp_all
     simp_all
    obtain⟨x,R,M⟩:=afm q;obtain⟨hR,Y,S,K⟩:=A;have z:=ao M (show evX T (.tmp t)=some (.ptr i 0)from ht) Y;obtain⟨r,D,E',v,w',W,m,H,J⟩:=aa4 (P:=P) (t:=o.type) hR hi hj z p G;have O:∀c,o.op≠.defer c:=λc e=>by rw[R]at e;cases e
    refine⟨λ_ _=>trivial,?_⟩;rw[Oper.semAt_plain _ _ _ O];have y:(execOp a.eval o).run P w=.ok (.value v) w':=by obtain⟨od,an,B,U,u,s⟩:=o;subst R;show(do pure (Next.value (<- Instr.next (a.eval x) false B)):Sem Next).run P w=_;simp[*]
    rw[y,Oper.uponIn_value];have n:St w0 S0 N E' (dj (some d) (V0 r) T) (abD L i j b seen ck r) (a.put o.dst v) w':=⟨J,by rw[h];exact(Y.mono m).putT (λk V=>by rw[S];exact hd k (by rw[h];exact V)) H,by rw[Zs];exact S,by rw[SA];exact K⟩;have F:Fr (gds rest) (dj (some d) (V0 r) T):=λk V=>by simp_all
    have C:SL P rest (aaQ f (Q .normal)) (dj (some d) (V0 r) T) (abD L i j b seen ck r):=by
     cases r with
     |none=>exact h0 D
     |some e=>exact h1 e D.1 D.2
    refine Ke rest l.1 e2 n F C λI T' L' a' ad q2 Z q4=>⟨w0,S0,I,sel f T',L',.refl _ _,m.trans q2,Z.2,q4.weak (λt v z=>OJ Z.1 z) rfl λ_ _ e=>.inr e⟩
   simp_all
end
end Go.Proofs.YtdnfjhflkkpokaaGreatDoor.Av
