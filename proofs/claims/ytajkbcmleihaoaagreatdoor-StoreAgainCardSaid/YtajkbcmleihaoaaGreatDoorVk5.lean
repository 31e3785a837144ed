/- Joined texts of the walk, made small by a program. -/
import Derived.Test.YtajkbcmleihaoaaGreatDoorVk4
import Derived.WalkKit
import Derived.ProofKit
import Derived.OpenShut
import Derived.JoinedCond
import Derived.SizedLaws
import Derived.Sort.Grow
import Derived.Deep.Draws
import Derived.Lib.LaidTab
import Derived.Stop.LaidErr
import Derived.Test.YtajkbcmleihaoaaGreatDoorProg
import Derived.Shelf.Lay
import Derived.Lib.LaidU8T
import Derived.Shelf.Vars
set_option linter.unusedSimpArgs false
set_option linter.unusedVariables false
namespace Go.Proofs.YtajkbcmleihaoaaGreatDoor.Av
open Go Go.ChangeShapes Go.WideShapes Go.ChangeAt Go.RowKit
variable {P:Program}{t e:TypeId}{X Y H:Type}{w W:World}{n N g:Nat}{v:Value}{f:FuncId}{E:Env}{L:List Blk}{own:Nat->Nat->Nat}{l:List AV}{A B:Prop}
def yU(w:World):Env:={mem:=λb o=>w.cell? ⟨b,o,none⟩,loc:=λ_=>none,tok:=λ_=>none}
theorem Rel.start(w:World)(a:s6 (yU w).mem/\v7 w):Rel w ⟨λ_=>False,0⟩ (yU w) [] w where
 mem _ _ _ h:=h
 blk _ _ h:=by simp at h
 fresh _ _:=rfl
 own _ _ _ h:=by simp at h
 inj _ _ _ _ _ _ h:=by simp at h
 tkfresh _ _:=rfl
 tkown _ _ _ _ _ h:=by simp at h
 tkloc _ _ _ _ _ _ _ _ h:=by simp at h
 tkinj _ _ _ _ _ _ _ _ _ _ h:=by simp at h
 frame _ _ _:=rfl
 size:=ae0 _
 os:=rfl
 tape:=rfl
 output:=rfl
 glob:=a.1
 gsz:=a.2
def Rd(P:Program)(t:TypeId){X:Type}(ec:X->List AV)(ok:X->Prop):Prop :=
 ∀(H:Type) (enc:TypeId×Value->H) (w:World) (fuel:Nat) (cs:List Value) (x:DataW H×List MemPlace),
  DataW.trod enc P w 0 (λ_=>true) true fuel t cs=some x->∃y,ok y/\VRL (yU w) (ec y) cs
theorem Rd.map{d:X->List AV}{ok:X->Prop}{a:Y->List AV}{b:Y->Prop}(h:Rd P t d ok)(m:∀y,ok y->∃z,b z/\a z=d y):Rd P t a b:=λH enc w c cs x g=>by obtain⟨y,f,e⟩:=h H enc w c cs x g;obtain⟨z,i,h4⟩:=m y f;exact⟨z,i,by rw[h4];exact e⟩
theorem abz(d:P.underlying t=some .bool):Rd P t (λb:Bool=>[.bool b]) (λ_=>True):=λH enc w a cs x c=>by obtain⟨b,rfl,_⟩:=DataW.trod_bool d c;exact⟨b,trivial,by simp[VRL,VR]⟩
theorem adk{k:IntKind}(d:P.underlying t=some (.int k)):Rd P t (λn:Int=>[.int k n]) (λn=>k.min<=n/\n<=k.max):=λH enc w b cs x c=>by obtain⟨n,rfl,_,a⟩:=DataW.trod_int d c;simp only[Lit.wf,ae7,decide_eq_true_eq]at a;exact⟨n,a,by simp[VRL,VR]⟩
theorem W2{E:Env}:∀{l m:List AV}{b o:Nat},VRC E l b o->VRC E m b (o+l.length)->VRC E (l++m) b o
 |[],_,_,_,_,h=>by simpa using h
 |a::l,m,b,o,h,k=>by simp only[afI,VRC]at h⊢;exact⟨h.1,W2 h.2 (by rw[show o+1+l.length=o+(l.length+1)by omega];exact k)⟩
theorem RF{X:Type}(Q:Nat->X->Prop):∀n,(∀i,i<n->∃y,Q i y)->∃b:List X,b.length=n/\∀i y,b[i]?=some y->Q i y
 |0,_=>⟨[],rfl,ah4⟩
 | n+1,h=>by
   obtain⟨b,g,d⟩:=RF Q n λi c=>h i ah3
   obtain⟨y,f⟩:=h n ah3;refine⟨b++[y],by simp[g],λi z a=>?_⟩;rw[agh]at a;split at a
   .exact d i z a
   .have c:i-b.length=0:=by
     rcases agf (i-b.length)with e|e
     .exact e
     .rw[afV (by simp;omega)]at a;cases a
    rw[c]at a;simp at a;subst a;rw[show i=n by omega];exact f
theorem UJ{E:Env}{X:Type}{c:X->List AV}{b sz:Nat}:∀{a:List X}{o:Nat},(∀i y,a[i]?=some y->(c y).length=sz/\VRC E (c y) b (o+i*sz))->VRC E (a.flatMap c) b o
 |[],_,_=>by simp[VRC]
 |y::a,o,h=>by rw[afT];have d:=h 0 y rfl;refine W2 (by simpa using d.2) (UJ (sz:=sz) λi z e=>?_);have:=h (i+1) z e;refine⟨this.1,?_⟩;rw[d.1,show o+sz+i*sz=o+(i+1)*sz by rw[af4];omega];exact this.2
theorem QF{a:Addr}{cs:List Value}(h:w.cells? 0 a n=some cs):cs.length=n/\∀i,i<n->w.cell? (a.add i)=cs[i]?:=by simp only[World.cells?,ae5,if_true]at h;refine⟨by simpa using mapM_some_length h,λi b=>?_⟩;exact mapM_some_get h i i (by simp[b])
theorem Yg{a:Addr}(h:w.cell? a=some v):a.spot=none:=by rcases hs:a.spot with _|s;rfl;simp only[World.cell?,hs,Option.isSome_some,if_true]at h;split at h<;>cases h
theorem Vg{base:Nat}(a:lr P t=some false)(h:Value.okWide P w .any base t v):v.cells.toList=[v]:=by
 unfold lr at a;unfold Value.okWide at h;split at a;cases a;cases a
 .rename_i d h1 h2 hu;rw[hu]at h;split at h;rename_i e;cases e;exact absurd rfl (h1 _);rename_i e;cases e;exact absurd rfl (h2 _ _)
  .cases v<;>try rfl
   rename_i cs;unfold Cell.okWide at h;split at h<;>try (rename_i c b;cases b)
   unfold Cell.ok at h;split at h<;>first|(rename_i c b;cases b;done)|cases h
 cases a
theorem TE{enc:TypeId×Value->H}{f:Func}{s:ChangeSpec}{g fresh d again:Bool}{m:World}{args:Array Value}{ds q:List (DataW H)}{a pa pv:List MemPlace}(y:DataW.Whole enc P f.params.toList s.vars g W args.toList ds q a)(k:∀(b:Nat) (sp:Nat->Bool) (hd:Bool),DataW.TrodAll enc P m b sp hd f.resultTypes.toList (v.resultList f.resultTypes.size) (s.fn H (ds++q)).results [])(c:∀sp:Nat->Bool,(∀p∈a,sp p.block=true)->DataW.TrodAll enc P m 0 sp true f.params.toList args.toList (s.fn H (ds++q)).args pa)(e:∀sp:Nat->Bool,(∀p∈a,sp p.block=true)->DataW.TrodVars enc P m sp s.vars (s.fn H (ds++q)).vars pv)(h:a=pa++pv)(z:W.keptBut m (·∈a))(x:∀b o,b<W.heap.size->m.frozen? ⟨b,o,none⟩=W.frozen? ⟨b,o,none⟩)(w:∀(j:Nat) (t:TypeId) (r:Value),f.resultTypes[j]?=some t->(v.resultList f.resultTypes.size)[j]?=some r->Value.okWide P m .any 0 t r):
  s.post enc P f g fresh d again W args v m:=by
 have u:=y.lt;have l:∀p∈a,(λb=>decide (b<W.heap.size)) p.block=true:=λp i=>by simpa using u p i
 refine⟨ds,q,a,[],pa,pv,y,k _ _ _,c _ l,e _ l,World.keptBut_mono (λp i=>⟨i,?_⟩) z,λ_=>?_⟩;rw[h,ae2]at i;exact Or.inr i;obtain⟨_,_,_,_,_,A,C⟩:=y;refine⟨w,_,_,([]++pa)++pv,⟨[]++pa,pv,trodAll_append (c _ (λ_ _=>rfl)) (k _ _ _),e _ (λ_ _=>rfl),rfl,?_,?_⟩,?_⟩;intro b off i;have n:MemPlace.cell b off∈a:=by rw[h];simpa using i
 rw[x b off (u _ n)];exact A b off n;intro B;have:=C B;rw[h]at this;simpa using this;intro p i _;rw[h];simpa using i
def Jq(P:Program):Bool:=(List.range P.types.size).all λt=>match P.underlying t with|some (.slice e)=>decide (0<P.cellsOf e)|_=>true
theorem Hn{H:Type}{enc:TypeId×Value->H}{P:Program}{W j:World}(b:laidOutB P=true)(c:mapsRowed P=true)(a:Jq P=true):
  ∀{ts:List TypeId}{vs:List Value}{ds:List (DataW H)}{ps:List MemPlace},(∀t∈ts,t<P.types.size)->DataW.TrodAll enc P W 0 (λ_=>true) true ts vs ds ps->(∀p∈ps,W.sameAt j p) ->
  ∀sp:Nat->Bool,(∀p∈ps,sp p.block=true)->DataW.TrodAll enc P j 0 sp true ts vs ds ps
 |[],_,_,_,_,h,_,_,_=>by obtain⟨rfl,rfl,rfl⟩:=trodAll_nil h;exact trodAll_mk0
 | t::ts,_,_,_,hts,h,hs,sp,hsp=>by
   obtain⟨v,n,d,m,p,q,rfl,rfl,rfl,g,k⟩:=trodAll_cons h;obtain⟨f,g⟩:=g;refine trodAll_cons_mk ⟨f,DataW.trod_stays (kids_rows b c) (λ{t e} l i=>?_) (λe=>by cases e) (hts t ah4) g (λr hr=>hs r (af9 _ hr)) (λr hr=>hsp r (af9 _ hr))⟩
    (Hn b c a (λu i=>hts u (by simp[i])) k (λr hr=>hs r (agx _ hr)) sp (λr hr=>hsp r (agx _ hr)))
   have:=afd.1 a t (List.mem_range.2 l);rw[i]at this;simpa using this
theorem Pv{H:Type}{enc:TypeId×Value->H}{P:Program}{w:World}{base:Nat}{a:Nat->Bool}{b:Bool}:∀{ts:List TypeId}{vs:List Value}{ds:List (DataW H)}{ps:List MemPlace},DataW.TrodAll enc P w base a b ts vs ds ps->ds.length=ts.length
 |[],_,_,_,h=>by obtain⟨_,rfl,_⟩:=trodAll_nil h;rfl
 |t::ts,_,_,_,h=>by obtain⟨v,f,d,e,p,q,rfl,rfl,rfl,_,c⟩:=trodAll_cons h;simp[Pv c]
theorem Q8{fn:Func}{s:ChangeSpec}{k fresh d again:Bool}{tb:TypeId}(M:P.funcs[f]?=some fn)(w:fn.body.isSome=true)(z:(fn.name == "runtime.NumGoroutine")=false)(A:laidOutB P=true)(E:mapsRowed P=true)(u:Jq P=true)(K:fn.params.toList.all (fun t=>decide (t<P.types.size))=true)(m:fn.resultTypes=#[tb])(n:P.underlying tb=some .bool)(g:s.vars=[])(Z:∀ (H:Type) (ds:List (DataW H)),ds.length=fn.params.toList.length->(s.fn H ds).results=[.lit (.bool true)]/\(s.fn H ds).args=ds/\(s.fn H ds).vars=[]){T:X->List AV}{ok:X->Prop}(F:∀ y,ok y->ac P f (T y) [] fun av _=>av=.bool true)(enc:TypeId×Value->H)(W:World)(args:Array Value)(ds gs:List (DataW H))(l:List MemPlace)(hA:∀ p,DataW.TrodAll enc P W 0 (fun _=>true) true fn.params.toList args.toList ds p->∃ y,ok y/\VRL (yU W) (T y) args.toList)(O:DataW.Whole enc P fn.params.toList s.vars k W args.toList ds gs l)(x:s6 (yU W).mem/\v7 W):
  Calls P f args W λe G=>∃v,e=.returned v/\s.post enc P fn k fresh d again W args v G:=by
 have I:=O;have S:=O.lt;obtain⟨p,q,B,V,rfl,ab,ad⟩:=O;rw[g]at V;obtain⟨rfl,rfl⟩:=trodVars_none V;obtain⟨y,hy,Q⟩:=hA p B;have C:=Pv B;obtain⟨e1,e2,e3⟩:=Z H ds C;have D:(callFunc f args).run P W=.ok (.enter f args) W:=by
  simp only[callFunc,ae8,run_program,ae9,M,z];cases n:fn.body with
  |none=>simp[n]at w
  |some c=>simp
 rcases F y hy W ⟨λ_=>False,0⟩ (yU W) W args.toList (Rel.start W x) Q with⟨_,h⟩|⟨_,_,_,_,_,h,_⟩;refine h.mono λe G ⟨E',v,av,L',he,_,J,U,R⟩=>?_
 subst J;simp only[VR]at U;subst U;refine⟨_,he,?_⟩;have a:∀b,b<W.heap.size->G.heap[b]?=W.heap[b]?:=λb n=>R.frame b n (λh=>h)
 have N:∀r∈p,W.sameAt G r:=λr hr=>by have:=S r (by simpa using hr);cases r<;>simp only[World.sameAt,MemPlace.block]at this⊢;simp only[World.cell?];rw[a _ this];exact a _ this
 refine TE (pa:=p) (pv:=[]) I (λb sp hd=>?_) (λsp L=>?_) (λ_ _=>?_) rfl ⟨R.os,R.output,λi Y=>?_⟩ (λb o n=>?_) (λj t r h1 h2=>?_);rw[afq,e1,m];exact trodAll_cons_mk (shut_bool n _) trodAll_mk0;rw[afq,e2];exact Hn A E u (λt ht=>by simpa using afd.1 K t ht) B N sp (λr hr=>L r (by simpa using hr));rw[g,afq,e3];rfl;rw[a i Y];rcases hc:W.heap[i]? with _|o;trivial;cases o<;>simp;simp only[World.frozen?];rw[a b n];exact ok_one m rfl (okWide_bool_mk n _) j t r h1 h2;rw[show(⟨args.toList⟩:Array Value)=args from rfl,D]at h;cases h
open Go Go.ChangeShapes Go.WideShapes Go.ChangeAt
set_option maxHeartbeats 8000000
set_option maxRecDepth 100000
def RdZ(P:Program)(t:TypeId){X:Type}(ec:X->List AV)(ok:X->Prop):Prop :=
 ∀(H:Type) (enc:TypeId×Value->H) (w:World) (fuel:Nat) (cs:List Value) (x:DataW H×List MemPlace),
  DataW.trod enc P w 0 (λ_=>true) true fuel t cs=some x->(∀n∈x.1.weights P t,n<=reachBytes)->∃y,ok y/\VRL (yU w) (ec y) cs
theorem Rd.z{b:X->List AV}{ok:X->Prop}(h:Rd P t b ok):RdZ P t b ok:=λH enc w a cs x c _=>h H enc w a cs x c
theorem Pc(d:P.underlying t=some .string):RdZ P t (λs:List UInt8=>[.str s]) (λs=>s.length<=reachBytes):=λH enc w a cs x b c=>by obtain⟨s,rfl,rfl,e⟩:=DataW.trod_string d b;exact⟨s.data.toList,c _ (by simp[DataW.weights]),by simp[VRL,VR]⟩
theorem Ek{H:Type}{P:Program}{e:TypeId}:∀{l:List (DataW H)}{d:DataW H},d∈l->∀n∈d.weights P e,n∈DataW.weightsAll P e l
 | a::l,d,h,n,hn=>by
   rw[DataW.weightsAll];rcases afp.1 h with rfl|h
   .exact af9 _ hn
   .exact agx _ (Ek h n hn)
theorem qS{F:X->List AV}{ok:X->Prop}(U:P.underlying t=some (.slice e))(he:RdZ P e F ok)(N:decide (0<P.cellsOf e)=true):
  RdZ P t (λl:List X=>[.sl (l.flatMap F) l.length none]) (λl=>l.length<=maxLen/\∀y∈l,ok y):=λH enc w Q cs x hx M=>by
 have Y:0<P.cellsOf e:=of_decide_eq_true N;rcases DataW.trod_slice U hx with⟨rfl,_⟩|⟨a,len,cap,elems,rest,n,_,rfl,rfl,_,ab,R,ad,p,g,_⟩;exact⟨[],⟨ah4,ah4⟩,by simp only[VRL,VR];exact⟨_,_,rfl,⟨none,0,rfl,ae0 _,ah4,.inl ⟨rfl,rfl,rfl⟩⟩,rfl⟩⟩;have c:cap≠0->a.spot=none:=λK=>by
  have f:∀r:Option (DataW H×List MemPlace),r≠none->(w.cells? 0 (a.add (0*P.cellsOf e)) (P.cellsOf e)).bind (DataW.trod enc P w 0 (λ_=>true) true n e)=r->a.spot=none:=λr hr z=>by obtain⟨q,rfl⟩:=Option.ne_none_iff_exists'.1 hr;rw[agM]at z;obtain⟨h,A,_⟩:=z;obtain⟨h6,J⟩:=QF A;have G:=J 0 Y;obtain⟨v,hv⟩:∃v,h[0]?=some v:=⟨h[0]'ah3,afn _⟩;rw[hv]at G;have:=Yg G;simpa[Addr.add]using this
  by_cases V:len=0;obtain⟨r1,r2⟩:=g rfl;exact f rest[0]? (by rw[afn ah3];simp) (by simpa[V]using r2 0 ah3)
  exact f elems[0]? (by rw[afn ah3];simp) (p 0 ah3)
 have B:∀i,i<len->∃y,ok y/\(F y).length=P.cellsOf e/\a.spot=none/\VRC (yU w) (F y) a.block (a.off+i*P.cellsOf e):=λi I=>by
  have z:=p i I;obtain⟨q,O⟩:∃q,elems[i]?=some q:=⟨elems[i]'ah3,afn _⟩;rw[O,agM]at z;obtain⟨h,A,h3⟩:=z;obtain⟨y,h4,T⟩:=he H enc w n h q h3 (λm hm=>M m (by simp only[DataW.weights,U];refine agB _ (af9 _ (Ek (d:=q.1) ?_ m hm));exact ae1.2 ⟨q,af0 O,rfl⟩))
  obtain⟨h6,J⟩:=QF A;have V:=T.length;have g:a.spot=none:=c ah3;refine⟨y,h4,ah3,g,VRC.of_get λj u S=>?_⟩;obtain⟨v,G,Z⟩:=T.get S;refine⟨v,?_,Z⟩;have hj:j<P.cellsOf e:=by have:=(aeY.1 S).1;omega
  have C:=J j hj;rw[G]at C;rw[<- C];have D:∀k,a.add k=⟨a.block,a.off+k,none⟩:=λk=>by obtain⟨b,o,s⟩:=a;simp only at g;subst g;exact Addr.add_mk b o k
  rw[D,Addr.add_mk];rfl
 obtain⟨L,z,A⟩:=RF _ len B;refine⟨L,⟨ah3,λy E=>?_⟩,?_⟩;obtain⟨i,I⟩:=List.getElem?_of_mem E;exact(A i y I).1;simp only[VRL];refine⟨_,[],rfl,?_,rfl⟩;simp only[VR];refine⟨_,_,by rw[z],ah3,ah4,?_⟩;by_cases K:cap=0;have:L=[]:=by have:L.length=0:=ah3;simpa using this
 subst this;exact .inl ⟨rfl,K,rfl⟩;refine .inr ⟨a.block,a.off,?_,UJ λi y E=>⟨(A i y E).2.1,(A i y E).2.2.2⟩⟩;have W:a.spot=none:=c K;cases a;simp only at W⊢;rw[W]
theorem wo{H:Type}{P:Program}{us:List TypeId}{a:List (DataW H)}{n:Nat}:∀{ts:List TypeId}{ds:List (DataW H)},n∈DataW.weightsEach P ts ds->n∈DataW.weightsEach P (ts++us) (ds++a)
 |[],_,h=>by simp[DataW.weightsEach]at h
 |_::_,[],h=>by simp[DataW.weightsEach]at h
 | t::ts,d::ds,h=>by
   simp only[afI,DataW.weightsEach,ae2]at h⊢;rcases h with h|h
   .exact .inl h
   .exact .inr (wo h)
def acv(P:Program)(N o:Nat)(fs:List Field){X:Type}(ec:X->List AV)(ok:X->Prop):Prop :=
 ∀(H:Type) (enc:TypeId×Value->H) (w:World) (n:Nat) (cs:List Value),cs.length=N ->
  (∀f∈fs,∃x,DataW.trod enc P w 0 (λ_=>true) true n f.type ((cs.drop f.offset).take (P.cellsOf f.type))=some x/\∀m∈x.1.weights P f.type,m<=reachBytes)->∃y,ok y/\VRL (yU w) (ec y) (cs.drop o)
theorem PF{o:Nat}(h:o=N):acv P N o [] (λ_:Unit=>[]) (λ_=>True):=λH enc w n cs a _ =>
 ⟨(),trivial,by simp[VRL,h,<- a]⟩
theorem j8{o sz:Nat}{f:Field}{d:List Field}{e:X->List AV}{ok:X->Prop}{a:Y->List AV}{b:Y->Prop}(s:f.offset=o)(j:P.cellsOf f.type=sz)(h:RdZ P f.type e ok)(r:acv P N (o+sz) d a b):
  acv P N o (f::d) (λy:X×Y=>e y.1++a y.2) (λy=>ok y.1/\b y.2):=λH enc w n cs l c=>by
 obtain⟨x,m,p⟩:=c f ah4;obtain⟨y,i,t⟩:=h H enc w n _ x m p;obtain⟨z,h4,k⟩:=r H enc w n cs l λg q=>c g (by simp[q])
 refine⟨(y,z),⟨i,h4⟩,?_⟩;have:cs.drop o=(cs.drop f.offset).take (P.cellsOf f.type)++cs.drop (o+sz):=by rw[s,j,<- agE,ago]
 rw[this];exact t.append k
theorem Ju{h:Array Field}{p:X->List AV}{ok:X->Prop}(o:P.underlying t=some (.struct h))(z:P.cellsOf t=N)(r:acv P N 0 h.toList p ok):RdZ P t p ok:=λH enc w l cs x A k=>by
 subst z;obtain⟨xs,n,_,rfl,s,a,B⟩:=DataW.trod_struct o A;obtain⟨y,v,q⟩:=r H enc w n cs s λf e=>by
  obtain⟨i,c⟩:=List.getElem?_of_mem e;have g:h[i]?=some f:=(by simpa using c);rw[B i f g];have b:i<xs.length:=by rw[a];have:=(aeY.1 c).1;simpa using this
  refine⟨xs[i],afn b,λm u=>k m ?_⟩;simp only[DataW.weights,o];refine DataW.weights_mem_each (j:=i) (t:=f.type) (d:=xs[i].1) ?_ ?_ m u;rw[afS,c];rfl;rw[afS,afn b];rfl
 exact⟨y,v,by simpa using q⟩
def acw(P:Program)(ts:List TypeId){X:Type}(ec:X->List AV)(ok:X->Prop):Prop :=
 ∀(H:Type) (enc:TypeId×Value->H) (w:World) (base:Nat) (vs:List Value) (ds:List (DataW H)) (ps:List MemPlace),
  (∀(j:Nat) t v,ts[j]?=some t->vs[j]?=some v->Value.okWide P w .any base t v) ->
  DataW.TrodAll enc P w 0 (λ_=>true) true ts vs ds ps->(∀n∈DataW.weightsEach P ts ds,n<=reachBytes)->∃y,ok y/\VRL (yU w) (ec y) vs
theorem Zh :acw P [] (λ_:Unit=>[]) (λ_=>True):=λH enc w base vs ds ps _ h _=>by obtain⟨rfl,_,_⟩:=trodAll_nil h;exact⟨(),trivial,by simp[VRL]⟩
theorem TB{ts:List TypeId}{a:X->AV}{ok:X->Prop}{c:Y->List AV}{f:Y->Prop}(A:lr P t=some false)(h:RdZ P t (λy=>[a y]) ok)(r:acw P ts c f):
  acw P (t::ts) (λy:X×Y=>a y.1::c y.2) (λy=>ok y.1/\f y.2):=λH enc w base vs ds ps l D i=>by
 obtain⟨v,k,d,s,p,q,rfl,rfl,rfl,m,C⟩:=trodAll_cons D;obtain⟨g,m⟩:=m;obtain⟨y,E,h4⟩:=h H enc w g _ _ m (λn o=>i n (by rw[DataW.weightsEach];exact af9 _ o));obtain⟨z,B,F⟩:=r H enc w base k s q (λj t v a b=>l (j+1) t v a b) C (λn o=>i n (by rw[DataW.weightsEach];exact agx _ o));refine⟨(y,z),⟨E,B⟩,?_⟩;rw[Vg A (l 0 t v rfl rfl)]at h4;simp only[VRL]at h4⊢;obtain⟨x,xs,e,u,_⟩:=h4;cases e;exact⟨v,k,rfl,u,F⟩
open Go Go.ChangeShapes Go.WideShapes Go.ChangeAt
theorem RdZ.map{d:X->List AV}{ok:X->Prop}{a:Y->List AV}{b:Y->Prop}(h:RdZ P t d ok)(m:∀y,ok y->∃z,b z/\a z=d y):RdZ P t a b:=λH enc w c cs x i e=>by obtain⟨y,g,f⟩:=h H enc w c cs x i e;obtain⟨z,j,h4⟩:=m y g;exact⟨z,j,by rw[h4];exact f⟩
structure QZ(w w':World):Prop where
 heap:∀b,b<w.heap.size->w'.heap[b]?=w.heap[b]?
 size:w.heap.size<=w'.heap.size
 os:w'.os=w.os
 tape:w'.tape=w.tape
 output:w'.output=w.output
theorem QZ.refl(w:World):QZ w w:=⟨λ_ _=>rfl,ae0 _,rfl,rfl,rfl⟩
theorem Rel.grown{w0:World}{S0:SB}{w':World}(h:Rel w0 S0 E L w)(g:QZ w w'):Rel w0 S0 E L w':=by
 refine⟨λb o v j=>?_,λi k a=>?_,h.fresh,h.own,h.inj,h.tkfresh,h.tkown,h.tkloc,h.tkinj,λk a l=>?_,afw h.size g.size,g.os.trans h.os,g.tape.trans h.tape,g.output.trans h.output,h.glob,
  h.gsz.mod λb cs ty fr f=>⟨cs,ty,fr,by rw[g.heap b (afJ.1 f).1];exact f,rfl⟩⟩
 have:=h.mem b o v j;simp only[World.cell?]at this⊢;rw[g.heap b (h.mem_lt j)];exact this;cases hl:k.live;refine bg.still hl rfl (λt c n sz e m d=>?_) (h.blk i k a);subst e;exact g.heap _ (h.tok_lt a m d);exact bg.worldL hl (λc d=>g.heap _ (h.loc_lt a hl d)) (h.blk i k a);rw[g.heap k (af8 a h.size)];exact h.frame k a l
theorem iN{fn:Func}(k:P.funcs[f]?=some fn)(a:fn.body.isSome=true)(j:(fn.name == "runtime.NumGoroutine")=false){args:List AV}{K:AV->List Blk->Prop}{r:AV}(i:∀ (w0:World) (S0:SB) (E:Env) (w:World) (vs:List Value),Rel w0 S0 E L w->VRL E args vs->Calls P f ⟨vs⟩ w fun e w'=>∃ v,e=.returned v/\VR E r v/\QZ w w')(b:K r L):ac P f args L K:=fun w0 S0 E w vs hR hv=>by
 refine .inl ⟨?_,(i w0 S0 E w vs hR hv).mono λe w' ⟨v,g,d,l⟩=>⟨E,v,r,L,g,.refl E,b,d,hR.grown l⟩⟩;simp only[callFunc,ae8,run_program,ae9,k,j];cases h:fn.body with
 |none=>simp[h]at a
 |some c=>simp
theorem aaP{Q:Exit->Tm->List Blk->Prop}{T:Tm}{X:List Blk}{lc:aT}(t sz k:Nat)(c:X.length=k)(b:ar T t=some (.sl l n (some n)))(a:l.length=n*sz)(h:AW P N own lc Q ((t,.gsl l n (L.length+k) sz)::T) (L++(X++[.spare n sz]))):AW P N own lc Q T (L++X):=by refine cG t sz b a ?_;simp[*]
theorem Rel.reblk{w0:World}{S0:SB}(h:Rel w0 S0 E L w){i:Nat}{c c':List AV}(s:L[i]?=some (.cells c))(o:c'.length=c.length)(P:∀(j:Nat) (A:AV),c'[j]?=some A->∃a,c[j]?=some a/\∀v,VR E a v->VR E A v):Rel w0 S0 E (L.set i (.cells c')) w:=by
 have f:i<L.length:=(aeY.1 s).1;have l:∀(j:Nat) (k:Blk),(L.set i (.cells c'))[j]?=some k->k.live=true->∃k',L[j]?=some k'/\k'.live=true:=λj k g r=>by rw[afC]at g;split at g;rename_i e;subst e;exact⟨_,s,rfl⟩;simp[*]
 have b:∀(j n sz:Nat),(L.set i (.cells c'))[j]?=some (.spare n sz)->L[j]?=some (.spare n sz):=λj n sz g=>by grind
 refine⟨h.mem,λj k g=>?_,λi f=>h.fresh i (by simpa using f),λi k c g r I=>?_,λi j k k' c c' f J z K=>?_,
  λi f=>h.tkfresh i (by simpa using f),λi n sz t d f=>h.tkown i n sz t d (b i n sz f),λi n sz t d j k' c' f y hd z r=>?_,
  λi n sz t d C B q t' F f y hd u=>h.tkinj i n sz t d C B q t' F (b i n sz f) y hd (b C B q u),h.frame,h.size,h.os,h.tape,h.output,h.glob,h.gsz⟩
 rw[afC]at g;split at g;rename_i e;subst e;cases g;obtain⟨cl,cs,ty,fr,g1,H,g3,g4,O,D⟩:=h.blk _ _ s;refine⟨cl,cs,ty,fr,g1,H,g3,by rw[o];exact g4,λj a N=>?_,D⟩
 grind
 exact h.blk j k g;obtain⟨k',m,p⟩:=l i k g r;exact h.own i k' c m p I;obtain⟨x,m,p⟩:=l i k f J;obtain⟨G,M,h4⟩:=l j k' z K;exact h.inj i j x G c c' m p M h4;obtain⟨x,m,p⟩:=l j k' z r;exact h.tkloc i n sz t d j x c' (b i n sz f) y hd m p
theorem VR.grow{i sz:Nat}(d:E.tok i=some ⟨n,sz,none⟩)(b:l.length=n*sz)(h:VR E (.sl l n (some n)) v):VR E (.gsl l n i sz) v:=by obtain⟨p,c',f,a,e,c⟩:=h;exact⟨p,c',f,a,b,c,⟨n,sz,none⟩,d,ae0 _,λ_=>⟨rfl,λ_=>e n rfl,ah4⟩⟩
theorem My{Q:Exit->Tm->List Blk->Prop}{T:Tm}{lc:aT}(i j sz:Nat){c:List AV}(m:L[i]?=some (.cells c))(G:c[j]?=some (.sl l n (some n)))(B:l.length=n*sz)(h:AW P N own lc Q T (L.set i (.cells (c.set j (.gsl l n L.length sz)))++[.spare n sz])):AW P N own lc Q T L:=λu x r hr w0 S0 E a w d=>by
 obtain⟨q,A⟩:=d.1.addtok (n:=n) (sz:=sz) (lc:=none) Nm;have o:i<L.length:=(aeY.1 m).1;have g:(L++[Blk.spare n sz])[i]?=some (.cells c):=by rw[ae3 o];exact m
 have p:=A.reblk g (c':=c.set j (.gsl l n L.length sz)) ah4 λk s f=>by rw[afC]at f;split at f;rename_i e;subst e;split at f;cases f;exact⟨_,G,λv z=>VR.grow ah4 B z⟩;simp[*];simp[*]
 rw[agP _ _ o]at p;exact wpIn_mono (h u x r hr w0 S0 _ a w ⟨p,d.2.1.mono q,d.2.2⟩) λe s w' ⟨D,C,E',T1,L1,b,y,t,F⟩=>⟨D,C,E',T1,L1,b,q.trans y,t,F⟩
theorem sk(h:B)(e:Hid B->A:=by intro hB_;simp only[Kon,push_cast,reduceIte,Nat.reduceEqDiff,Nat.reduceAdd,Nat.reduceMul,Nat.reduceSub,Nat.reduceLT,Nat.reduceLeDiff,Int.reduceLT,Int.reduceLE,Int.reduceAdd,Int.reduceSub,Int.reduceNeg,Int.reduceToNat,Int.reduceEq,reduceCtorEq, *];exact hB_.o):A:=e (hid h)
theorem sm(h:B)(e:Hid B->A:=by intro hB_;simp(config:={maxSteps:=2000000}) only[Kon,push_cast,reduceIte,Nat.reduceEqDiff,Nat.reduceAdd,Nat.reduceMul,Nat.reduceSub,Nat.reduceLT,Nat.reduceLeDiff,Int.reduceLT,Int.reduceLE,Int.reduceAdd,Int.reduceSub,Int.reduceNeg,Int.reduceToNat,Int.reduceEq,reduceCtorEq, *];exact hB_.o):A:=e (hid h)
theorem sl(h:B)(e:Hid B->A:=by intro hB_;simp only[push_cast,reduceIte,Nat.reduceEqDiff,Nat.reduceAdd,Nat.reduceMul,Nat.reduceSub,Nat.reduceLT,Nat.reduceLeDiff,Int.reduceLT,Int.reduceLE,Int.reduceAdd,Int.reduceSub,Int.reduceNeg,Int.reduceToNat,Int.reduceEq,reduceCtorEq, *];exact hB_.o):A:=e (hid h)
theorem wk(h:B)(e:Hid B->A:=by
 intro hB_
 repeat' first
  |refine lF ?_
  | (first|refine jO ah5 ?_|refine fW ah5 ?_|refine fZ ?_|refine Eb ?_|refine oA (fun _=>?_)|refine ed ?_|refine jQ ?_|refine kk1.o _ _ ?_|refine kk1.o ?_|refine kk2.o _ _ ?_|refine kk2.o ?_|refine kk3.o _ _ ?_|refine kk3.o ?_|refine kk4.o _ _ ?_|refine kk4.o ?_|refine kk5.o _ _ ?_|refine kk5.o ?_|refine kk6.o _ _ ?_|refine kk6.o ?_|refine kk7.o _ _ ?_|refine kk7.o ?_|refine dD (kk1.o _ _ ⟨rfl,rfl⟩) (kk1.o _ _ ⟨rfl,rfl⟩) ?_|refine dD (kk1.o ⟨rfl,rfl⟩) (kk1.o ⟨rfl,rfl⟩) ?_|refine dD (kk2.o _ _ ⟨rfl,rfl⟩) (kk2.o _ _ ⟨rfl,rfl⟩) ?_|refine dD (kk2.o ⟨rfl,rfl⟩) (kk2.o ⟨rfl,rfl⟩) ?_|refine bu (kk1.o _ _ ⟨rfl,rfl⟩) ?_|refine bu (kk1.o ⟨rfl,rfl⟩) ?_|refine bu (kk2.o _ _ ⟨rfl,rfl⟩) ?_|refine bu (kk2.o ⟨rfl,rfl⟩) ?_|refine bu (kk3.o _ _ ⟨rfl,rfl⟩) ?_|refine bu (kk3.o ⟨rfl,rfl⟩) ?_|refine bu (kk4.o _ _ ⟨rfl,rfl⟩) ?_|refine bu (kk4.o ⟨rfl,rfl⟩) ?_|refine bu (kk5.o _ _ ⟨rfl,rfl⟩) ?_|refine bu (kk5.o ⟨rfl,rfl⟩) ?_|refine bu (kk6.o _ _ ⟨rfl,rfl⟩) ?_|refine bu (kk6.o ⟨rfl,rfl⟩) ?_|refine bu (kk7.o _ _ ⟨rfl,rfl⟩) ?_|refine bu (kk7.o ⟨rfl,rfl⟩) ?_)
    simp(config:={maxSteps:=2000000}) only[Kon,push_cast,reduceIte,Nat.reduceEqDiff,Nat.reduceAdd,Nat.reduceMul,Nat.reduceSub,Nat.reduceLT,Nat.reduceLeDiff,Int.reduceLT,Int.reduceLE,Int.reduceAdd,Int.reduceSub,Int.reduceNeg,Int.reduceToNat,Int.reduceEq,reduceCtorEq, *]
  | (first|refine jK ah5 ?_|refine iX ?_|refine fY ?_|refine jP ?_|refine oF (d9 ?_))
    simp only[push_cast,reduceIte,Nat.reduceEqDiff,Nat.reduceAdd,Nat.reduceMul,Nat.reduceSub,Nat.reduceLT,Nat.reduceLeDiff,Int.reduceLT,Int.reduceLE,Int.reduceAdd,Int.reduceSub,Int.reduceNeg,Int.reduceToNat,Int.reduceEq,reduceCtorEq, *]
  |exact oB
  |first|apply oC|apply jL|apply oD|apply jM|apply oE|apply jN
  |refine gg ?_
  |refine fX ?_
  |first|refine gc rfl ?_|refine gf rfl ?_|refine cO rfl ?_ ?_
  |((first|refine cN (λ_=>?_) (λ_=>?_)|refine dZ (λ_=>?_) (λ_=>?_))<;>try simp(config:={maxSteps:=2000000}) only[Kon,push_cast,reduceIte,Nat.reduceEqDiff,Nat.reduceAdd,Nat.reduceMul,Nat.reduceSub,Nat.reduceLT,Nat.reduceLeDiff,Int.reduceLT,Int.reduceLE,Int.reduceAdd,Int.reduceSub,Int.reduceNeg,Int.reduceToNat,Int.reduceEq,reduceCtorEq, *])
  |refine And.intro trivial ?_
  |refine And.intro ah3 ?_
  |refine eZ rfl (λ_=>?_) (λ_=>?_)
 exact hB_.o):A:=e (hid h)
theorem aib(h:B)(e:Hid B->A:=by intro hB_;refine sk ?_;refine wk ?_;exact hB_.o):A:=e (hid h)
theorem aeV{P:Program}{own:Nat->Nat->Nat}{f:FuncId}{a:aI}(h:aK P own f=some a.raw){args:List AV}{L:List Blk}{Q:AV->List Blk->Prop}{B:Prop}(b:B)(c:Nat.ble args.length a.ntmps=true:=by rfl)(e:Hid B->AW P a.ntmps own a.code (acA a.res L Q) (am 0 args) L:=by
 intro hB_;simp only[push_cast]
 repeat' first
  |refine lF ?_
  | (first|refine jO ah5 ?_|refine fW ah5 ?_|refine fZ ?_|refine Eb ?_|refine oA (fun _=>?_)|refine ed ?_|refine jQ ?_|refine kk1.o _ _ ?_|refine kk1.o ?_|refine kk2.o _ _ ?_|refine kk2.o ?_|refine kk3.o _ _ ?_|refine kk3.o ?_|refine kk4.o _ _ ?_|refine kk4.o ?_|refine kk5.o _ _ ?_|refine kk5.o ?_|refine kk6.o _ _ ?_|refine kk6.o ?_|refine kk7.o _ _ ?_|refine kk7.o ?_|refine dD (kk1.o _ _ ⟨rfl,rfl⟩) (kk1.o _ _ ⟨rfl,rfl⟩) ?_|refine dD (kk1.o ⟨rfl,rfl⟩) (kk1.o ⟨rfl,rfl⟩) ?_|refine dD (kk2.o _ _ ⟨rfl,rfl⟩) (kk2.o _ _ ⟨rfl,rfl⟩) ?_|refine dD (kk2.o ⟨rfl,rfl⟩) (kk2.o ⟨rfl,rfl⟩) ?_|refine bu (kk1.o _ _ ⟨rfl,rfl⟩) ?_|refine bu (kk1.o ⟨rfl,rfl⟩) ?_|refine bu (kk2.o _ _ ⟨rfl,rfl⟩) ?_|refine bu (kk2.o ⟨rfl,rfl⟩) ?_|refine bu (kk3.o _ _ ⟨rfl,rfl⟩) ?_|refine bu (kk3.o ⟨rfl,rfl⟩) ?_|refine bu (kk4.o _ _ ⟨rfl,rfl⟩) ?_|refine bu (kk4.o ⟨rfl,rfl⟩) ?_|refine bu (kk5.o _ _ ⟨rfl,rfl⟩) ?_|refine bu (kk5.o ⟨rfl,rfl⟩) ?_|refine bu (kk6.o _ _ ⟨rfl,rfl⟩) ?_|refine bu (kk6.o ⟨rfl,rfl⟩) ?_|refine bu (kk7.o _ _ ⟨rfl,rfl⟩) ?_|refine bu (kk7.o ⟨rfl,rfl⟩) ?_)
    simp(config:={maxSteps:=2000000}) only[Kon,push_cast,reduceIte,Nat.reduceEqDiff,Nat.reduceAdd,Nat.reduceMul,Nat.reduceSub,Nat.reduceLT,Nat.reduceLeDiff,Int.reduceLT,Int.reduceLE,Int.reduceAdd,Int.reduceSub,Int.reduceNeg,Int.reduceToNat,Int.reduceEq,reduceCtorEq, *]
  | (first|refine jK ah5 ?_|refine iX ?_|refine fY ?_|refine jP ?_|refine oF (d9 ?_))
    simp only[push_cast,reduceIte,Nat.reduceEqDiff,Nat.reduceAdd,Nat.reduceMul,Nat.reduceSub,Nat.reduceLT,Nat.reduceLeDiff,Int.reduceLT,Int.reduceLE,Int.reduceAdd,Int.reduceSub,Int.reduceNeg,Int.reduceToNat,Int.reduceEq,reduceCtorEq, *]
  |exact oB
  |first|apply oC|apply jL|apply oD|apply jM|apply oE|apply jN
  |refine gg ?_
  |refine fX ?_
  |first|refine gc rfl ?_|refine gf rfl ?_|refine cO rfl ?_ ?_
  |((first|refine cN (λ_=>?_) (λ_=>?_)|refine dZ (λ_=>?_) (λ_=>?_))<;>try simp(config:={maxSteps:=2000000}) only[Kon,push_cast,reduceIte,Nat.reduceEqDiff,Nat.reduceAdd,Nat.reduceMul,Nat.reduceSub,Nat.reduceLT,Nat.reduceLeDiff,Int.reduceLT,Int.reduceLE,Int.reduceAdd,Int.reduceSub,Int.reduceNeg,Int.reduceToNat,Int.reduceEq,reduceCtorEq, *])
  |refine And.intro trivial ?_
  |refine And.intro ah3 ?_
  |refine eZ rfl (λ_=>?_) (λ_=>?_)
 exact hB_.o):ac P f args L Q:=aa h (Nat.le_of_ble_eq_true c) (e (hid b))
attribute [push_cast] am
theorem ZZ{m:Nat->Nat->Option Value}:(∀p∈([]:List (Nat×List AV)),VRC ⟨m,λ_=>none,λ_=>none⟩ p.2 p.1 0/\∃cs ty fr,w.heap[p.1]?=some (.cells cs ty fr)/\cs.size=p.2.length):=λ_ h=>by cases h
theorem RX{m:Nat->Nat->Option Value}{r:List (Nat×List AV)}(h:VRC ⟨m,λ_=>none,λ_=>none⟩ l g 0/\∃cs ty fr,w.heap[g]?=some (.cells cs ty fr)/\cs.size=l.length)(hr:∀p∈r,VRC ⟨m,λ_=>none,λ_=>none⟩ p.2 p.1 0/\∃cs ty fr,w.heap[p.1]?=some (.cells cs ty fr)/\cs.size=p.2.length):
  ∀p∈(g,l)::r,VRC ⟨m,λ_=>none,λ_=>none⟩ p.2 p.1 0/\∃cs ty fr,w.heap[p.1]?=some (.cells cs ty fr)/\cs.size=p.2.length:=λp a=>by
 rcases afp.1 a with rfl|a;exact h;exact hr p a
theorem X5(b:∀g∈Ph,∃z,(yU w).mem g 0=some (.int .i64 z))(h:∀p∈G9,VRC ⟨(yU w).mem,λ_=>none,λ_=>none⟩ p.2 p.1 0/\∃cs ty fr,w.heap[p.1]?=some (.cells cs ty fr)/\cs.size=p.2.length):s6 (yU w).mem/\v7 w :=
 ⟨⟨λp a=>(h p a).1,b⟩,λp a _=>(h p a).2⟩
open Go Go.Lib
theorem TU(h:W.ShapedOpen Tryz.prog):∀g∈Ph,∃z,(yU W).mem g 0=some (.int .i64 z):=λg a=>by simp only[Ph,afl]at a;subst a;obtain⟨m,b⟩:=cell_of_shapedOpen_int (zero:=#[.int .i64 0]) (t:=3) h (of_decide_eq_true ah5) ah5 ah5 ah5 ah5 Tryz.underlying3;exact⟨m,by simpa[yU]using b⟩
theorem acp{enc:TypeId×Value->H}{base:Nat}{sp:Nat->Bool}{b:Bool}{a:Nat}{cs:List Value}{x:DataW H×List MemPlace}(c:P.underlying t=some (.array n e))(h:DataW.trod enc P w base sp b a t cs=some x):cs.length=P.cellsOf t:=by
 cases a with
 |zero=>simp[DataW.trod]at h
 | succ a =>
   simp only[DataW.trod,c]at h;split at h
   .assumption
   .cases h
theorem PE{b:String}{d:DataW Unit}(h:VarReads P W b d)(l:P.globalNamed b=some g)(f:(P.globals[g]?).map (·.type)=some t)(m:P.underlying t=some (.array n e)):
  ∃cs ty fr,W.heap[g]?=some (.cells cs ty fr)/\cs.size=P.cellsOf t:=by
 obtain⟨r,t',cs,k,p,i,c,a,hd⟩:=h;obtain rfl:=Option.some.inj (l.symm.trans i);obtain rfl:=Option.some.inj (f.symm.trans c);have q:=acp m hd;simp only[World.var?,l,agw]at a;split at a;rename_i j ty fr o;exact⟨j,ty,fr,o,by rw[Option.some.inj a];simpa using q⟩;cases a
def YM:Go.Shelf.Ren:=⟨λx=>x,λn=>if n=5 then 5 else if n=119 then 262 else if n=138 then 264 else 265,λn=>if n=3 then 0 else 1⟩
theorem qV:U8Extra Tryz.prog YM:={n3:=ah5,n4:=ah5,y3:=ah5,y4:=ah5,c5:=ah5,c119:=ah5,c138:=by kernel_rfl}
theorem J7:U8Types Tryz.prog YM:={t5:=ah5,t119:=ah5,t138:=ah5,t139:=by kernel_rfl}
theorem Ti(h:∀i a,l[i]?=some a->∃k z,a=.int k z/\W.cell? ⟨g,i,none⟩=some (.int k z)):VRC ⟨(yU W).mem,λ_=>none,λ_=>none⟩ l g 0 :=
 VRC.of_get λi a c=>by obtain⟨k,z,rfl,b⟩:=h i a c;exact⟨.int k z,by simpa[yU]using b,by simp[VR]⟩
theorem Z6(h:VarReads Tryz.prog W "unicode/utf8.first" firstData)(h4:VarReads Tryz.prog W "unicode/utf8.acceptRanges" acceptData)(l:List AV)(f:zf 0=some l):
  VRC ⟨(yU W).mem,λ_=>none,λ_=>none⟩ l 0 0/\∃cs ty fr,W.heap[0]?=some (.cells cs ty fr)/\cs.size=l.length:=by
 have n:=utf8Tabs_of_readsT J7 qV h h4;have e:zf 0=some ((List.range 256).map λc=>AV.int .u8 (Lib.firstT c:Int)):=ah5;rw[e]at f;obtain rfl:=Option.some.inj f;refine⟨Ti λi a d=>?_,?_⟩;simp only[afS,afr]at d;obtain⟨c,g,rfl⟩:=d;have j:i<256:=by have:=(aeY.1 g).1;simpa using this
 have b:c=i:=by have:=(aeY.1 g).2;simpa using this.symm
 subst b;exact⟨_,_,rfl,n.1 c j⟩;obtain⟨cs,ty,fr,m,k⟩:=PE h qV.n3 qV.y3 J7.t119;exact⟨cs,ty,fr,m,by rw[k,qV.c119];simp⟩
theorem aaz:∀(n:Nat) (i:Nat) (a:AV),((List.range n).flatMap λi=>[AV.int .u8 (Lib.accLo i:Int),AV.int .u8 (Lib.accHi i:Int)])[i]?=some a->∃j,j<n/\((i=2*j/\a=.int .u8 (Lib.accLo j:Int))\/(i=2*j+1/\a=.int .u8 (Lib.accHi j:Int)))
 |0,i,a,h=>by simp at h
 | n+1,i,a,h=>by
   have b:∀n:Nat,((List.range n).flatMap λi=>[AV.int .u8 (Lib.accLo i:Int),AV.int .u8 (Lib.accHi i:Int)]).length=2*n:=λn=>by
    induction n with
    |zero=>simp
    |succ n ih=>rw[List.range_succ,List.flatMap_append,afc,ih];simp;omega
   rw[List.range_succ,List.flatMap_append]at h;rcases aft i (2*n)with c|c
   .rw[ae3 (by rw[b];exact c)]at h;obtain⟨j,e,d⟩:=aaz n i a h;exact⟨j,ah3,d⟩
   .rw[aff (by rw[b];exact c),b]at h;refine⟨n,ah3,?_⟩;rcases hk:i-2*n with _|_|k
    .rw[hk]at h;simp at h;exact .inl ⟨ah3,h.symm⟩
    .rw[hk]at h;simp at h;exact .inr ⟨ah3,h.symm⟩
    .rw[hk]at h;simp at h
theorem adR(k:VarReads Tryz.prog W "unicode/utf8.first" firstData)(h4:VarReads Tryz.prog W "unicode/utf8.acceptRanges" acceptData)(l:List AV)(b:zf 1=some l):
  VRC ⟨(yU W).mem,λ_=>none,λ_=>none⟩ l 1 0/\∃cs ty fr,W.heap[1]?=some (.cells cs ty fr)/\cs.size=l.length:=by
 have c:=utf8Tabs_of_readsT J7 qV k h4;have e:zf 1=some ((List.range 16).flatMap λi=>[AV.int .u8 (Lib.accLo i:Int),AV.int .u8 (Lib.accHi i:Int)]):=ah5;rw[e]at b;obtain rfl:=Option.some.inj b;refine⟨Ti λi a g=>?_,?_⟩;obtain⟨j,d,⟨rfl,rfl⟩|⟨rfl,rfl⟩⟩:=aaz 16 i a g;exact⟨_,_,rfl,(c.2 j d).1⟩;exact⟨_,_,rfl,(c.2 j d).2⟩;obtain⟨cs,ty,fr,h,f⟩:=PE h4 qV.n4 qV.y4 J7.t139;exact⟨cs,ty,fr,h,by rw[f,show Tryz.prog.cellsOf (YM.t 139)=32 by kernel_rfl];rfl⟩
end Go.Proofs.YtajkbcmleihaoaaGreatDoor.Av
