/- Joined texts of the walk, made small by a program. -/
import Derived.Test.YtajkbcmleihaoaaGreatDoorZk4
import Derived.Sort.Grow
import Derived.Deep.Draws
import Derived.Lib.LaidTab
import Derived.WalkKit
import Derived.ProofKit
import Derived.OpenShut
import Derived.JoinedCond
import Derived.SizedLaws
import Derived.Stop.LaidErr
import Derived.Test.YtajkbcmleihaoaaGreatDoorProg
import Derived.Shelf.Lay
import Derived.Lib.LaidU8T
import Derived.Shelf.Vars
import Derived.Test.YtajkbcmleihaoaaGreatDoorRows
import Derived.KernelRfl
set_option linter.unusedSimpArgs false
set_option linter.unusedVariables false
namespace Go.Proofs.YtajkbcmleihaoaaGreatDoor.Av
open Go
structure Ol(w w':World):Prop where
 heap:∀b,b<w.heap.size->w'.heap[b]?=w.heap[b]?
 size:w.heap.size<=w'.heap.size
 os:w'.os=w.os
 tape:w'.tape=w.tape
 output:w'.output=w.output
theorem Ol.refl(w:World):Ol w w:=⟨λ_ _=>rfl,abA _,rfl,rfl,rfl⟩
theorem Rel.grown{w0:World}{S0:SB}{E:Env}{L:List Blk}{w w':World}(h:Rel w0 S0 E L w)(g:Ol w w'):Rel w0 S0 E L w':=by
 refine⟨λb o v j=>?_,λi k a=>?_,h.fresh,h.own,h.inj,h.tkfresh,h.tkown,h.tkloc,h.tkinj,λk a l=>?_,aca h.size g.size,g.os.trans h.os,g.tape.trans h.tape,g.output.trans h.output,h.glob,
  h.gsz.mod λb cs ty fr f=>⟨cs,ty,fr,by rw[g.heap b (acl.1 f).1];exact f,rfl⟩⟩
 have:=h.mem b o v j;simp only[World.cell?]at this⊢;rw[g.heap b (h.mem_lt j)];exact this;cases hl:k.live;refine bf.still hl rfl (λt c n sz e m d=>?_) (h.blk i k a);subst e;exact g.heap _ (h.tok_lt a m d);exact bf.worldL hl (λc d=>g.heap _ (h.loc_lt a hl d)) (h.blk i k a);rw[g.heap k (acH a h.size)];exact h.frame k a l
theorem iE{P:Program}{f:FuncId}{fn:Func}(k:P.funcs[f]?=some fn)(a:fn.body.isSome=true)(j:(fn.name == "runtime.NumGoroutine")=false){args:List AV}{L:List Blk}{K:AV->List Blk->Prop}{r:AV}(b:∀ (w0:World) (S0:SB) (E:Env) (w:World) (vs:List Value),Rel w0 S0 E L w->VRL E args vs->Calls P f ⟨vs⟩ w fun e w'=>∃ v,e=.returned v/\VR E r v/\Ol w w')(d:K r L):ac P f args L K:=fun w0 S0 E w vs hR hv=>by
 refine .inl ⟨?_,(b w0 S0 E w vs hR hv).mono λe w' ⟨v,g,i,l⟩=>⟨E,v,r,L,g,.refl E,d,i,hR.grown l⟩⟩;simp only[callFunc,abF,run_program,abG,k,j];cases h:fn.body with
 |none=>simp[h]at a
 |some c=>simp
theorem XF{P:Program}{N:Nat}{own:Nat->Nat->Nat}{Q:Exit->Tm->List Blk->Prop}{T:Tm}{L X:List Blk}{lc:aS}(t sz k:Nat)(c:X.length=k){l:List AV}{n:Nat}(b:aq T t=some (.sl l n (some n)))(a:l.length=n*sz)(h:AW P N own lc Q ((t,.gsl l n (L.length+k) sz)::T) (L++(X++[.spare n sz]))):AW P N own lc Q T (L++X):=by refine cB t sz b a ?_;simp[*]
theorem Rel.reblk{w0:World}{S0:SB}{E:Env}{L:List Blk}{w:World}(h:Rel w0 S0 E L w){i:Nat}{c c':List AV}(z:L[i]?=some (.cells c))(o:c'.length=c.length)(O:∀(j:Nat) (C:AV),c'[j]?=some C->∃a,c[j]?=some a/\∀v,VR E a v->VR E C v):Rel w0 S0 E (L.set i (.cells c')) w:=by
 have f:i<L.length:=(aby.1 z).1;have l:∀(j:Nat) (k:Blk),(L.set i (.cells c'))[j]?=some k->k.live=true->∃k',L[j]?=some k'/\k'.live=true:=λj k g r=>by rw[ace]at g;split at g;rename_i e;subst e;exact⟨_,z,rfl⟩;simp[*]
 have b:∀(j n sz:Nat),(L.set i (.cells c'))[j]?=some (.spare n sz)->L[j]?=some (.spare n sz):=λj n sz g=>by grind
 refine⟨h.mem,λj k g=>?_,λi f=>h.fresh i (by simpa using f),λi k c g r G=>?_,λi j k k' c c' f F x J=>?_,
  λi f=>h.tkfresh i (by simpa using f),λi n sz t d f=>h.tkown i n sz t d (b i n sz f),λi n sz t d j k' c' f y hd x r=>?_,
  λi n sz t d B A m t' D f y hd s=>h.tkinj i n sz t d B A m t' D (b i n sz f) y hd (b B A m s),h.frame,h.size,h.os,h.tape,h.output,h.glob,h.gsz⟩
 rw[ace]at g;split at g;rename_i e;subst e;cases g;obtain⟨cl,cs,ty,fr,g1,H,g3,g4,N,I⟩:=h.blk _ _ z;refine⟨cl,cs,ty,fr,g1,H,g3,by rw[o];exact g4,λj a P=>?_,I⟩
 grind
 exact h.blk j k g;obtain⟨k',q,p⟩:=l i k g r;exact h.own i k' c q p G;obtain⟨u,q,p⟩:=l i k f F;obtain⟨K,M,h4⟩:=l j k' x J;exact h.inj i j u K c c' q p M h4;obtain⟨u,q,p⟩:=l j k' x r;exact h.tkloc i n sz t d j u c' (b i n sz f) y hd q p
theorem VR.grow{E:Env}{l:List AV}{n i sz:Nat}{v:Value}(a:E.tok i=some ⟨n,sz,none⟩)(d:l.length=n*sz)(h:VR E (.sl l n (some n)) v):VR E (.gsl l n i sz) v:=by obtain⟨p,c',c,b,e,f⟩:=h;exact⟨p,c',c,b,d,f,⟨n,sz,none⟩,a,abA _,λ_=>⟨rfl,λ_=>e n rfl,aev⟩⟩
theorem JX{P:Program}{N:Nat}{own:Nat->Nat->Nat}{Q:Exit->Tm->List Blk->Prop}{T:Tm}{L:List Blk}{lc:aS}(i j sz:Nat){c l:List AV}{n:Nat}(q:L[i]?=some (.cells c))(B:c[j]?=some (.sl l n (some n)))(u:l.length=n*sz)(h:AW P N own lc Q T (L.set i (.cells (c.set j (.gsl l n L.length sz)))++[.spare n sz])):AW P N own lc Q T L:=λx s r hr w0 S0 E a w d=>by
 obtain⟨m,t⟩:=d.1.addtok (n:=n) (sz:=sz) (lc:=none) Kx;have p:i<L.length:=(aby.1 q).1;have g:(L++[Blk.spare n sz])[i]?=some (.cells c):=by rw[abC p];exact q
 have o:=t.reblk g (c':=c.set j (.gsl l n L.length sz)) aev λk F f=>by rw[ace]at f;split at f;rename_i e;subst e;split at f;cases f;exact⟨_,B,λv z=>VR.grow aev u z⟩;simp[*];simp[*]
 rw[adk _ _ p]at o;exact wpIn_mono (h x s r hr w0 S0 _ a w ⟨o,d.2.1.mono m,d.2.2⟩) λe F w' ⟨A,G,E',T1,L1,b,y,D,C⟩=>⟨A,G,E',T1,L1,b,m.trans y,D,C⟩
theorem sk{A B:Prop}(h:B)(e:Hid B->A:=by intro hB_;simp only[Kon,push_cast,reduceIte,Nat.reduceEqDiff,Nat.reduceAdd,Nat.reduceMul,Nat.reduceSub,Nat.reduceLT,Nat.reduceLeDiff,Int.reduceLT,Int.reduceLE,Int.reduceAdd,Int.reduceSub,Int.reduceNeg,Int.reduceToNat,Int.reduceEq,reduceCtorEq, *];exact hB_.o):A:=e (hid h)
theorem sm{A B:Prop}(h:B)(e:Hid B->A:=by intro hB_;simp(config:={maxSteps:=2000000}) only[Kon,push_cast,reduceIte,Nat.reduceEqDiff,Nat.reduceAdd,Nat.reduceMul,Nat.reduceSub,Nat.reduceLT,Nat.reduceLeDiff,Int.reduceLT,Int.reduceLE,Int.reduceAdd,Int.reduceSub,Int.reduceNeg,Int.reduceToNat,Int.reduceEq,reduceCtorEq, *];exact hB_.o):A:=e (hid h)
theorem sl{A B:Prop}(h:B)(e:Hid B->A:=by intro hB_;simp only[push_cast,reduceIte,Nat.reduceEqDiff,Nat.reduceAdd,Nat.reduceMul,Nat.reduceSub,Nat.reduceLT,Nat.reduceLeDiff,Int.reduceLT,Int.reduceLE,Int.reduceAdd,Int.reduceSub,Int.reduceNeg,Int.reduceToNat,Int.reduceEq,reduceCtorEq, *];exact hB_.o):A:=e (hid h)
theorem wk{A B:Prop}(h:B)(e:Hid B->A:=by
 intro hB_
 repeat' first
  |refine kY ?_
  | (first|refine jz aew ?_|refine fM aew ?_|refine fP ?_|refine zT ?_|refine nD (fun _=>?_)|refine dP ?_|refine jB ?_|refine kk1.o _ _ ?_|refine kk1.o ?_|refine kk2.o _ _ ?_|refine kk2.o ?_|refine kk3.o _ _ ?_|refine kk3.o ?_|refine kk4.o _ _ ?_|refine kk4.o ?_|refine kk5.o _ _ ?_|refine kk5.o ?_|refine kk6.o _ _ ?_|refine kk6.o ?_|refine kk7.o _ _ ?_|refine kk7.o ?_|refine dr (kk1.o _ _ ⟨rfl,rfl⟩) (kk1.o _ _ ⟨rfl,rfl⟩) ?_|refine dr (kk1.o ⟨rfl,rfl⟩) (kk1.o ⟨rfl,rfl⟩) ?_|refine dr (kk2.o _ _ ⟨rfl,rfl⟩) (kk2.o _ _ ⟨rfl,rfl⟩) ?_|refine dr (kk2.o ⟨rfl,rfl⟩) (kk2.o ⟨rfl,rfl⟩) ?_|refine bp (kk1.o _ _ ⟨rfl,rfl⟩) ?_|refine bp (kk1.o ⟨rfl,rfl⟩) ?_|refine bp (kk2.o _ _ ⟨rfl,rfl⟩) ?_|refine bp (kk2.o ⟨rfl,rfl⟩) ?_|refine bp (kk3.o _ _ ⟨rfl,rfl⟩) ?_|refine bp (kk3.o ⟨rfl,rfl⟩) ?_|refine bp (kk4.o _ _ ⟨rfl,rfl⟩) ?_|refine bp (kk4.o ⟨rfl,rfl⟩) ?_|refine bp (kk5.o _ _ ⟨rfl,rfl⟩) ?_|refine bp (kk5.o ⟨rfl,rfl⟩) ?_|refine bp (kk6.o _ _ ⟨rfl,rfl⟩) ?_|refine bp (kk6.o ⟨rfl,rfl⟩) ?_|refine bp (kk7.o _ _ ⟨rfl,rfl⟩) ?_|refine bp (kk7.o ⟨rfl,rfl⟩) ?_)
    simp(config:={maxSteps:=2000000}) only[Kon,push_cast,reduceIte,Nat.reduceEqDiff,Nat.reduceAdd,Nat.reduceMul,Nat.reduceSub,Nat.reduceLT,Nat.reduceLeDiff,Int.reduceLT,Int.reduceLE,Int.reduceAdd,Int.reduceSub,Int.reduceNeg,Int.reduceToNat,Int.reduceEq,reduceCtorEq, *]
  | (first|refine jv aew ?_|refine iN ?_|refine fO ?_|refine jA ?_|refine nI (dO ?_))
    simp only[push_cast,reduceIte,Nat.reduceEqDiff,Nat.reduceAdd,Nat.reduceMul,Nat.reduceSub,Nat.reduceLT,Nat.reduceLeDiff,Int.reduceLT,Int.reduceLE,Int.reduceAdd,Int.reduceSub,Int.reduceNeg,Int.reduceToNat,Int.reduceEq,reduceCtorEq, *]
  |exact nE
  |first|apply nF|apply jw|apply nG|apply jx|apply nH|apply jy
  |refine fS ?_
  |refine fN ?_
  |first|refine fQ rfl ?_|refine fR rfl ?_|refine cE rfl ?_ ?_
  |((first|refine cD (λ_=>?_) (λ_=>?_)|refine dN (λ_=>?_) (λ_=>?_))<;>try simp(config:={maxSteps:=2000000}) only[Kon,push_cast,reduceIte,Nat.reduceEqDiff,Nat.reduceAdd,Nat.reduceMul,Nat.reduceSub,Nat.reduceLT,Nat.reduceLeDiff,Int.reduceLT,Int.reduceLE,Int.reduceAdd,Int.reduceSub,Int.reduceNeg,Int.reduceToNat,Int.reduceEq,reduceCtorEq, *])
  |refine And.intro trivial ?_
  |refine And.intro aeu ?_
  |refine eQ rfl (λ_=>?_) (λ_=>?_)
 exact hB_.o):A:=e (hid h)
theorem aeC{A B:Prop}(h:B)(e:Hid B->A:=by intro hB_;refine sk ?_;refine wk ?_;exact hB_.o):A:=e (hid h)
theorem abv{P:Program}{own:Nat->Nat->Nat}{f:FuncId}{a:aI}(h:aM P own f=some a.raw){args:List AV}{L:List Blk}{Q:AV->List Blk->Prop}{B:Prop}(b:B)(c:Nat.ble args.length a.ntmps=true:=by rfl)(e:Hid B->AW P a.ntmps own a.code (Y8 a.res L Q) (am 0 args) L:=by
 intro hB_;simp only[push_cast]
 repeat' first
  |refine kY ?_
  | (first|refine jz aew ?_|refine fM aew ?_|refine fP ?_|refine zT ?_|refine nD (fun _=>?_)|refine dP ?_|refine jB ?_|refine kk1.o _ _ ?_|refine kk1.o ?_|refine kk2.o _ _ ?_|refine kk2.o ?_|refine kk3.o _ _ ?_|refine kk3.o ?_|refine kk4.o _ _ ?_|refine kk4.o ?_|refine kk5.o _ _ ?_|refine kk5.o ?_|refine kk6.o _ _ ?_|refine kk6.o ?_|refine kk7.o _ _ ?_|refine kk7.o ?_|refine dr (kk1.o _ _ ⟨rfl,rfl⟩) (kk1.o _ _ ⟨rfl,rfl⟩) ?_|refine dr (kk1.o ⟨rfl,rfl⟩) (kk1.o ⟨rfl,rfl⟩) ?_|refine dr (kk2.o _ _ ⟨rfl,rfl⟩) (kk2.o _ _ ⟨rfl,rfl⟩) ?_|refine dr (kk2.o ⟨rfl,rfl⟩) (kk2.o ⟨rfl,rfl⟩) ?_|refine bp (kk1.o _ _ ⟨rfl,rfl⟩) ?_|refine bp (kk1.o ⟨rfl,rfl⟩) ?_|refine bp (kk2.o _ _ ⟨rfl,rfl⟩) ?_|refine bp (kk2.o ⟨rfl,rfl⟩) ?_|refine bp (kk3.o _ _ ⟨rfl,rfl⟩) ?_|refine bp (kk3.o ⟨rfl,rfl⟩) ?_|refine bp (kk4.o _ _ ⟨rfl,rfl⟩) ?_|refine bp (kk4.o ⟨rfl,rfl⟩) ?_|refine bp (kk5.o _ _ ⟨rfl,rfl⟩) ?_|refine bp (kk5.o ⟨rfl,rfl⟩) ?_|refine bp (kk6.o _ _ ⟨rfl,rfl⟩) ?_|refine bp (kk6.o ⟨rfl,rfl⟩) ?_|refine bp (kk7.o _ _ ⟨rfl,rfl⟩) ?_|refine bp (kk7.o ⟨rfl,rfl⟩) ?_)
    simp(config:={maxSteps:=2000000}) only[Kon,push_cast,reduceIte,Nat.reduceEqDiff,Nat.reduceAdd,Nat.reduceMul,Nat.reduceSub,Nat.reduceLT,Nat.reduceLeDiff,Int.reduceLT,Int.reduceLE,Int.reduceAdd,Int.reduceSub,Int.reduceNeg,Int.reduceToNat,Int.reduceEq,reduceCtorEq, *]
  | (first|refine jv aew ?_|refine iN ?_|refine fO ?_|refine jA ?_|refine nI (dO ?_))
    simp only[push_cast,reduceIte,Nat.reduceEqDiff,Nat.reduceAdd,Nat.reduceMul,Nat.reduceSub,Nat.reduceLT,Nat.reduceLeDiff,Int.reduceLT,Int.reduceLE,Int.reduceAdd,Int.reduceSub,Int.reduceNeg,Int.reduceToNat,Int.reduceEq,reduceCtorEq, *]
  |exact nE
  |first|apply nF|apply jw|apply nG|apply jx|apply nH|apply jy
  |refine fS ?_
  |refine fN ?_
  |first|refine fQ rfl ?_|refine fR rfl ?_|refine cE rfl ?_ ?_
  |((first|refine cD (λ_=>?_) (λ_=>?_)|refine dN (λ_=>?_) (λ_=>?_))<;>try simp(config:={maxSteps:=2000000}) only[Kon,push_cast,reduceIte,Nat.reduceEqDiff,Nat.reduceAdd,Nat.reduceMul,Nat.reduceSub,Nat.reduceLT,Nat.reduceLeDiff,Int.reduceLT,Int.reduceLE,Int.reduceAdd,Int.reduceSub,Int.reduceNeg,Int.reduceToNat,Int.reduceEq,reduceCtorEq, *])
  |refine And.intro trivial ?_
  |refine And.intro aeu ?_
  |refine eQ rfl (λ_=>?_) (λ_=>?_)
 exact hB_.o):ac P f args L Q:=aa h (Nat.le_of_ble_eq_true c) (e (hid b))
attribute [push_cast] am
open Go Go.ChangeShapes Go.WideShapes Go.ChangeAt Go.RowKit
def z8(w:World):Env:={mem:=λb o=>w.cell? ⟨b,o,none⟩,loc:=λ_=>none,tok:=λ_=>none}
theorem Rel.start(w:World)(a:sj (z8 w).mem/\ve w):Rel w ⟨λ_=>False,0⟩ (z8 w) [] w where
 mem _ _ _ h:=h
 blk _ _ h:=by simp at h
 fresh _ _:=rfl
 own _ _ _ h:=by simp at h
 inj _ _ _ _ _ _ h:=by simp at h
 tkfresh _ _:=rfl
 tkown _ _ _ _ _ h:=by simp at h
 tkloc _ _ _ _ _ _ _ _ h:=by simp at h
 tkinj _ _ _ _ _ _ _ _ _ _ h:=by simp at h
 frame _ _ _:=rfl
 size:=abA _
 os:=rfl
 tape:=rfl
 output:=rfl
 glob:=a.1
 gsz:=a.2
def Rd(P:Program)(t:TypeId){X:Type}(ec:X->List AV)(ok:X->Prop):Prop :=
 ∀(H:Type) (enc:TypeId×Value->H) (w:World) (fuel:Nat) (cs:List Value) (x:DataW H×List MemPlace),
  DataW.trod enc P w 0 (λ_=>true) true fuel t cs=some x->∃y,ok y/\VRL (z8 w) (ec y) cs
theorem Rd.map{P:Program}{t:TypeId}{X Y:Type}{d:X->List AV}{ok:X->Prop}{c:Y->List AV}{a:Y->Prop}(h:Rd P t d ok)(m:∀y,ok y->∃z,a z/\c z=d y):Rd P t c a:=λH enc w b cs x g=>by obtain⟨y,e,f⟩:=h H enc w b cs x g;obtain⟨z,i,h4⟩:=m y e;exact⟨z,i,by rw[h4];exact f⟩
theorem QA{H:Type}{enc:TypeId×Value->H}{P:Program}{f:Func}{s:ChangeSpec}{e fresh c m:Bool}{W n:World}{args:Array Value}{v:Value}{ds q:List (DataW H)}{a pa pv:List MemPlace}(y:DataW.Whole enc P f.params.toList s.vars e W args.toList ds q a)(k:∀(b:Nat) (sp:Nat->Bool) (hd:Bool),DataW.TrodAll enc P n b sp hd f.resultTypes.toList (v.resultList f.resultTypes.size) (s.fn H (ds++q)).results [])(d:∀sp:Nat->Bool,(∀p∈a,sp p.block=true)->DataW.TrodAll enc P n 0 sp true f.params.toList args.toList (s.fn H (ds++q)).args pa)(g:∀sp:Nat->Bool,(∀p∈a,sp p.block=true)->DataW.TrodVars enc P n sp s.vars (s.fn H (ds++q)).vars pv)(i:a=pa++pv)(A:W.keptBut n (·∈a))(x:∀b o,b<W.heap.size->n.frozen? ⟨b,o,none⟩=W.frozen? ⟨b,o,none⟩)(z:∀(j:Nat) (t:TypeId) (r:Value),f.resultTypes[j]?=some t->(v.resultList f.resultTypes.size)[j]?=some r->Value.okWide P n .any 0 t r):
  s.post enc P f e fresh c m W args v n:=by
 have w:=y.lt;have l:∀p∈a,(λb=>decide (b<W.heap.size)) p.block=true:=λp h=>by simpa using w p h
 refine⟨ds,q,a,[],pa,pv,y,k _ _ _,d _ l,g _ l,World.keptBut_mono (λp h=>⟨h,?_⟩) A,λ_=>?_⟩;rw[i,abD]at h;exact Or.inr h;obtain⟨_,_,_,_,_,C,B⟩:=y;refine⟨z,_,_,([]++pa)++pv,⟨[]++pa,pv,trodAll_append (d _ (λ_ _=>rfl)) (k _ _ _),g _ (λ_ _=>rfl),rfl,?_,?_⟩,?_⟩;intro b off h;have u:MemPlace.cell b off∈a:=by rw[i];simpa using h
 rw[x b off (w _ u)];exact C b off u;intro D;have:=B D;rw[i]at this;simpa using this;intro p h _;rw[i];simpa using h
def G7(P:Program):Bool:=(List.range P.types.size).all λt=>match P.underlying t with|some (.slice e)=>decide (0<P.cellsOf e)|_=>true
theorem Fc{H:Type}{enc:TypeId×Value->H}{P:Program}{W j:World}(a:laidOutB P=true)(c:mapsRowed P=true)(b:G7 P=true):
  ∀{ts:List TypeId}{vs:List Value}{ds:List (DataW H)}{ps:List MemPlace},(∀t∈ts,t<P.types.size)->DataW.TrodAll enc P W 0 (λ_=>true) true ts vs ds ps->(∀p∈ps,W.sameAt j p) ->
  ∀sp:Nat->Bool,(∀p∈ps,sp p.block=true)->DataW.TrodAll enc P j 0 sp true ts vs ds ps
 |[],_,_,_,_,h,_,_,_=>by obtain⟨rfl,rfl,rfl⟩:=trodAll_nil h;exact trodAll_mk0
 | t::ts,_,_,_,hts,h,hs,sp,hsp=>by
   obtain⟨v,k,d,l,p,q,rfl,rfl,rfl,g,m⟩:=trodAll_cons h;obtain⟨f,g⟩:=g;refine trodAll_cons_mk ⟨f,DataW.trod_stays (kids_rows a c) (λ{t e} n i=>?_) (λe=>by cases e) (hts t aev) g (λr hr=>hs r (ac3 _ hr)) (λr hr=>hsp r (ac3 _ hr))⟩
    (Fc a c b (λu i=>hts u (by simp[i])) m (λr hr=>hs r (adj _ hr)) sp (λr hr=>hsp r (adj _ hr)))
   have:=abL.1 b t (List.mem_range.2 n);rw[i]at this;simpa using this
theorem ME{H:Type}{enc:TypeId×Value->H}{P:Program}{w:World}{base:Nat}{a:Nat->Bool}{b:Bool}:∀{ts:List TypeId}{vs:List Value}{ds:List (DataW H)}{ps:List MemPlace},DataW.TrodAll enc P w base a b ts vs ds ps->ds.length=ts.length
 |[],_,_,_,h=>by obtain⟨_,rfl,_⟩:=trodAll_nil h;rfl
 |t::ts,_,_,_,h=>by obtain⟨v,c,d,e,p,q,rfl,rfl,rfl,_,f⟩:=trodAll_cons h;simp[ME f]
theorem Oy{P:Program}{f:FuncId}{fn:Func}{s:ChangeSpec}{d fresh g A:Bool}{tb:TypeId}(O:P.funcs[f]?=some fn)(C:fn.body.isSome=true)(z:(fn.name == "runtime.NumGoroutine")=false)(B:laidOutB P=true)(E:mapsRowed P=true)(u:G7 P=true)(T:fn.params.toList.all (fun t=>decide (t<P.types.size))=true)(m:fn.resultTypes=#[tb])(n:P.underlying tb=some .bool)(k:s.vars=[])(hs:∀ (H:Type) (ds:List (DataW H)),ds.length=fn.params.toList.length->(s.fn H ds).results=[.lit (.bool true)]/\(s.fn H ds).args=ds/\(s.fn H ds).vars=[]){X:Type}{Y:X->List AV}{ok:X->Prop}(D:∀ y,ok y->ac P f (Y y) [] fun av _=>av=.bool true){H:Type}(enc:TypeId×Value->H)(W:World)(args:Array Value)(ds Z:List (DataW H))(l:List MemPlace)(hA:∀ p,DataW.TrodAll enc P W 0 (fun _=>true) true fn.params.toList args.toList ds p->∃ y,ok y/\VRL (z8 W) (Y y) args.toList)(S:DataW.Whole enc P fn.params.toList s.vars d W args.toList ds Z l)(x:sj (z8 W).mem/\ve W):
  Calls P f args W λe I=>∃v,e=.returned v/\s.post enc P fn d fresh g A W args v I:=by
 have N:=S;have M:=S.lt;obtain⟨p,q,w,U,rfl,ad,ab⟩:=S;rw[k]at U;obtain⟨rfl,rfl⟩:=trodVars_none U;obtain⟨y,hy,J⟩:=hA p w;have F:=ME w;obtain⟨e1,e2,e3⟩:=hs H ds F;have G:(callFunc f args).run P W=.ok (.enter f args) W:=by
  simp only[callFunc,abF,run_program,abG,O,z];cases n:fn.body with
  |none=>simp[n]at C
  |some c=>simp
 rcases D y hy W ⟨λ_=>False,0⟩ (z8 W) W args.toList (Rel.start W x) J with⟨_,h⟩|⟨_,_,_,_,_,h,_⟩;refine h.mono λe I ⟨E',v,av,L',he,_,K,V,L⟩=>?_
 subst K;simp only[VR]at V;subst V;refine⟨_,he,?_⟩;have a:∀b,b<W.heap.size->I.heap[b]?=W.heap[b]?:=λb n=>L.frame b n (λh=>h)
 have Q:∀r∈p,W.sameAt I r:=λr hr=>by have:=M r (by simpa using hr);cases r<;>simp only[World.sameAt,MemPlace.block]at this⊢;simp only[World.cell?];rw[a _ this];exact a _ this
 refine QA (pa:=p) (pv:=[]) N (λb sp hd=>?_) (λsp R=>?_) (λ_ _=>?_) rfl ⟨L.os,L.output,λi hi=>?_⟩ (λb o n=>?_) (λj t r h1 h2=>?_);rw[ab1,e1,m];exact trodAll_cons_mk (shut_bool n _) trodAll_mk0;rw[ab1,e2];exact Fc B E u (λt ht=>by simpa using abL.1 T t ht) w Q sp (λr hr=>R r (by simpa using hr));rw[k,ab1,e3];rfl;rw[a i hi];rcases hc:W.heap[i]? with _|o;trivial;cases o<;>simp;simp only[World.frozen?];rw[a b n];exact ok_one m rfl (okWide_bool_mk n _) j t r h1 h2;rw[show(⟨args.toList⟩:Array Value)=args from rfl,G]at h;cases h
open Go Go.ChangeShapes Go.WideShapes Go.ChangeAt
set_option maxHeartbeats 8000000
set_option maxRecDepth 100000
def RdZ(P:Program)(t:TypeId){X:Type}(ec:X->List AV)(ok:X->Prop):Prop :=
 ∀(H:Type) (enc:TypeId×Value->H) (w:World) (fuel:Nat) (cs:List Value) (x:DataW H×List MemPlace),
  DataW.trod enc P w 0 (λ_=>true) true fuel t cs=some x->(∀n∈x.1.weights P t,n<=reachBytes)->∃y,ok y/\VRL (z8 w) (ec y) cs
theorem Rd.z{P:Program}{t:TypeId}{X:Type}{b:X->List AV}{ok:X->Prop}(h:Rd P t b ok):RdZ P t b ok:=λH enc w a cs x c _=>h H enc w a cs x c
theorem vr{H:Type}{P:Program}{b:List TypeId}{a:List (DataW H)}{n:Nat}:∀{ts:List TypeId}{ds:List (DataW H)},n∈DataW.weightsEach P ts ds->n∈DataW.weightsEach P (ts++b) (ds++a)
 |[],_,h=>by simp[DataW.weightsEach]at h
 |_::_,[],h=>by simp[DataW.weightsEach]at h
 | t::ts,d::ds,h=>by
   simp only[acp,DataW.weightsEach,abD]at h⊢;rcases h with h|h
   .exact .inl h
   .exact .inr (vr h)
def aa8(P:Program)(ts:List TypeId){X:Type}(ec:X->List AV)(ok:X->Prop):Prop :=
 ∀(H:Type) (enc:TypeId×Value->H) (w:World) (base:Nat) (vs:List Value) (ds:List (DataW H)) (ps:List MemPlace),
  (∀(j:Nat) t v,ts[j]?=some t->vs[j]?=some v->Value.okWide P w .any base t v) ->
  DataW.TrodAll enc P w 0 (λ_=>true) true ts vs ds ps->(∀n∈DataW.weightsEach P ts ds,n<=reachBytes)->∃y,ok y/\VRL (z8 w) (ec y) vs
theorem V8{P:Program}:aa8 P [] (λ_:Unit=>[]) (λ_=>True):=λH enc w base vs ds ps _ h _=>by obtain⟨rfl,_,_⟩:=trodAll_nil h;exact⟨(),trivial,by simp[VRL]⟩
open Go Go.ChangeShapes Go.WideShapes Go.ChangeAt
theorem RdZ.map{P:Program}{t:TypeId}{X Y:Type}{d:X->List AV}{ok:X->Prop}{c:Y->List AV}{a:Y->Prop}(h:RdZ P t d ok)(m:∀y,ok y->∃z,a z/\c z=d y):RdZ P t c a:=λH enc w b cs x i e=>by obtain⟨y,f,g⟩:=h H enc w b cs x i e;obtain⟨z,j,h4⟩:=m y f;exact⟨z,j,by rw[h4];exact g⟩
theorem WR{m:Nat->Nat->Option Value}{w:World}:(∀p∈([]:List (Nat×List AV)),VRC ⟨m,λ_=>none,λ_=>none⟩ p.2 p.1 0/\∃cs ty fr,w.heap[p.1]?=some (.cells cs ty fr)/\cs.size=p.2.length):=λ_ h=>by cases h
theorem Pj{m:Nat->Nat->Option Value}{w:World}{g:Nat}{l:List AV}{r:List (Nat×List AV)}(h:VRC ⟨m,λ_=>none,λ_=>none⟩ l g 0/\∃cs ty fr,w.heap[g]?=some (.cells cs ty fr)/\cs.size=l.length)(hr:∀p∈r,VRC ⟨m,λ_=>none,λ_=>none⟩ p.2 p.1 0/\∃cs ty fr,w.heap[p.1]?=some (.cells cs ty fr)/\cs.size=p.2.length):
  ∀p∈(g,l)::r,VRC ⟨m,λ_=>none,λ_=>none⟩ p.2 p.1 0/\∃cs ty fr,w.heap[p.1]?=some (.cells cs ty fr)/\cs.size=p.2.length:=λp a=>by
 rcases abY.1 a with rfl|a;exact h;exact hr p a
theorem U2{w:World}(b:∀g∈Mm,∃z,(z8 w).mem g 0=some (.int .i64 z))(h:∀p∈ER,VRC ⟨(z8 w).mem,λ_=>none,λ_=>none⟩ p.2 p.1 0/\∃cs ty fr,w.heap[p.1]?=some (.cells cs ty fr)/\cs.size=p.2.length):sj (z8 w).mem/\ve w :=
 ⟨⟨λp a=>(h p a).1,b⟩,λp a _=>(h p a).2⟩
open Go Go.Lib
theorem QP{W:World}(h:W.ShapedOpen Tryz.prog):∀g∈Mm,∃z,(z8 W).mem g 0=some (.int .i64 z):=λg a=>by simp only[Mm,abV]at a;subst a;obtain⟨m,b⟩:=cell_of_shapedOpen_int (zero:=#[.int .i64 0]) (t:=3) h (of_decide_eq_true aew) aew aew aew aew Tryz.underlying3;exact⟨m,by simpa[z8]using b⟩
theorem YY{H:Type}{enc:TypeId×Value->H}{P:Program}{w:World}{base:Nat}{sp:Nat->Bool}{b:Bool}{a:Nat}{t e:TypeId}{n:Nat}{cs:List Value}{x:DataW H×List MemPlace}(c:P.underlying t=some (.array n e))(h:DataW.trod enc P w base sp b a t cs=some x):cs.length=P.cellsOf t:=by
 cases a with
 |zero=>simp[DataW.trod]at h
 | succ a =>
   simp only[DataW.trod,c]at h;split at h
   .assumption
   .cases h
theorem ML{P:Program}{W:World}{b:String}{d:DataW Unit}{g:Nat}{t e:TypeId}{n:Nat}(h:VarReads P W b d)(k:P.globalNamed b=some g)(f:(P.globals[g]?).map (·.type)=some t)(o:P.underlying t=some (.array n e)):
  ∃cs ty fr,W.heap[g]?=some (.cells cs ty fr)/\cs.size=P.cellsOf t:=by
 obtain⟨r,t',cs,l,p,j,c,a,hd⟩:=h;obtain rfl:=Option.some.inj (k.symm.trans j);obtain rfl:=Option.some.inj (f.symm.trans c);have q:=YY o hd;simp only[World.var?,k,ac2]at a;split at a;rename_i i ty fr m;exact⟨i,ty,fr,m,by rw[Option.some.inj a];simpa using q⟩;cases a
def VB:Go.Shelf.Ren:=⟨λx=>x,λn=>if n=5 then 5 else if n=119 then 262 else if n=138 then 264 else 265,λn=>if n=3 then 0 else 1⟩
theorem qg:U8Extra Tryz.prog VB:={n3:=aew,n4:=aew,y3:=aew,y4:=aew,c5:=aew,c119:=aew,c138:=by kernel_rfl}
theorem HH:U8Types Tryz.prog VB:={t5:=aew,t119:=aew,t138:=aew,t139:=by kernel_rfl}
theorem Qk{W:World}{g:Nat}{l:List AV}(h:∀i a,l[i]?=some a->∃k z,a=.int k z/\W.cell? ⟨g,i,none⟩=some (.int k z)):VRC ⟨(z8 W).mem,λ_=>none,λ_=>none⟩ l g 0 :=
 VRC.of_get λi a c=>by obtain⟨k,z,rfl,b⟩:=h i a c;exact⟨.int k z,by simpa[z8]using b,by simp[VR]⟩
theorem WX{W:World}(h:VarReads Tryz.prog W "unicode/utf8.first" firstData)(h4:VarReads Tryz.prog W "unicode/utf8.acceptRanges" acceptData)(l:List AV)(g:xV 0=some l):
  VRC ⟨(z8 W).mem,λ_=>none,λ_=>none⟩ l 0 0/\∃cs ty fr,W.heap[0]?=some (.cells cs ty fr)/\cs.size=l.length:=by
 have j:=utf8Tabs_of_readsT HH qg h h4;have e:xV 0=some ((List.range 256).map λc=>AV.int .u8 (Lib.firstT c:Int)):=aew;rw[e]at g;obtain rfl:=Option.some.inj g;refine⟨Qk λi a f=>?_,?_⟩;simp only[acy,abZ]at f;obtain⟨c,d,rfl⟩:=f;have n:i<256:=by have:=(aby.1 d).1;simpa using this
 have b:c=i:=by have:=(aby.1 d).2;simpa using this.symm
 subst b;exact⟨_,_,rfl,j.1 c n⟩;obtain⟨cs,ty,fr,k,m⟩:=ML h qg.n3 qg.y3 HH.t119;exact⟨cs,ty,fr,k,by rw[m,qg.c119];simp⟩
theorem Xq:∀(n:Nat) (i:Nat) (a:AV),((List.range n).flatMap λi=>[AV.int .u8 (Lib.accLo i:Int),AV.int .u8 (Lib.accHi i:Int)])[i]?=some a->∃j,j<n/\((i=2*j/\a=.int .u8 (Lib.accLo j:Int))\/(i=2*j+1/\a=.int .u8 (Lib.accHi j:Int)))
 |0,i,a,h=>by simp at h
 | n+1,i,a,h=>by
   have b:∀n:Nat,((List.range n).flatMap λi=>[AV.int .u8 (Lib.accLo i:Int),AV.int .u8 (Lib.accHi i:Int)]).length=2*n:=λn=>by
    induction n with
    |zero=>simp
    |succ n ih=>rw[List.range_succ,List.flatMap_append,abP,ih];simp;omega
   rw[List.range_succ,List.flatMap_append]at h;rcases ab5 i (2*n)with c|c
   .rw[abC (by rw[b];exact c)]at h;obtain⟨j,e,d⟩:=Xq n i a h;exact⟨j,aeu,d⟩
   .rw[abN (by rw[b];exact c),b]at h;refine⟨n,aeu,?_⟩;rcases hk:i-2*n with _|_|k
    .rw[hk]at h;simp at h;exact .inl ⟨aeu,h.symm⟩
    .rw[hk]at h;simp at h;exact .inr ⟨aeu,h.symm⟩
    .rw[hk]at h;simp at h
theorem aan{W:World}(k:VarReads Tryz.prog W "unicode/utf8.first" firstData)(h4:VarReads Tryz.prog W "unicode/utf8.acceptRanges" acceptData)(l:List AV)(d:xV 1=some l):
  VRC ⟨(z8 W).mem,λ_=>none,λ_=>none⟩ l 1 0/\∃cs ty fr,W.heap[1]?=some (.cells cs ty fr)/\cs.size=l.length:=by
 have b:=utf8Tabs_of_readsT HH qg k h4;have e:xV 1=some ((List.range 16).flatMap λi=>[AV.int .u8 (Lib.accLo i:Int),AV.int .u8 (Lib.accHi i:Int)]):=aew;rw[e]at d;obtain rfl:=Option.some.inj d;refine⟨Qk λi a h=>?_,?_⟩;obtain⟨j,c,⟨rfl,rfl⟩|⟨rfl,rfl⟩⟩:=Xq 16 i a h;exact⟨_,_,rfl,(b.2 j c).1⟩;exact⟨_,_,rfl,(b.2 j c).2⟩;obtain⟨cs,ty,fr,f,g⟩:=ML h4 qg.n4 qg.y4 HH.t139;exact⟨cs,ty,fr,f,by rw[g,show Tryz.prog.cellsOf (VB.t 139)=32 by kernel_rfl];rfl⟩
abbrev Atr:=List UInt8×List (List UInt8)
theorem jM(p:Nat->Bool)(xs:List (List UInt8)):AV.refsL p (xs.map AV.str)=true:=AV.refsL_iff.2 λa b=>by obtain⟨x,_,rfl⟩:=abB.1 b;rfl
theorem Wj(xs:List (List UInt8)):(xs.map AV.str).all AV.one=true:=by rw[abL];intro a b;obtain⟨x,_,rfl⟩:=abB.1 b;rfl
abbrev atA(a:Atr):List AV:=[.str a.1,.sl (a.2.map AV.str) a.2.length none]
def cj(l:List Atr):List AV:=l.flatMap atA
theorem ES(a:Atr)(l:List Atr):cj (a::l)=.str a.1 :: .sl (a.2.map AV.str) a.2.length none::cj l:=rfl
theorem Od(l m:List Atr):cj (l++m)=cj l++cj m:=by simp[cj]
theorem Oc(l:List Atr):(cj l).length=l.length*2:=by
 induction l with
 |nil=>rfl
 |cons a l ih=>rw[ES];simp only[abU];omega
theorem xF(p:Nat->Bool):∀l:List Atr,AV.refsL p (cj l)=true
 |[]=>rfl
 |a::l=>by rw[ES];simp[AV.refsL,AV.refs,jM,xF p l]
theorem jo(l:List (List UInt8)):AV.frzL (l.map AV.str)=l.map AV.str:=by rw[AV.frzL_eq,abW];rfl
theorem xG:∀l:List Atr,AV.frzL (cj l)=cj l
 |[]=>rfl
 |a::l=>by rw[ES];simp only[AV.frzL,AV.frz,jo,xG l]
theorem Mv:∀{l:List Atr}{k:Nat},k<l.length->((cj l).drop (k*2)).take 2=atA (l.getD k ([],[]))
 |a::l,0,_=>rfl
 |a::l,k+1,h=>by have b:=@Mv l k (by simpa using h);rw[show(k+1)*2=k*2+1+1 by omega,ES];simp[*]
end Go.Proofs.YtajkbcmleihaoaaGreatDoor.Av
set_option maxRecDepth 100000
namespace Go.Proofs.YtajkbcmleihaoaaGreatDoor.Av
open Go
def D7:LSO:=[Ar 2]
def D6:LSO:=[Aa 6 0,o1 7 (.s2bO (tm 6)),Aa 3 7]
def D5:LSO:=[Aa 8 3,Ah 9 8,Ab 10 0]
def D4:LSO:=[Au 11 10 9]
def D2:LSO:=[Aa 12 10,Aw 13 1 8 10,Ac 14 1 13,Aa 4 12,Aa 5 14]
def D0:LSO:=[Aa 15 5,o1 16 (.bin .geq (tm 15) (.av (.int .u8 65))),Aa 17 16,.grp none 17 true
 [Ak 18 17 5,og 19 17 true (.bin .leq (tm 18) (.av (.int .u8 90)))]
 20 (tm 19)]
def DZ:LSO:=[Aa 21 3,Aa 22 4,Aa 23 5,o1 24 (.bin .add (tm 23) (.av (.int .u8 32))),Aw 25 1 21 22,Ag 1 25 24]
def DY:LSO:=[Aj 26 10 1,Aa 10 26]
def DX:LSO:=[Aa 27 3,Bf 28 27,Aa 2 28]
def yg:aI:=⟨29,(aen D7 [] (aen D6 BV (.seq (aen D5 [] (aeq 0 (aen D4 [] (.seq (aer 11 0) (.seq (.block 1 (aen D2 Ce (aen D0 BW (aeo 20 (.sreg DZ Ct) .skip)))) (.sreg DY BU)))))) (aen DX BV .ret)))),[(.tmp 2)]⟩
attribute [push_cast] D7 D6 D5 D4 D2 D0 DZ DY DX
theorem L9:aM Tryz.prog (λr i=>if r=1/\i=1 then 2 else 1) 103=some yg.raw:=aew
def DW:LSO:=[Ar 2]
def DV:LSO:=[Ao 3]
def DU:LSO:=[Aa 6 0,Af 7 103 6,o1 8 (.s2b (tm 7)),Ah 9 8,Ab 10 0]
def DT:LSO:=[Au 11 10 9]
def DS:LSO:=[Aw 12 1 8 10,Ac 13 1 12,Aa 5 13]
def DR:LSO:=[Aa 14 5,o1 15 (.bin .eql (tm 14) (.av (.int .u8 32))),Aa 16 15,.grp none 16 true
 [Ak 17 16 3,Bj 18 16 17,AC 19 16 18 0,Ak 20 16 19,.grp (some (16,true)) 20 false
 [Ai 21 20 3,Ai 22 20 3,AS 23 20 22,og 24 20 false (.bin .sub (tm 23) (iv 1)),og 25 20 false (.iaddr 1 (tm 21) (tm 24)),A8 26 20 1 25,
 og 27 20 false (.bin .eql (tm 26) (.av (.int .u8 32)))]
 28 (tm 27)]
 29 (tm 28)]
def DQ:LSO:=[Aa 30 3,Aa 31 5,B7 32 31,Bk 33 30 32,Aa 3 33]
def DP:LSO:=[Aj 34 10 1,Aa 10 34]
def DO:LSO:=[Aa 35 3,Ah 36 35,AB 37 36 0,Aa 38 37,.grp none 38 true
 [Ak 39 38 3,Ak 40 38 3,Bj 41 38 40,BK 42 38 41 1,og 43 38 true (.iaddr 1 (tm 39) (tm 42)),AO 44 38 1 43,B8 45 38 44]
 46 (tm 45)]
def DN:LSO:=[Aa 47 3,Aa 48 3,Ah 49 48,AM 50 49 1,o1 51 (.slV 1 (tm 47) none (some (tm 50)) none),Aa 3 51]
def zC:LSO:=[Aa 52 3,Bf 53 52,Aa 2 53]
def yf:aI:=⟨54,(aen DW [] (aen DV [] (.seq (aen DU Cy (aeq 0 (aen DT [] (.seq (aer 11 0) (.seq (.block 1 (aen DS BV (.seq (aen DR BW (aeo 29 (.exit 1) .skip)) (.sreg DQ BX)))) (.sreg DP BU)))))) (.seq (aen DO BX (aeo 46 (.sreg DN BZ) .skip)) (aen zC BV .ret))))),[(.tmp 2)]⟩
attribute [push_cast] DW DV DU DT DS DR DQ DP DO DN zC
theorem L8:aes 104=aet yf:=aew
def DL:LSO:=[o1 2 (.mv (.av (.int .u8 0))),As 3]
def DK:LSO:=[Aa 5 0,o1 6 (.bin .geq (tm 5) (.av (.int .u8 48))),Aa 7 6,.grp none 7 true
 [Ak 8 7 0,og 9 7 true (.bin .leq (tm 8) (.av (.int .u8 57)))]
 10 (tm 9),Aa 4 10]
def DJ:LSO:=[Aa 11 0,o1 12 (.bin .sub (tm 11) (.av (.int .u8 48))),Aa 2 12,AJ 3]
def DI:LSO:=[Aa 14 0,o1 15 (.bin .geq (tm 14) (.av (.int .u8 97))),Aa 16 15,.grp none 16 true
 [Ak 17 16 0,og 18 16 true (.bin .leq (tm 17) (.av (.int .u8 102)))]
 19 (tm 18),Aa 13 19]
def DH:LSO:=[Aa 20 0,o1 21 (.bin .sub (tm 20) (.av (.int .u8 97))),o1 22 (.bin .add (tm 21) (.av (.int .u8 10))),Aa 2 22,AJ 3]
def DG:LSO:=[Aa 24 0,o1 25 (.bin .geq (tm 24) (.av (.int .u8 65))),Aa 26 25,.grp none 26 true
 [Ak 27 26 0,og 28 26 true (.bin .leq (tm 27) (.av (.int .u8 70)))]
 29 (tm 28),Aa 23 29]
def DF:LSO:=[Aa 30 0,o1 31 (.bin .sub (tm 30) (.av (.int .u8 65))),o1 32 (.bin .add (tm 31) (.av (.int .u8 10))),Aa 2 32,AJ 3]
def DE:LSO:=[o1 2 (.mv (.av (.int .u8 0))),As 3]
def ye:aI:=⟨33,(aen DL [] (.seq (.block 0 (aen DK BX (aeo 4 (aen DJ Cj .ret) (aen DI BX (aeo 13 (aen DH Ce .ret) (aen DG BX (aep 23 (.sreg DF Ce)))))))) (aen DE [] .ret))),[(.tmp 2),(.tmp 3)]⟩
attribute [push_cast] DL DK DJ DI DH DG DF DE
theorem L7:aes 195=aet ye:=aew
def zB:LSO:=[Ar 2,As 3]
def zA:LSO:=[Aa 10 0,A4 11 10,o1 12 (.bin .rem (tm 11) (iv 2)),Az 13 12 1]
def zy:LSO:=[Ar 2,As 3]
def zx:LSO:=[Aa 14 0,A4 15 14,o1 16 (.bin .quo (tm 15) (iv 2)),o1 17 (.mkslice 1 1 [(.int .u8 0)] (iv 0) (tm 16)),Aa 4 17]
def zw:LSO:=[Ab 5 0]
def zu:LSO:=[Aa 18 5,Aa 19 0,A4 20 19,Au 21 18 20]
def zt:LSO:=[Aa 25 0,Aa 26 5,B9 27 25 26,Af 28 195 27,Aa 24 28,Al 29 24,Am 30 24,Aa 6 29,Aa 7 30]
def zr:LSO:=[Aa 32 0,Aa 33 5,Aj 34 33 1,B9 35 32 34,Af 36 195 35,Aa 31 36,Al 37 31,Am 38 31,Aa 8 37,Aa 9 38]
def zq:LSO:=[Aa 39 7,A5 40 39,Aa 41 40,.grp none 41 false
 [Ai 42 41 9,og 43 41 false (.un .not (tm 42))]
 44 (tm 43)]
def zp:LSO:=[Ar 2,As 3]
def wy:LSO:=[Aa 45 4,Aa 46 6,o1 47 (.bin .shl (tm 46) (.av (.int .u64 4))),Aa 48 8,o1 49 (.bin .or (tm 47) (tm 48)),B7 50 49,Bk 51 45 50,Aa 4 51]
def wx:LSO:=[Aa 22 5,Aj 23 22 2,Aa 5 23]
def ww:LSO:=[Aa 52 4,Bf 53 52,Aa 2 53,AJ 3]
def vm:aI:=⟨54,(aen zB [] (.seq (aen zA BW (aep 13 (.sreg zy []))) (aen zx BX (.seq (aen zw [] (aeq 0 (.seq (aen zu BW (aer 21 0)) (.seq (.block 1 (aen zt Cl (aen zr Cm (.seq (aen zq BW (aep 44 (.sreg zp []))) (.sreg wy Cb))))) (.sreg wx BV))))) (aen ww Cj .ret))))),[(.tmp 2),(.tmp 3)]⟩
attribute [push_cast] zB zA zy zx zw zu zt zr zq zp wy wx ww
theorem Kq:aes 183=aet vm:=aew
attribute [push_cast] yg vm
variable {L:List Blk}{K:abx}
set_option maxHeartbeats 8000000
set_option maxRecDepth 100000
def pZ(c:UInt8):UInt8:=if 65<=c.toNat/\c.toNat<=90 then c+32 else c
def aE(s:List UInt8):List UInt8:=s.map pZ
theorem TG{c:UInt8}(b:65<=c.toNat)(a:c.toNat<=90):((pZ c).toNat:Int)=(c.toNat:Int)+32:=by rw[pZ,if_pos ⟨b,a⟩,UInt8.toNat_add];have:(32:UInt8).toNat=32:=rfl;omega
theorem Jx{c:UInt8}(h:¬(65<=c.toNat/\c.toNat<=90)):pZ c=c:=by rw[pZ,if_neg h]
theorem EK(l:List UInt8):(u8s l).all Oz=true:=by simp only[u8s,List.all_map,abL];intro x _;have:=x.toNat_lt;simp[Oz]
theorem At(l:List UInt8):(u8s l).map LN=l:=by
 induction l with
 |nil=>rfl
 | cons x l ih =>
   simp only[u8s,abO,abW]at ih⊢;rw[ih];simp[LN]
theorem Te(l:List UInt8)(c:UInt8):u8s (l++[c])=u8s l++[.int .u8 c.toNat]:=by simp[u8s]
theorem SM{s:List UInt8}{k:Nat}(h:k<s.length):aE (s.take (k+1))=aE (s.take k)++[pZ (s.getD k 0)]:=by rw[ab6 h,aE,abS];simp[aE,h]
theorem YE{s:List UInt8}(I:(s.length:Int)<=140737488351232)(h:K (.str (aE s)) L):abw 103 [.str s] L K:=by
 replace h:=hid h;refine abv L9 ?_;refine ar (λn T' L'=>∃(k:Nat) (v:List AV),n=s.length-k/\k<=s.length/\v=u8s (aE (s.take k)++s.drop k)/\T'=[(10,.int .i64 (k:Int)),(9,.int .i64 s.length),(8,.lsl L.length 0 s.length none 1),(3,.lsl L.length 0 s.length none 1),(2,.str [])]/\L'=L++[.bytes v]) aey ⟨0,_,rfl,abJ _,rfl,rfl,rfl⟩ ?_;rintro _ _ _ ⟨k,v,rfl,B,j,rfl,rfl⟩;by_cases g:k<s.length
 .have z:(k:Int)<(s.length:Int):=aeu;have D:=abu k aeu;obtain⟨c,t⟩:=abr (s.getD k 0);have hd:s.drop k=c::s.drop (k+1):=by rw[acA g,<- t,abR,ab0 g];rfl
  have l:(aE (s.take k)).length=k:=(by simp[aE];omega);have d:v=u8s (aE (s.take k)) ++ .int .u8 c.toNat::u8s (s.drop (k+1)):=(by rw[j,hd];simp[u8s]);have i:(u8s (aE (s.take k))).length=k:=(by simp[u8s,l]);have w:v.length=s.length:=(by rw[j];simp[u8s,aE];omega);have u:k<v.length:=aeu;have A:v.getD k .undef=.int .u8 c.toNat:=(by rw[d];simp[abR,abN,i]);have a:=SM g;rw[t]at a;have e:u8s (aE (s.take (k+1))++s.drop (k+1))=u8s (aE (s.take k)) ++ .int .u8 (pZ c).toNat::u8s (s.drop (k+1)):=(by rw[a];simp[u8s]);have f:∀x,v.take k++x::v.drop (k+1)=u8s (aE (s.take k))++x::u8s (s.drop (k+1)):=λx=>by rw[d,List.take_left' i,List.drop_append,i,ad6 aeu,show k+1-k=1 by omega];rfl
  clear j hd l a;replace d:=hid d;replace e:=hid e;replace f:=hid f;have q:=c.toNat_lt;by_cases m:65<=c.toNat/\c.toNat<=90;have u1:(65:Int)<=(c.toNat:Int):=aeu;have E:(c.toNat:Int)<=90:=aeu;have p:=hid (TG m.1 m.2);have F:IntKind.u8.wrap ((c.toNat:Int)+32)=(c.toNat:Int)+32:=qd aeu aeu;clear m;refine wk ?_;refine aez aeu aey ⟨k+1,_,rfl,g,?_,rfl,rfl⟩;rw[e.o,p.o];exact f.o _
  .have p:=hid (Jx m);have C:(decide ((65:Int)<=(c.toNat:Int))&&decide ((c.toNat:Int)<=90))=false:=(by simp;omega);clear m;refine wk ?_
   all_goals first
    |omega
    | (refine aez aeu (CutS (b := by simp)) ⟨k + 1, _, rfl, g, ?_, rfl, rfl⟩
       rw[e.o,p.o];exact d.o)
 have r:k=s.length:=aeu;subst r;have z:¬(s.length:Int)<(s.length:Int):=aeu;have d:v=u8s (aE s):=by rw[j];simp
 clear j;subst d;have G:=EK (aE s);have H:=At (aE s);have y:(u8s (aE s)).length=s.length:=by simp[u8s,aE]
 have J:(u8s (aE s)).take s.length=u8s (aE s):=by rw[<- y];exact abX
 refine wk ?_;exact ae rfl h.o
theorem Em{s:List UInt8}(a:(s.length:Int)<=100000)(h:K (.str (aE s)) L):abw 103 [.str s] L K:=YE aeu h
def xT(c:UInt8):Option Nat:=if 48<=c.toNat/\c.toNat<=57 then some (c.toNat-48)else if 97<=c.toNat/\c.toNat<=102 then some (c.toNat-87)else if 65<=c.toNat/\c.toNat<=70 then some (c.toNat-55)else none
theorem Mr{c:UInt8}{x:Nat}(h:xT c=some x):x<16:=by unfold xT at h;split at h;cases h;omega;split at h;cases h;omega;split at h;cases h;omega;cases h
theorem Sq{c:UInt8}{L:List Blk}{K:abx}(h:K (.tup [.int .u8 ((xT c).getD 0:Nat),.bool (xT c).isSome]) L):abw 195 [.int .u8 c.toNat] L K:=by
 have k:=c.toNat_lt;obtain⟨n,g⟩:=abr (c.toNat);unfold xT at h;rw[g]at h k⊢;clear g;refine aa L7 (by simp[ye]) ?_;simp only[ye,am];by_cases a:48<=n/\n<=57;rw[if_pos a]at h;replace h:=hid h;obtain⟨e,d⟩:=a;have j:(48:Int)<=(n:Int):=aeu;have i:(n:Int)<=57:=aeu;have r:IntKind.u8.wrap ((n:Int)-48)=(n:Int)-48:=qd aeu aeu;clear e d;refine wk ?_;refine ag ?_;have:=h.o;simpa[show((n-48:Nat):Int)=(n:Int)-48 by omega]using this
 .rw[if_neg a]at h;have q:(decide ((48:Int)<=(n:Int))&&decide ((n:Int)<=57))=false:=(by simp;omega);by_cases b:97<=n/\n<=102;rw[if_pos b]at h;replace h:=hid h;obtain⟨e,d⟩:=b;have j:(97:Int)<=(n:Int):=aeu;have i:(n:Int)<=102:=aeu;have m:IntKind.u8.wrap ((n:Int)-97)=(n:Int)-97:=qd aeu aeu;have l:IntKind.u8.wrap ((n:Int)-97+10)=(n:Int)-97+10:=qd aeu aeu;clear e d a;refine wk ?_;refine ag ?_;have:=h.o;simpa[show((n-87:Nat):Int)=(n:Int)-97+10 by omega]using this
  .rw[if_neg b]at h;have p:(decide ((97:Int)<=(n:Int))&&decide ((n:Int)<=102))=false:=(by simp;omega);by_cases f:65<=n/\n<=70;rw[if_pos f]at h;replace h:=hid h;obtain⟨e,d⟩:=f;have j:(65:Int)<=(n:Int):=aeu;have i:(n:Int)<=70:=aeu;have m:IntKind.u8.wrap ((n:Int)-65)=(n:Int)-65:=qd aeu aeu;have l:IntKind.u8.wrap ((n:Int)-65+10)=(n:Int)-65+10:=qd aeu aeu;clear e d a b;refine wk ?_;refine ag ?_;have:=h.o;simpa[show((n-55:Nat):Int)=(n:Int)-65+10 by omega]using this
   .rw[if_neg f]at h;have s:(decide ((65:Int)<=(n:Int))&&decide ((n:Int)<=70))=false:=(by simp;omega);replace h:=hid h;clear a b f
    repeat' first
     |refine kY ?_
     | (first|refine jz aew ?_|refine fM aew ?_|refine fP ?_|refine zT ?_|refine nD (fun _=>?_)|refine dP ?_|refine jB ?_)
       refine sm ?_
     | (first|refine jv aew ?_|refine iN ?_|refine fO ?_|refine jA ?_|refine nI (dO ?_))
       refine sl ?_
     |exact nE
     |first|apply nF|apply jw|apply nG|apply jx|apply nH|apply jy
     |refine fS ?_
     |refine fN ?_
     |first|refine fQ rfl ?_|refine fR rfl ?_|refine cE rfl ?_ ?_|refine iD rfl (λ_=>?_) (λ_=>?_)|refine iC rfl (λ_=>?_) (λ_=>?_)
     |((first|refine cD (λ_=>?_) (λ_=>?_)|refine dN (λ_=>?_) (λ_=>?_))<;>try refine sm ?_)
     |refine And.intro trivial ?_
     |refine And.intro aeu ?_
     |refine eQ rfl (λ_=>?_) (λ_=>?_)
     |refine And.intro ?_ ?_
    all_goals first
     |omega
     |(refine ag ?_;simpa using h.o)
def So(a b:UInt8):Option UInt8:=match xT a,xT b with
 |some x,some y=>some (UInt8.ofNat (16*x+y))
 |_,_=>none
def Q1(a b:UInt8):AV:=match So a b with
 |some c=>.tup [.str [c],.bool true]
 |none=>.tup [.str [],.bool false]
theorem ZH:∀x y:_root_.Fin 16,IntKind.u8.wrap (((BitVec.ofInt IntKind.u8.bits (IntKind.u8.wrap ((x.val:Int)*2^min 4 IntKind.u8.bits)) |||BitVec.ofInt IntKind.u8.bits (y.val:Int)).toNat:Nat):Int)=16*(x.val:Int)+(y.val:Int):=by decide +kernel
theorem Vz{a b:UInt8}(h:K (Q1 a b) L):abw 183 [.str [a,b]] L K:=by
 have t:[a,b].length=2:=rfl;have A:[a,b].getD 0 0=a:=rfl;have p:[a,b].getD 1 0=b:=rfl;have B:IntKind.i64.wrap (Int.tdiv 2 2)=1:=by decide
 have z:Int.tmod 2 2=0:=by decide
 have w:cX [AV.int IntKind.u8 0] 1=[AV.int IntKind.u8 0]:=rfl;have v:IntKind.i64.wrap 1=1:=by decide
 have s:IntKind.i64.wrap 2=2:=by decide
 replace h:=hid h;refine abv Kq ?_;refine ar (λn T' L'=>(n=1/\T'=[(5,.int .i64 0),(4,.lsl L.length 0 0 (some 1) 1),(0,.str [a,b])]/\L'=L++[.cells [.int .u8 0]])\/(n=0/\∃x y:Nat,Hid (xT a=some x)/\Hid (xT b=some y)/\T'=[(5,.int .i64 2),(4,.lsl (L.length+1) 0 1 none 1),(0,.str [a,b])]/\L'=L++[.dead,.cells [.int .u8 ((16*x+y:Nat):Int)]])) (n0:=1) (T0:=[(5,.int .i64 0),(4,.lsl L.length 0 0 (some 1) 1),(0,.str [a,b])]) (L0:=L++[.cells [.int .u8 0]]) aey (.inl ⟨rfl,rfl,rfl⟩) ?_;rintro _ _ _ (⟨rfl,rfl,rfl⟩|⟨rfl,x,y,c,e,rfl,rfl⟩);rcases c:xT a with _|x;have d:=h.o;simp only[Q1,So,c]at d;replace d:=hid d;have l:(xT a).getD 0=0:=by rw[c];rfl
 have m:(xT a).isSome=false:=by rw[c];rfl
 clear c;have kk1:=@hid _ @Sq;refine wk ?_;exact ae rfl d.o;have l:(xT a).getD 0=x:=by rw[c];rfl
 have m:(xT a).isSome=true:=by rw[c];rfl
 have j:=hid c;rcases e:xT b with _|y;have d:=h.o;simp only[Q1,So,c,e]at d;replace d:=hid d;have i:(xT b).getD 0=0:=by rw[e];rfl
 have k:(xT b).isSome=false:=by rw[e];rfl
 clear c e;have kk1:=@hid _ @Sq;refine wk ?_;exact ae rfl d.o;have i:(xT b).getD 0=y:=by rw[e];rfl
 have k:(xT b).isSome=true:=by rw[e];rfl
 have g:=hid e;have f:=ZH ⟨x,Mr c⟩ ⟨y,Mr e⟩;simp only at f;clear c e;have kk1:=@hid _ @Sq;refine wk ?_;refine au 0 _ _ aeu aex (.inr ⟨rfl,x,y,hid rfl,hid rfl,rfl,?_⟩)
 first|rfl|rw[f]
 have d:=h.o;simp only[Q1,So,c.o,e.o]at d;replace d:=hid d;have q:=Mr c.o;have u:=Mr e.o;have u1:Oz (.int .u8 (16*(x:Int)+(y:Int)))=true:=rfl;have r:LN (.int .u8 (16*(x:Int)+(y:Int)))=UInt8.ofNat (16*x+y):=by simp only[LN];rw[show(16*(x:Int)+(y:Int)).toNat=16*x+y by omega]
 refine wk ?_;exact ae rfl d.o
def NL(b:List UInt8):Bool:=b.isEmpty ||b.getLast? == some 32
def aH(b:List UInt8)(c:UInt8):List UInt8:=if c=32/\NL b=true then b else b++[c]
def bL(s:List UInt8):List UInt8:=s.foldl aH []
def ev(b:List UInt8):List UInt8:=if b.getLast?=some 32 then b.dropLast else b
def bC(s:List UInt8):List UInt8:=ev (bL (aE s))
theorem Jr(b:List UInt8)(c:UInt8):(aH b c).length<=b.length+1:=by unfold aH;split<;>simp
theorem MR{s:List UInt8}{k:Nat}(h:k<s.length):bL (s.take (k+1))=aH (bL (s.take k)) (s.getD k 0):=by rw[ab6 h,bL,List.foldl_append];simp[bL,h]
theorem xo(s:List UInt8):∀k,(bL (s.take k)).length<=k
 |0=>by simp[bL]
 | k+1=>by
   have a:=xo s k;by_cases h:k<s.length
   .rw[MR h];have:=Jr (bL (s.take k)) (s.getD k 0);omega
   .rw[ab7 aeu,<- ab7 (l:=s) (i:=k) aeu];omega
theorem MQ{s:List UInt8}(J:(s.length:Int)<=100000)(h:K (.str (bC s)) L):abw 104 [.str s] L K:=by
 replace h:=hid h;refine aa L8 (by simp[yf]) ?_;simp only[yf,am];obtain⟨t,I⟩:=abr (aE s);have M:(t.length:Int)<=100000:=by rw[<- I];simpa[aE]using J
 have kk1:=@aeB _ _ _ _ (Em J);refine wk ?_;refine cB (l:=[]) (n:=0) 3 1 rfl (acg 1).symm ?_;refine ar (λn T' L'=>∃(k:Nat) (b:List UInt8) (v:List AV) (m:Nat),n=t.length-k/\k<=t.length/\b=bL (t.take k)/\v=u8s b/\m=b.length/\T'=[(10,.int .i64 (k:Int)),(9,.int .i64 t.length),(8,.sl (u8s t) t.length none),(3,.gsl v m L.length 1),(2,.str [])]/\L'=L++[.spare m 1]) aey ⟨0,[],[],0,rfl,abJ _,rfl,rfl,rfl,rfl,rfl⟩ ?_;rintro _ _ _ ⟨k,b,v,m,rfl,W,u,rfl,rfl,rfl,rfl⟩;replace u:=hid u;by_cases j:k<t.length;have Q:(k:Int)<(t.length:Int):=aeu;have T:=abu k aeu;have i:=hid (MR j);obtain⟨c,y⟩:=abr (t.getD k 0);have S:(u8s t).getD k .undef=.int .u8 c.toNat:=by simp[u8s,j,<- y]
 have R:k<(u8s t).length:=by simpa[u8s]using j
 rw[y]at i;have G:b.length<=k:=by rw[u.o];exact xo t k
 have f:∀A,A=aH b c->A=bL (t.take (k+1)):=λA e=>by rw[i.o,<- u.o];exact e
 have q:((c.toNat:Int)=32)↔c=32:=⟨λe=>adB.1 (by have:(32:UInt8).toNat=32:=rfl;omega),λe=>by rw[e];rfl⟩;replace f:=hid f;replace q:=hid q;clear i u y;have F:(u8s b).length=b.length:=by simp[u8s]
 have rest:∀A,A=aH b c->A.length<=b.length+1:=λA e=>by rw[e];exact Jr b c
 clear rest;by_cases y:(c.toNat:Int)=32;rcases adl b with a|⟨d,x,a⟩;have H:(b.length:Int)=0:=by rw[a];rfl
 have C:=hid (f.o b (by rw[aH,if_pos ⟨q.o.1 y,by rw[a];rfl⟩]));clear a;refine wk ?_;exact aez aeu aey ⟨k+1,b,_,_,rfl,j,C.o,rfl,rfl,rfl,rfl⟩;have H:¬(b.length:Int)=0:=by rw[a];simp;omega
 have C:IntKind.i64.wrap ((b.length:Int)-1)=(d.length:Int):=by rw[af aeu aeu,a];simp
 have O:(u8s b).getD d.length .undef=.int .u8 x.toNat:=by rw[a];simp[u8s,abR]
 have E:d.length<(u8s b).length:=by rw[a];simp[u8s]
 have N:(d.length:Int)<(b.length:Int):=by rw[a];simp;omega
 have g:x=32↔(x.toNat:Int)=32:=⟨λe=>by rw[e];rfl,λe=>adB.1 (by have:(32:UInt8).toNat=32:=rfl;omega)⟩;have p:NL b=true↔x=32:=by rw[a];simp[NL]
 replace a:=hid a;replace g:=hid g;replace p:=hid p;by_cases B:(x.toNat:Int)=32;have D:=hid (f.o b (by rw[aH,if_pos ⟨q.o.1 y,p.o.2 (g.o.2 B)⟩]));refine wk ?_;exact aez aeu aey ⟨k+1,b,_,_,rfl,j,D.o,rfl,rfl,rfl,rfl⟩;have D:=hid (f.o (b++[c]) (by rw[aH,if_neg λe=>B (g.o.1 (p.o.1 e.2))]));refine wk ?_;exact aez aeu aey ⟨k+1,b++[c],_,_,rfl,j,D.o,(by rw[Te,y]),aev,rfl,rfl⟩;have C:=hid (f.o (b++[c]) (by rw[aH,if_neg λe=>y (q.o.2 e.1)]));refine wk ?_;exact aez aeu aey ⟨k+1,b++[c],_,_,rfl,j,C.o,(Te b c).symm,aev,rfl,rfl⟩
 .have hke:k=t.length:=aeu;subst hke;have Q:¬(t.length:Int)<(t.length:Int):=aeu;have G:b.length<=t.length:=(by rw[u.o];exact xo t _);have F:(u8s b).length=b.length:=(by simp[u8s]);have z:ev b=bC s:=(by rw[bC,I,u.o,abX]);have C:=EK b;have O:=At b;replace u:=hid z;clear z;rcases adl b with a|⟨d,x,a⟩;have H:¬(0:Int)<(b.length:Int):=(by rw[a];simp);have E:=hid (show b=bC s by rw[<- u.o,a];rfl);clear a;refine wk ?_;refine ae rfl ?_;rw[E.o];exact h.o
  .have H:(0:Int)<(b.length:Int):=(by rw[a];simp;try omega);have E:IntKind.i64.wrap ((b.length:Int)-1)=(d.length:Int):=(by rw[af aeu aeu,a];simp);have N:(u8s b).getD d.length .undef=.int .u8 x.toNat:=(by rw[a];simp[u8s,abR]);have D:d.length<(u8s b).length:=(by rw[a];simp[u8s]);have U:(d.length:Int)<(b.length:Int):=(by rw[a];simp;omega);have Y:(u8s b).take d.length=u8s d:=(by rw[a];simp[u8s]);have P:(u8s d).length=d.length:=(by simp[u8s]);have X:=EK d;have V:=At d;have g:x=32↔(x.toNat:Int)=32:=⟨λe=>by rw[e];rfl,λe=>adB.1 (by have:(32:UInt8).toNat=32:=rfl;omega)⟩;have w:ev b=if x=32 then d else b:=by rw[a];simp[ev]
   replace a:=hid a;replace w:=hid w;by_cases B:(x.toNat:Int)=32;have r:=hid (show d=bC s by rw[<- u.o,w.o,if_pos (g.2 B)]);replace g:=hid g;refine wk ?_;refine ae rfl ?_;rw[r.o];exact h.o;have r:=hid (show b=bC s by rw[<- u.o,w.o,if_neg λe=>B (g.1 e)]);replace g:=hid g;refine wk ?_;refine ae rfl ?_;rw[r.o];exact h.o
inductive Nd where
 |mk (tag:Int) (data:List UInt8) (kids:List Nd)
def Nd.tag:Nd->Int
 |.mk t _ _=>t
def Nd.data:Nd->List UInt8
 |.mk _ d _=>d
def Nd.kids:Nd->List Nd
 |.mk _ _ k=>k
abbrev bZ:Nd:=.mk 0 [] []
instance:Inhabited Nd:=⟨bZ⟩
def b8(n:Nat):UInt8:=UInt8.ofNat n
def xS(n:Nat):List UInt8 :=
 if n<128 then[b8 n]else if n<256 then[129,b8 n]else if n<65536 then[130,b8 (n/256),b8 n]else[131,b8 (n/65536),b8 (n/256),b8 n]
def rV(p:Nd->List UInt8×Int):List UInt8->List Nd->List UInt8×Int
 |acc,[]=>(acc,0)
 |acc,n::l=>if(p n).2≠0 then([],(p n).2)else rV p (acc++(p n).1) l
def fc:Nat->Nd->List UInt8×Int
 |0,.mk t d _=>if 1048576<d.length then([],5)else(b8 t.toNat::(xS d.length++d),0)
 |h+1,.mk t d ks=>if(rV (fc h) d ks).2≠0 then([],(rV (fc h) d ks).2)else if 1048576<(rV (fc h) d ks).1.length then([],5)else(b8 t.toNat::(xS (rV (fc h) d ks).1.length++(rV (fc h) d ks).1),0)
def okN:Nat->Nd->Prop
 |0,.mk t d ks=>(t=2\/t=4)/\ks=[]/\(d.length:Int)<=140737488351232
 |h+1,.mk t d ks=>((t=2\/t=4)/\ks=[]/\(d.length:Int)<=140737488351232)\/((t=48\/t=49)/\d=[]/\ks.length<=1100000/\∀k∈ks,okN h k)
def bA(s:List UInt8):Nd:=.mk 4 s []
def bV(s:List UInt8):Nat:=s.foldl (λn c=>256*n+c.toNat) 0
def Kw(s:List UInt8):Except Int (Nat×Nat):=
 if s.length<2 then .error 3 else
 let k:=(s.getD 1 0).toNat
 if k<128 then .ok (k,2)else if k=128\/132<k then .error 8 else
 if s.length<k-126 then .error 3 else
 if 1048576<bV ((s.drop 2).take (k-128))then .error 5 else .ok (bV ((s.drop 2).take (k-128)),k-126)
def pT(p:List UInt8->Except Int (Nd×List UInt8)):Nat->List UInt8->Except Int (List Nd)
 |_,[]=>.ok []
 |0,_=>.ok []
 | f+1,s=>match p s with
   |.error e=>.error e
   | .ok (n,r)=>match pT p f r with
     |.error e=>.error e
     |.ok l=>.ok (n::l)
def mU:Nat->List UInt8->Except Int (Nd×List UInt8)
 |0,_=>.error 6
 | f+1,s=>if s=[] then .error 3 else
   let t:=(s.getD 0 0).toNat
   if t%32=31 then .error 7 else
   match Kw s with
   |.error e=>.error e
   | .ok (size,a)=>if s.length<a+size then .error 3 else
     if t/32%2=0 then .ok (.mk t ((s.drop a).take size) [],s.drop (a+size))
     else match pT (mU f) size ((s.drop a).take size)with
      |.error e=>.error e
      |.ok ks=>.ok (.mk t [] ks,s.drop (a+size))
def LM(s:List UInt8):Except Int Nd:=match mU 64 s with
 |.error e=>.error e
 |.ok (n,r)=>if r=[]then .ok n else .error 4
def em(n:Nat):Nat->List UInt8
 |0=>[]
 |k+1=>em (n/256) k++[b8 n]
def UR(n:Int):Nat->Nat->Nat
 |0,k=>k
 |f+1,k=>if n.fdiv (2^(8*k-1))=0\/n.fdiv (2^(8*k-1))=-1 then k else UR n f (k+1)
def Sl(n:Int):List UInt8:=em (n%18446744073709551616).toNat (UR n 7 1)
def Ya(s:List UInt8):Int:=if bV s<2^(8*s.length-1)then(bV s:Int)else(bV s:Int)-2^(8*s.length)
def R8(s:List UInt8):Option Int:=if 1<=s.length/\s.length<=8/\Sl (Ya s)=s then some (Ya s)else none
mutual
def ndA:Nd->List AV
 |.mk t d ks=>[.int .i64 t,.str d,.sl (aC ks) (Yk ks) none]
def aC:List Nd->List AV
 |[]=>[]
 |n::l=>ndA n++aC l
def Yk:List Nd->Nat
 |[]=>0
 |_::l=>Yk l+1
end
theorem TA:∀l:List Nd,Yk l=l.length
 |[]=>rfl
 |_::l=>by simp only[Yk,abU,TA l]
theorem bP(t:Int)(d:List UInt8)(a:List Nd):ndA (.mk t d a)=[.int .i64 t,.str d,.sl (aC a) a.length none]:=by rw[ndA,TA]
theorem dM(n:Nd):ndA n=[.int .i64 n.tag,.str n.data,.sl (aC n.kids) n.kids.length none]:=by obtain⟨t,d,a⟩:=n;exact bP t d a
theorem io:∀l:List Nd,(aC l).length=l.length*3
 |[]=>rfl
 |n::l=>by simp only[aC,abP,io l,dM,abU,ack];omega
theorem rQ:∀l m:List Nd,aC (l++m)=aC l++aC m
 |[],m=>rfl
 |n::l,m=>by simp only[acp,aC,rQ l m,abK]
theorem xN:∀{l:List Nd}{k:Nat},k<l.length->((aC l).drop (k*3)).take 3=ndA (l.getD k bZ)
 |n::l,0,_=>by simp[aC,dM]
 | n::l,k+1,h=>by
   have a:=@xN l k (by simpa using h);have e:(aC (n::l)).drop ((k+1)*3)=(aC l).drop (k*3):=by
    rw[aC,List.drop_append,dM]
    grind
   simp[*]
mutual
theorem Yl:∀n:Nd,AV.frzL (ndA n)=ndA n
 |.mk t d ks=>by have a:=cS ks;simp only[ndA,AV.frzL,AV.frz,a]
theorem cS:∀l:List Nd,AV.frzL (aC l)=aC l
 |[]=>rfl
 |n::l=>by have b:=Yl n;have a:=cS l;rw[AV.frzL_eq]at b a⊢;rw[aC,abS,b,a]
end
mutual
theorem Wp(p:Nat->Bool):∀n:Nd,AV.refsL p (ndA n)=true
 |.mk t d ks=>by have a:=fW p ks;simp only[ndA,AV.refsL,AV.refs,a,adg]
theorem fW(p:Nat->Bool):∀l:List Nd,AV.refsL p (aC l)=true
 |[]=>rfl
 |n::l=>by have c:=Wp p n;have d:=fW p l;rw[AV.refsL_iff]at c d⊢;intro a b;rw[aC,abD]at b;exact b.elim (c a) (d a)
end
theorem HB{n:Nat}:(b8 n).toNat=n%256:=by simp[b8]
theorem O2(n:Nat):∀k:Nat,em n (k+1)=b8 (n/256^k)::em n k:=by
 intro k;induction k generalizing n with
 |zero=>simp[em]
 | succ k ih =>
   rw[em,ih (n/256),em,acp];congr 2;rw[aef,Nat.pow_succ,Nat.mul_comm]
theorem fe(n:Nat):∀k:Nat,(em n k).length=k
 |0=>rfl
 |k+1=>by rw[O2,abU,fe n k]
theorem Nw(s:List UInt8)(c:UInt8):bV (s++[c])=256*bV s+c.toNat:=by simp[bV]
theorem Mt:∀s:List UInt8,bV s<256^s.length:=by
 intro s;rw[<- List.reverse_reverse s];generalize s.reverse=r;induction r with
 |nil=>simp[bV]
 | cons c r ih =>
   rw[List.reverse_cons,Nw,abP,List.length_singleton,Nat.pow_succ];have:=c.toNat_lt;omega
theorem Yj{n:Nat}{c:UInt8}(g:n<2^56):
  IntKind.u64.wrap (BitVec.ofInt 64 (IntKind.u64.wrap ((n:Int)*256)) |||BitVec.ofInt 64 (c.toNat:Int)).toNat=((256*n+c.toNat:Nat):Int):=by
 have h:=c.toNat_lt;have d:IntKind.u64.wrap ((n:Int)*256)=((n*256:Nat):Int):=by rw[show(n:Int)*256=((n*256:Nat):Int)by simp];simp only[IntKind.wrap,IntKind.signed,IntKind.bits];simp;omega
 rw[d];have e:(BitVec.ofInt 64 ((n*256:Nat):Int) |||BitVec.ofInt 64 (c.toNat:Int)).toNat=n*256+c.toNat:=by rw[BitVec.toNat_or,BitVec.toNat_ofInt,BitVec.toNat_ofInt];have f:(((n*256:Nat):Int)%((2^64:Nat):Int)).toNat=n*256:=aeu;have a:(((c.toNat:Nat):Int)%((2^64:Nat):Int)).toNat=c.toNat:=aeu;rw[f,a];have:=Nat.two_pow_add_eq_or_of_lt (i:=8) (b:=c.toNat) aeu n;rw[show 2^8*n=n*256 by omega]at this;exact this.symm
 rw[e];simp only[IntKind.wrap,IntKind.signed,IntKind.bits];simp;omega
theorem Uo{u l:Nat}(d:1<=l)(c:l<=8)(a:u<256^l):
  (IntKind.i64.wrap (IntKind.u64.wrap ((u:Int)*2^(64-8*l)))).fdiv (2^(64-8*l))=if u<2^(8*l-1)then(u:Int)else(u:Int)-2^(8*l):=by
 have b:l=1\/l=2\/l=3\/l=4\/l=5\/l=6\/l=7\/l=8:=aeu;rcases b with rfl|rfl|rfl|rfl|rfl|rfl|rfl|rfl<;>simp at a⊢<;>(try rw[aeg _ (by decide)])<;>simp only[IntKind.wrap,IntKind.signed,IntKind.bits]<;>simp<;>split<;>split<;>omega
theorem TU{s:List UInt8}{n a:Nat}(h:Kw s=.ok (n,a)):2<=a/\a<=6/\n<=1048576/\a<=s.length:=by unfold Kw at h;simp only at h;split at h;cases h;rename_i e;split at h;cases h;exact⟨aeu,aeu,aeu,aeu⟩;split at h;cases h;split at h;cases h;split at h;cases h;rename_i d f c b;cases h;exact⟨aeu,aeu,aeu,aeu⟩
theorem TT{s:List UInt8}{e:Int}(h:Kw s=.error e):e≠0:=by
 unfold Kw at h;simp only at h
 repeat' split at h
 all_goals first|(cases h;decide)|cases h
theorem Wf{f:Nat}{s:List UInt8}{n:Nd}{r:List UInt8}(h:mU f s=.ok (n,r)):r.length<s.length:=by
 cases f with
 |zero=>cases h
 | succ f =>
   rw[mU]at h;split at h
   .cases h
   simp only at h;split at h
   .cases h
   split at h
   .cases h
   rename_i size a b;obtain⟨g,e,c,d⟩:=TU b;split at h
   .cases h
   split at h
   .cases h;simp;omega
   split at h
   .cases h
   .cases h;simp;omega
theorem QQ{p:List UInt8->Except Int (Nd×List UInt8)}(a:∀s e,p s=.error e->e≠0):∀(f:Nat) (s:List UInt8) (e:Int),pT p f s=.error e->e≠0
 |0,[],e,h=>by cases h
 |0,_::_,e,h=>by cases h
 |f+1,[],e,h=>by cases h
 | f+1,c::s,e,h=>by
   rw[pT]at h
   .split at h
    .rename_i hh;cases h;exact a _ _ hh
    .split at h
     .rename_i hh;cases h;exact QQ a f _ _ hh
     .cases h
   .simp
theorem Ml:∀(f:Nat) (s:List UInt8) (e:Int),mU f s=.error e->e≠0
 |0,s,e,h=>by cases h;decide
 | f+1,s,e,h=>by
   rw[mU]at h;split at h
   .cases h;decide
   simp only at h;split at h
   .cases h;decide
   split at h
   .rename_i hh;cases h;exact TT hh
   split at h
   .cases h;decide
   split at h
   .cases h
   split at h
   .rename_i hh;cases h;exact QQ (Ml f) _ _ _ hh
   .cases h
end Go.Proofs.YtajkbcmleihaoaaGreatDoor.Av
set_option maxRecDepth 100000
namespace Go.Proofs.YtajkbcmleihaoaaGreatDoor.Av
open Go
variable {n k:Nat}{s d:List UInt8}{t:Int}{cap:Option Nat}
def FX:LSO:=[Ar 4]
def FW:LSO:=[Aa 7 1,AF 8 7 1,Aa 9 8,.grp none 9 false
 [Ai 10 9 1,AI 11 9 10 8]
 12 (tm 11)]
def FV:LSO:=[Ar 4]
def FU:LSO:=[Aa 13 1,o1 14 (.mkslice 1 1 [(.int .u8 0)] (tm 13) (tm 13)),Aa 5 14]
def FT:LSO:=[Aa 15 5,Ah 16 15,Ab 17 0]
def FS:LSO:=[Au 18 17 16]
def FR:LSO:=[Aa 19 17,Aa 6 19]
def FQ:LSO:=[Aa 20 5,Aa 21 1,AM 22 21 1,Aa 23 6,Bi 24 22 23,Aa 25 0,o1 26 (.conv .u8 (tm 25)),Aw 27 1 20 24,Ag 1 27 26]
def FP:LSO:=[Aa 28 0,o1 29 (.bin .shr (tm 28) (.av (.int .u64 8))),Aa 0 29]
def FO:LSO:=[Aj 30 17 1,Aa 17 30]
def DM:LSO:=[Aa 31 5,Bf 32 31,Aa 4 32]
def Ey:aI:=⟨33,(aen FX [] (.seq (aen FW BW (aep 12 (.sreg FV []))) (aen FU BV (.seq (aen FT Ca (aeq 0 (aen FS [] (.seq (aer 18 0) (.seq (.block 1 (aen FR BU (aen FQ Cp (.sreg FP BV)))) (.sreg FO BU)))))) (aen DM BV .ret))))),[(.tmp 4)]⟩
attribute [push_cast] FX FW FV FU FT FS FR FQ FP FO DM
theorem N5:aes 67=aet Ey:=aew
def F7:LSO:=[BM 6,As 7]
def F6:LSO:=[Aa 11 2,AF 12 11 1,Aa 13 12,.grp none 13 false
 [Ai 14 13 2,AI 15 13 14 8]
 16 (tm 15),Aa 17 16,.grp none 17 false
 [Ai 18 17 1,BH 19 17 18 0]
 20 (tm 19),Aa 21 20,.grp none 21 false
 [Ai 22 21 1,Ai 23 21 0,BA 24 21 23,Ai 25 21 2,og 26 21 false (.bin .sub (tm 24) (tm 25)),og 27 21 false (.bin .gtr (tm 22) (tm 26))]
 28 (tm 27)]
def F5:LSO:=[BM 6,As 7]
def F4:LSO:=[BM 8]
def F3:LSO:=[Aa 29 0,Aa 30 1,Aa 31 1,Aa 32 2,A7 33 31 32,o1 34 (.slS (tm 29) (some (tm 30)) (some (tm 33))),o1 35 (.s2b (tm 34)),Ah 36 35,Ab 37 0]
def F2:LSO:=[Au 38 37 36]
def F1:LSO:=[Aw 39 1 35 37,Ac 40 1 39,Aa 10 40]
def F0:LSO:=[Aa 41 8,o1 42 (.bin .shl (tm 41) (.av (.int .u64 8))),Aa 43 10,AA 44 43,o1 45 (.bin .or (tm 42) (tm 44)),Aa 8 45]
def FZ:LSO:=[Aj 46 37 1,Aa 37 46]
def FY:LSO:=[Aa 47 8,Aa 6 47,AJ 7]
def nf:aI:=⟨48,(aen F7 [] (.seq (aen F6 Cb (aep 28 (.sreg F5 []))) (aen F4 [] (.seq (aen F3 Ci (aeq 0 (aen F2 [] (.seq (aer 38 0) (.seq (.block 1 (aen F1 BV (.sreg F0 BZ))) (.sreg FZ BU)))))) (aen FY Ca .ret))))),[(.tmp 6),(.tmp 7)]⟩
attribute [push_cast] F7 F6 F5 F4 F3 F2 F1 F0 FZ FY
theorem Ez:aes 83=aet nf:=aew
def Dj:LSO:=[Ab 2 0,Ab 3 0,Ab 4 0]
def Di:LSO:=[Aa 8 0,A4 9 8,AF 10 9 2]
def Dh:LSO:=[Ab 2 0,Ab 3 0,Ab 4 3]
def Dg:LSO:=[Aa 11 0,Ba 12 11 1,Bb 13 12,Aa 5 13]
def Df:LSO:=[Aa 15 5,AF 16 15 128,Aa 14 16]
def De:LSO:=[Aa 17 5,Aa 2 17,Ab 3 2,Ab 4 0]
def Dd:LSO:=[Aa 19 5,Az 20 19 128,Aa 21 20,.grp none 21 false
 [Ai 22 21 5,AI 23 21 22 132]
 24 (tm 23),Aa 18 24]
def Dc:LSO:=[Ab 2 0,Ab 3 0,Ab 4 8]
def Db:LSO:=[Aa 26 0,Aa 27 5,AM 28 27 128,o1 29 (.call 83 [(tm 26),(iv 2),(tm 28)]),Aa 25 29,Al 30 25,Am 31 25,Aa 6 30,Aa 7 31]
def Da:LSO:=[Aa 33 7,A5 34 33,Aa 32 34]
def yw:LSO:=[Ab 2 0,Ab 3 0,Ab 4 3]
def yv:LSO:=[Aa 36 6,o1 37 (.bin .gtr (tm 36) (.av (.int .u64 1048576))),Aa 35 37]
def yu:LSO:=[Ab 2 0,Ab 3 0,Ab 4 5]
def yt:LSO:=[Aa 38 6,Bb 39 38,Aa 40 5,AM 41 40 126,Aa 2 39,Aa 3 41,Ab 4 0]
def yc:aI:=⟨42,(aen Dj [] (.seq (aen Di BV (aep 10 (.sreg Dh []))) (aen Dg BW (.seq (.block 0 (aen Df BV (aeo 14 (aen De Cf .ret) (aen Dd BX (aep 18 (.sreg Dc [])))))) (aen Db Cl (.seq (.block 1 (aen Da BV (aeo 32 (aen yw [] .ret) (aen yv BV (aep 35 (.sreg yu [])))))) (aen yt C4 .ret))))))),[(.tmp 2),(.tmp 3),(.tmp 4)]⟩
attribute [push_cast] Dj Di Dh Dg Df De Dd Dc Db Da yw yv yu yt
theorem L5:aes 181=aet yc:=aew
def FN:LSO:=[AD 2,Ar 3,Ab 4 0]
def FM:LSO:=[Aa 5 0,AE 6 152 5 1,Al 7 6,Am 8 6,AP 9 6,Ag 3 2 7,Aa 3 8,Aa 4 9]
def m9:aI:=⟨10,(aen FN [] (aen FM Cd .ret)),[(.cell true 3 2),(.tmp 3),(.tmp 4)]⟩
attribute [push_cast] FN FM
theorem Ew:aes 116=aet m9:=aew
def FE:LSO:=[AD 4,Ar 5,Ab 6 0]
def FD:LSO:=[Aa 16 1,AB 17 16 64,Aa 15 17]
def FC:LSO:=[Bl 18,Ag 3 4 18,Ar 5,Ab 6 6]
def FB:LSO:=[Aa 20 0,BB 21 20,Aa 19 21]
def FA:LSO:=[Bl 22,Ag 3 4 22,Ar 5,Ab 6 3]
def Fz:LSO:=[Aa 24 0,Ba 25 24 0,o1 26 (.bin .and (tm 25) (.av (.int .u8 31))),o1 27 (.bin .eql (tm 26) (.av (.int .u8 31))),Aa 23 27]
def Fy:LSO:=[Bl 28,Ag 3 4 28,Ar 5,Ab 6 7]
def Fx:LSO:=[Aa 30 0,Af 31 181 30,Aa 29 31,Al 32 29,Am 33 29,AP 34 29,Aa 7 32,Aa 8 33,Aa 9 34]
def Fw:LSO:=[Aa 35 9,Az 36 35 0,Aa 37 36,.grp none 37 true
 [Ak 38 37 7,Ak 39 37 0,og 40 37 true (.len true (tm 39)),Ak 41 37 8,og 42 37 true (.bin .sub (tm 40) (tm 41)),og 43 37 true (.bin .gtr (tm 38) (tm 42))]
 44 (tm 43)]
def Fv:LSO:=[Ab 9 3]
def CS:LSO:=[Aa 45 9,Ax 46 45 0]
def CR:LSO:=[Bl 47,Aa 48 9,Ag 3 4 47,Ar 5,Aa 6 48]
def CQ:List (aj×Kd):=
 [An 49 0,od 50 (.idxS (tm 49) (iv 0)) (.read 0 1),od 51 (.conv .i64 (tm 50)) .pure,od 52 (.build [(.int .i64 0),(.str []),(.sl [] 0 (some 0))] [(0,(1,(tm 51)))]) .pure,An 53 0,
 An 54 8,An 55 8,An 56 7,Be 57 55 56,od 58 (.slS (tm 53) (some (tm 54)) (some (tm 57))) (.read 0 2),od 10 (.alloc [(.int .i64 0),(.str []),(.sl [] 0 (some 0))]) .eff,
 (⟨none,(.store 3 (tm 10) (tm 52)),none⟩,.eff)]
def yr:List aj :=
 [⟨(some 11),(.mv (tm 58)),none⟩]
def CP:LSO:=[Aa 59 0,Ba 60 59 0,o1 61 (.bin .and (tm 60) (.av (.int .u8 32))),BN 62 61]
def CO:LSO:=[Aa 63 11,Ad 64 1 10,Ag 1 64 63]
def CN:List (aj×Kd):=
 [BO 65 3 10 0 0,An 66 0,An 67 8,An 68 7,Be 69 67 68,BP 70 66 69 0 1,
 (⟨none,(.store 3 (tm 4) (tm 65)),none⟩,.eff)]
def yq:List aj :=
 [⟨(some 5),(.mv (tm 70)),none⟩,⟨(some 6),(.mv (iv 0)),none⟩]
def CM:LSO:=[Aa 71 11,o1 72 (.bin .neq (tm 71) (.av (.str [])))]
def CL:LSO:=[Aa 74 11,Aa 75 1,Aj 76 75 1,Ay 77 152 74 76,Aa 73 77,Al 78 73,Am 79 73,AP 80 73,AD 12,Ag 3 12 78,Aa 13 79,Aa 14 80]
def CK:LSO:=[Aa 81 14,Ax 82 81 0]
def CJ:LSO:=[Bl 83,Aa 84 14,Ag 3 4 83,Ar 5,Aa 6 84]
def CI:LSO:=[Ad 85 2 10,Ac 86 1 85,A0 87 3 12,Bm 88 87,Br 89 86 88,Ad 90 2 10,Ag 1 90 89]
def CH:LSO:=[Aa 91 13,Aa 11 91]
def CG:List (aj×Kd):=
 [BO 92 3 10 0 0,An 93 0,An 94 8,An 95 7,Be 96 94 95,BP 97 93 96 0 1,
 (⟨none,(.store 3 (tm 4) (tm 92)),none⟩,.eff)]
def yo:List aj :=
 [⟨(some 5),(.mv (tm 97)),none⟩,⟨(some 6),(.mv (iv 0)),none⟩]
def br:aI:=⟨98,(aen FE [] (.seq (.block 0 (aen FD BV (aeo 15 (aen FC Ca .ret) (aen FB BV (aeo 19 (aen FA Ca .ret) (aen Fz BX (aep 23 (.sreg Fy Ca)))))))) (aen Fx Ci (.seq (aen Fw BW (aeo 44 (.sreg Fv []) .skip)) (.seq (aen CS BU (aep 46 (.sreg CR Cj))) (.seq (.dregM CQ yr Cz) (.seq (aen CP BW (aeo 62 (aen CO Cq (.seq (.dregM CN yq Ch) .ret)) .skip)) (.seq (aeq 1 (.seq (aen CM BU (aer 72 1)) (.block 2 (aen CL C2 (.seq (aen CK BU (aep 82 (.sreg CJ Cj))) (aen CI Cu (.sreg CH BU))))))) (.seq (.dregM CG yo Ch) .ret))))))))),[(.cell true 3 4),(.tmp 5),(.tmp 6)]⟩
attribute [push_cast] FE FD FC FB FA Fz Fy Fx Fw Fv CS CR CQ yr CP CO CN yq CM CL CK CJ CI CH CG yo
theorem dq:aes 152=aet br:=aew
def FL:LSO:=[AD 2,Ab 3 0]
def FK:LSO:=[Aa 8 0,Af 9 116 8,Aa 7 9,Al 10 7,Am 11 7,AP 12 7,AD 4,Ag 3 4 10,Aa 5 11,Aa 6 12]
def FJ:LSO:=[Aa 13 6,Az 14 13 0,Aa 15 14,.grp none 15 true
 [Ak 16 15 5,og 17 15 true (.bin .neq (tm 16) (.av (.str [])))]
 18 (tm 17)]
def FI:LSO:=[Ab 6 4]
def FH:LSO:=[Aa 19 6,Ax 20 19 0]
def FG:LSO:=[Bl 21,Aa 22 6,Ag 3 2 21,Aa 3 22]
def FF:LSO:=[A0 23 3 4,Ag 3 2 23,Ab 3 0]
def iu:aI:=⟨24,(aen FL [] (aen FK Ci (.seq (aen FJ BW (aeo 18 (.sreg FI []) .skip)) (.seq (aen FH BU (aep 20 (.sreg FG BV))) (aen FF BU .ret))))),[(.cell true 3 2),(.tmp 3)]⟩
attribute [push_cast] FL FK FJ FI FH FG FF
theorem rW:aes 85=aet iu:=aew
def CZ:LSO:=[Ar 2]
def CY:LSO:=[Aa 4 0,AF 5 4 128]
def CX:LSO:=[Aa 6 0,AA 7 6,AE 8 67 7 1,Aa 2 8]
def CW:LSO:=[Ab 3 1]
def CV:LSO:=[Aa 9 0,Aa 10 3,o1 11 (.bin .mul (iv 8) (tm 10)),o1 12 (.bin .shr (tm 9) (tm 11)),AB 13 12 0]
def CU:LSO:=[Aa 14 3,Aj 15 14 1,Aa 3 15]
def CT:LSO:=[Aa 16 3,B0 17 128 16,AA 18 17,AE 19 67 18 1,Aa 20 0,AA 21 20,Aa 22 3,Ay 23 67 21 22,A7 24 19 23,Aa 2 24]
def yb:aI:=⟨25,(aen CZ [] (.seq (aen CY BU (aep 5 (.sreg CX BW))) (aen CW [] (.seq (aeq 0 (.seq (aen CV BX (aer 13 0)) (.block 1 (.sreg CU BV)))) (aen CT Cc .ret))))),[(.tmp 2)]⟩
attribute [push_cast] CZ CY CX CW CV CU CT
theorem LZ:aes 107=aet yb:=aew
def KN:LSO:=[A3 1 0,Ar 2,Ab 3 0]
def KM:LSO:=[A0 4 3 1,AE 5 79 4 1,Al 6 5,Am 7 5,Aa 2 6,Aa 3 7]
def Kl:aI:=⟨8,(aen KN [] (aen KM Cr .ret)),[(.tmp 2),(.tmp 3)]⟩
attribute [push_cast] KN KM
theorem P1:aes 45=aet Kl:=aew
def KJ:LSO:=[A3 2 0,Ar 4,Ab 5 0]
def KI:LSO:=[Aa 12 1,AB 13 12 64,Aa 11 13]
def KH:LSO:=[Ar 4,Ab 5 6]
def KG:LSO:=[Ad 15 0 2,Ac 16 1 15,AF 17 16 0,Aa 18 17,.grp none 18 false
 [A9 19 18 0 2,A8 20 18 1 19,AI 21 18 20 255]
 22 (tm 21),Aa 23 22,.grp none 23 false
 [A9 24 23 0 2,A8 25 23 1 24,og 26 23 false (.bin .and (tm 25) (iv 31)),Bn 27 23 26 31]
 28 (tm 27),Aa 14 28]
def KF:LSO:=[Ar 4,Ab 5 7]
def KE:LSO:=[Ad 30 0 2,Ac 31 1 30,o1 32 (.bin .and (tm 31) (iv 32)),Ax 33 32 0,Aa 34 33,.grp none 34 true
 [AT 35 34 1 2,AO 36 34 1 35,og 37 34 true (.bin .neq (tm 36) (.av (.str [])))]
 38 (tm 37),Aa 39 38,.grp none 39 false
 [A9 40 39 0 2,A8 41 39 1 40,og 42 39 false (.bin .and (tm 41) (iv 32)),Bn 43 39 42 0,Ai 44 39 43,.grp (some (39,false)) 44 true
 [AT 45 44 2 2,AO 46 44 1 45,Bj 47 44 46,og 48 44 true (.bin .gtr (tm 47) (iv 0))]
 49 (tm 48)]
 50 (tm 49),Aa 29 50]
def KD:LSO:=[Ar 4,Ab 5 4]
def KC:LSO:=[Ad 51 1 2,Ac 52 1 51,o1 53 (.s2bG (tm 52)),Aa 6 53]
def KB:LSO:=[Ad 54 2 2,Ac 55 1 54,Ah 56 55,Ab 57 0]
def KA:LSO:=[Au 58 57 56]
def Ig:LSO:=[Aw 59 3 55 57,A0 60 3 59,AD 8,Ag 3 8 60]
def If:LSO:=[A0 62 3 8,Aa 63 1,Aj 64 63 1,Ay 65 79 62 64,Aa 61 65,Al 66 61,Am 67 61,Aa 9 66,Aa 10 67]
def Ie:LSO:=[Aa 68 10,Ax 69 68 0]
def Ic:LSO:=[Aa 70 10,Ar 4,Aa 5 70]
def Ib:LSO:=[Aa 71 6,Aa 72 9,Bk 73 71 72,Aa 6 73]
def Ia:LSO:=[Aj 74 57 1,Aa 57 74]
def H9:LSO:=[Aa 75 6,Ah 76 75,AB 77 76 1048576]
def H8:LSO:=[Ar 4,Ab 5 5]
def H7:LSO:=[Ad 78 0 2,Ac 79 1 78,AA 80 79,AE 81 67 80 1,Aa 82 6,Ah 83 82,Af 84 107 83,A7 85 81 84,Aa 86 6,Bf 87 86,A7 88 85 87,Aa 4 88,Ab 5 0]
def lU:aI:=⟨89,(aen KJ [] (.seq (.block 0 (aen KI BV (aeo 11 (aen KH [] .ret) (aen KG Cb (aeo 14 (aen KF [] .ret) (aen KE Cv (aep 29 (.sreg KD [])))))))) (aen KC BW (.seq (aen KB Cf (aeq 1 (aen KA [] (.seq (aer 58 1) (.seq (.block 2 (aen Ig BV (aen If Cl (.seq (aen Ie BU (aep 69 (.sreg Ic Ca))) (.sreg Ib BW))))) (.sreg Ia BU)))))) (.seq (aen H9 BV (aep 77 (.sreg H8 []))) (.seq (.sdreg H7 [.pure,(.read 0 0),.pure,(.read 0 0),.pure,(.read 0 0),(.read 0 0),.pure,.pure,(.read 0 0)] [true,true,false,false,false,false,false,false,false,false,false,false,false]) .ret)))))),[(.tmp 4),(.tmp 5)]⟩
attribute [push_cast] KJ KI KH KG KF KE KD KC KB KA Ig If Ie Ic Ib Ia H9 H8 H7
theorem xZ:aM Tryz.prog (λr i=>if r=7/\i=2 then 5 else 1) 79=some lU.raw:=aew
def KS:LSO:=[Ar 2]
def KR:LSO:=[Ab 3 1]
def KQ:LSO:=[Aa 4 3,AF 5 4 8,Aa 6 5,.grp none 6 true
 [Ak 7 6 0,Ak 8 6 3,og 9 6 true (.bin .mul (iv 8) (tm 8)),BK 10 6 9 1,og 11 6 true (.bin .shr (tm 7) (tm 10)),Bt 12 6 11 0]
 13 (tm 12),Aa 14 13,.grp none 14 true
 [Ak 15 14 0,Ak 16 14 3,og 17 14 true (.bin .mul (iv 8) (tm 16)),BK 18 14 17 1,og 19 14 true (.bin .shr (tm 15) (tm 18)),Bt 20 14 19 (-1)]
 21 (tm 20)]
def KP:LSO:=[Aa 22 3,Aj 23 22 1,Aa 3 23]
def KO:LSO:=[Aa 24 0,AA 25 24,Aa 26 3,Ay 27 67 25 26,Aa 2 27]
def Km:aI:=⟨28,(aen KS [] (aen KR [] (.seq (aeq 0 (.seq (aen KQ BZ (aer 21 0)) (.block 1 (.sreg KP BV)))) (aen KO BX .ret)))),[(.tmp 2)]⟩
attribute [push_cast] KS KR KQ KP KO
theorem P2:aes 39=aet Km:=aew
def Ds:LSO:=[Ab 2 0,As 3]
def Dr:LSO:=[Aa 9 0,Aa 10 0,A4 11 10,o1 12 (.call 83 [(tm 9),(iv 0),(tm 11)]),Aa 8 12,Al 13 8,Am 14 8,Aa 4 13,Aa 5 14]
def Dq:LSO:=[Aa 15 5,A5 16 15]
def Dp:LSO:=[Ab 2 0,As 3]
def Do:LSO:=[Aa 17 0,A4 18 17,o1 19 (.bin .mul (iv 8) (tm 18)),o1 20 (.bin .sub (iv 64) (tm 19)),Aa 6 20]
def Dn:LSO:=[Aa 21 4,Aa 22 6,o1 23 (.bin .shl (tm 21) (tm 22)),Bb 24 23,Aa 25 6,o1 26 (.bin .shr (tm 24) (tm 25)),Aa 7 26]
def Dm:LSO:=[Aa 27 7,Af 28 39 27,Aa 29 0,o1 30 (.bin .neq (tm 28) (tm 29))]
def Dl:LSO:=[Ab 2 0,As 3]
def Dk:LSO:=[Aa 31 7,Aa 2 31,AJ 3]
def yd:aI:=⟨32,(aen Ds [] (aen Dr Cl (.seq (aen Dq BU (aep 16 (.sreg Dp []))) (aen Do BX (aen Dn BY (.seq (aen Dm BW (aep 30 (.sreg Dl []))) (aen Dk Ca .ret))))))),[(.tmp 2),(.tmp 3)]⟩
attribute [push_cast] Ds Dr Dq Dp Do Dn Dm Dl Dk
theorem L6:aes 117=aet yd:=aew
def KL:LSO:=[AD 4]
def KK:LSO:=[Aa 5 0,Aa 6 1,Af 7 78 6,o1 8 (.build [(.int .i64 0),(.str []),(.sl [] 0 (some 0))] [(0,(1,(tm 5))),(2,(1,(tm 7)))]),Ag 3 4 8]
def Kk:aI:=⟨9,(aen KL [] (aen KK Cg .ret)),[(.cell true 3 4)]⟩
attribute [push_cast] KL KK
theorem P0:aes 43=aet Kk:=aew
def H6:LSO:=[Ao 2]
def H5:LSO:=[Ao 3]
def H4:LSO:=[Aa 6 0,Ah 7 6,Ab 8 0]
def H3:LSO:=[Au 9 8 7]
def H2:LSO:=[Aw 10 3 6 8,A0 11 3 10,AD 5,Ag 3 5 11]
def H1:List (aj×Kd):=
 [An 12 3,Ap 13 0 5,Aq 14 1 13 0 0,Ap 15 1 5,Aq 16 1 15 0 0,Ap 17 2 5,Aq 18 1 17 0 0,AN 19 78 18 0 0,
 od 20 (.build [(.int .i64 0),(.str []),(.sl [] 0 (some 0))] [(0,(1,(tm 14))),(1,(1,(tm 16))),(2,(1,(tm 19)))]) .pure,
 od 21 (.bslice false 3 1 [(.int .i64 0),(.str []),(.sl [] 0 (some 0))] [(0,(3,(tm 20)))]) (.read 0 0)]
def Fu:List aj :=
 [⟨(some 22),(.app 1 3 48 [(.int .i64 0),(.str []),(.sl [] 0 (some 0))] (tm 12) (tm 21)),none⟩,⟨(some 3),(.mv (tm 22)),none⟩]
def H0:LSO:=[Aj 23 8 1,Aa 8 23]
def HZ:LSO:=[Aa 24 3,Aa 2 24]
def Hp:aI:=⟨25,(aen H6 [] (aen H5 [] (.seq (aen H4 [] (aeq 0 (aen H3 [] (.seq (aer 9 0) (.seq (.block 1 (aen H2 BV (.dregM H1 Fu C5))) (.sreg H0 BU)))))) (aen HZ BU .ret)))),[(.tmp 2)]⟩
attribute [push_cast] H6 H5 H4 H3 H2 H1 Fu H0 HZ
theorem OB:aes 78=aet Hp:=aew
def Ii:LSO:=[AD 4]
def Ih:LSO:=[Aa 5 0,Aa 6 1,o1 7 (.build [(.int .i64 0),(.str []),(.sl [] 0 (some 0))] [(0,(1,(tm 5))),(1,(1,(tm 6)))]),Ag 3 4 7]
def Hq:aI:=⟨8,(aen Ii [] (aen Ih Ck .ret)),[(.cell true 3 4)]⟩
attribute [push_cast] Ii Ih
theorem OC:aes 38=aet Hq:=aew
def yB:LSO:=[AD 2]
def yA:LSO:=[Aa 3 0,BC 4 38 4 3,Ag 3 2 4]
def vi:aI:=⟨5,(aen yB [] (aen yA Cq .ret)),[(.cell true 3 2)]⟩
attribute [push_cast] yB yA
theorem Kn:aes 40=aet vi:=aew
def dK:LSO:=[Ao 4]
def dJ:LSO:=[Ao 5]
def dI:LSO:=[Aa 8 0,Ah 9 8,Ab 10 0]
def dH:LSO:=[Au 11 10 9]
def dG:LSO:=[Aw 12 2 8 10,A0 13 2 12,BD 7,Ag 2 7 13]
def dF:LSO:=[Aa 14 5,Aa 15 1,A0 16 2 7,BE 17 15 16,Bm 18 17,Br 19 14 18,Aa 5 19]
def dE:LSO:=[Aj 20 10 1,Aa 10 20]
def dD:LSO:=[Aa 21 5,Aa 4 21]
def bX:aI:=⟨22,(aen dK [] (aen dJ [] (.seq (aen dI [] (aeq 0 (aen dH [] (.seq (aer 11 0) (.seq (.block 1 (aen dG BV (.sreg dF BY))) (.sreg dE BU)))))) (aen dD BU .ret)))),[(.tmp 4)]⟩
attribute [push_cast] dK dJ dI dH dG dF dE dD
theorem jJ:aes 41=aet bX:=aew
def eK:LSO:=[Ao 4]
def eJ:LSO:=[Ao 5]
def eI:LSO:=[Aa 8 0,Ah 9 8,Ab 10 0]
def eH:LSO:=[Au 11 10 9]
def eG:LSO:=[Aw 12 1 8 10,Ac 13 1 12,Aa 7 13]
def eF:LSO:=[Aa 14 5,Aa 15 1,Aa 16 7,BE 17 15 16,Bm 18 17,Br 19 14 18,Aa 5 19]
def eE:LSO:=[Aj 20 10 1,Aa 10 20]
def eD:LSO:=[Aa 21 5,Aa 4 21]
def cz:aI:=⟨22,(aen eK [] (aen eJ [] (.seq (aen eI [] (aeq 0 (aen eH [] (.seq (aer 11 0) (.seq (.block 1 (aen eG BV (.sreg eF BY))) (.sreg eE BU)))))) (aen eD BU .ret)))),[(.tmp 4)]⟩
attribute [push_cast] eK eJ eI eH eG eF eE eD
theorem kT:aes 44=aet cz:=aew
def qW:LSO:=[A3 1 0,AD 2]
def qV:List (aj×Kd):=
 [Ap 3 0 1,Aq 4 1 3 0 0,AN 5 40 4 0 0,Ap 6 1 1,Aq 7 1 6 0 0]
def o3:List aj :=
 [⟨(some 8),(.call 44 [(tm 7),(.av (.func 40 []))]),none⟩,⟨(some 9),(.call 43 [(iv 49),(tm 8)]),none⟩,
 ⟨(some 10),(.bslice false 3 2 [(.int .i64 0),(.str []),(.sl [] 0 (some 0)),(.int .i64 0),(.str []),(.sl [] 0 (some 0))] [(0,(3,(tm 5))),(3,(3,(tm 9)))]),none⟩,
 ⟨(some 11),(.call 43 [(iv 48),(tm 10)]),none⟩,⟨none,(.store 3 (tm 2) (tm 11)),none⟩]
def lV:aI:=⟨12,(aen qW [] (.seq (.dregM qV o3 C6) .ret)),[(.cell true 3 2)]⟩
attribute [push_cast] qW qV o3
theorem E5:aes 42=aet lV:=aew
def wm:LSO:=[A3 1 0,Ar 2,Ab 3 0]
def wl:LSO:=[Ad 11 0 1,Ac 12 1 11,AF 13 12 1,Aa 14 13,.grp none 14 false
 [A9 15 14 0 1,A8 16 14 1 15,AI 17 14 16 4]
 18 (tm 17)]
def wj:LSO:=[Ar 2,Ab 3 24]
def wi:LSO:=[Ad 19 0 1,Ac 20 1 19,Af 21 39 20,BC 22 38 2 21,Bm 23 22,Aa 4 23]
def wh:LSO:=[Ad 24 1 1,Ac 25 1 24,Bg 26 25,Aa 5 26]
def wg:LSO:=[Ad 27 0 1,Ac 28 1 27,Az 29 28 4]
def wf:LSO:=[Aa 30 5,Ad 31 2 1,Ac 32 1 31,Bg 33 32,Bu 34 30 33,Aa 5 34]
def wc:LSO:=[Aa 35 5,Ah 36 35,Ab 37 0]
def wb:LSO:=[Au 38 37 36]
def wa:LSO:=[Aw 39 1 35 37,Ac 40 1 39,Aa 7 40]
def tv:LSO:=[Aa 42 7,Af 43 35 42,Aa 41 43,Al 44 41,Am 45 41,Aa 8 44,Aa 9 45]
def tu:LSO:=[Aa 46 9,Ax 47 46 0]
def tt:LSO:=[Aa 48 9,Ar 2,Aa 3 48]
def tq:LSO:=[Aa 49 4,Aa 50 8,Af 51 40 50,Bm 52 51,Br 53 49 52,Aa 4 53]
def tp:LSO:=[Aj 54 37 1,Aa 37 54]
def tj:LSO:=[Ad 55 0 1,Ac 56 1 55,Ax 57 56 2]
def ti:LSO:=[Ad 58 3 1,Ac 59 1 58,o1 60 (.call 41 [(tm 59),(.av (.func 42 []))]),Aa 10 60]
def th:LSO:=[Aa 61 4,Aa 62 10,BC 63 43 48 62,Bm 64 63,Br 65 61 64,Aa 4 65]
def tf:LSO:=[Aa 66 4,BC 67 43 48 66,Af 68 45 67,Al 69 68,Am 70 68,Aa 2 69,Aa 3 70]
def iw:aI:=⟨71,(aen wm [] (.seq (aen wl BX (aep 18 (.sreg wj []))) (aen wi BZ (aen wh BW (.seq (aen wg BV (aeo 29 (.sreg wf BZ) .skip)) (.seq (aen wc [] (aeq 0 (aen wb [] (.seq (aer 38 0) (.seq (.block 1 (aen wa BV (aen tv Cd (.seq (aen tu BU (aep 47 (.sreg tt Ca))) (.sreg tq BZ))))) (.sreg tp BU)))))) (.seq (aen tj BV (aeo 57 (aen ti BW (.sreg th BZ)) .skip)) (aen tf Cd .ret)))))))),[(.tmp 2),(.tmp 3)]⟩
attribute [push_cast] wm wl wj wi wh wg wf wc wb wa tv tu tt tq tp tj ti th tf
theorem uY:aes 14=aet iw:=aew
attribute [push_cast] Ey nf m9 br iu Kl lU Km Hp Hq vi bX cz lV
variable {L:List Blk}{K:abx}
set_option maxHeartbeats 8000000
set_option maxRecDepth 100000
theorem Qv:∀n,cX [AV.int IntKind.u8 0] n=List.replicate n (AV.int .u8 0)
 |0=>rfl
 |n+1=>by rw[cX,Qv n,List.replicate_succ];rfl
theorem VA(c:UInt8)(s:List UInt8):u8s (c::s)=.int .u8 c.toNat::u8s s:=rfl
theorem MC(s:List UInt8):(u8s s).all Oz=true:=by rw[abL];intro a b;simp only[u8s,abB]at b;obtain⟨c,_,rfl⟩:=b;rfl
theorem RN(s:List UInt8):(u8s s).map LN=s:=by simp only[u8s,abW];refine(acB λc _=>?_).trans (List.map_id _);simp[LN]
theorem Me(s:List UInt8):(u8s s).length=s.length:=by simp[u8s]
def LQ(n k i:Nat):List AV:=List.replicate (k-i) (AV.int .u8 0)++u8s (em n i)
theorem Qy{i:Nat}(h:i<=k):(LQ n k i).length=k:=by rw[LQ,abP,adi,Me,fe];omega
theorem RV(A:List AV)(x v:AV)(s:List AV):bO (A++x::s) A.length [v]=A++v::s:=by simp[bO]
theorem Uz{i:Nat}(h:i<k):bO (LQ n k i) (k-1-i) [.int .u8 ((n/256^i%256:Nat):Int)]=LQ n k (i+1):=by obtain⟨j,rfl⟩:∃j,k=i+1+j:=⟨k-i-1,aeu⟩;have a:i+1+j-i=j+1:=aeu;have c:i+1+j-1-i=j:=aeu;have b:i+1+j-(i+1)=j:=aeu;rw[LQ,LQ,a,c,b,O2,VA,HB,List.replicate_succ',abK];have:=RV (List.replicate j (AV.int .u8 0)) (.int .u8 0) (.int .u8 ((n/256^i%256:Nat):Int)) (u8s (em n i));rw[adi]at this;exact this
theorem lP(F:1<=k)(H:k<=8)(v:n<18446744073709551616)(h:K (.str (em n k)) L):abw 67 [.int .u64 (n:Int),.int .i64 (k:Int)] L K:=by
 replace h:=hid h;have g1:¬(k:Int)<1:=aeu;have y:¬(8:Int)<(k:Int):=aeu;have J:cX [AV.int IntKind.u8 0] k=LQ n k 0:=by simp[Qv,LQ,em,u8s]
 refine abv N5 ?_;refine ar (λm T' L'=>∃(i x:Nat) (C:List AV),m=k-i/\i<=k/\Hid (x=n/256^i)/\Hid (C=LQ n k i)/\C.length=k/\T'=[(17,.int .i64 (i:Int)),(16,.int .i64 (k:Int)),(5,.lsl L.length 0 k (some k) 1),(0,.int .u64 (x:Int)),(1,.int .i64 (k:Int))]/\L'=L++[.cells C]) aey ⟨0,n,_,rfl,abJ _,hid aev,hid rfl,Qy (abJ _),rfl,rfl⟩ ?_;rintro _ _ _ ⟨i,x,C,rfl,G,j,p,g,rfl,rfl⟩;by_cases c:i<k;have g3:(i:Int)<(k:Int):=aeu;have E:=abu i aeu;have D:IntKind.i64.wrap ((k:Int)-1)=(k:Int)-1:=af aeu aeu;have w:IntKind.i64.wrap ((k:Int)-1-(i:Int))=(k:Int)-1-(i:Int):=af aeu aeu;have g4:(0:Int)<=(k:Int)-1-(i:Int):=aeu;have u:(k:Int)-1-(i:Int)<(k:Int):=aeu;have t:((k:Int)-1-(i:Int)).toNat=k-1-i:=aeu;have r:x<=n:=by rw[j.o];exact Nat.div_le_self _ _
 have d:=Uz (n:=n) c;rw[<- p.o]at d;obtain⟨z,f⟩:∃z:Int,((n/256^i%256:Nat):Int)=z:=⟨_,rfl⟩;have I:IntKind.u8.wrap (x:Int)=z:=by rw[<- f,<- j.o];simp only[IntKind.wrap,IntKind.signed,IntKind.bits];simp
 have A:((x:Int)).fdiv (2^min 8 IntKind.u64.bits)=((x/256:Nat):Int):=by rw[show(2:Int)^min 8 IntKind.u64.bits=256 by decide,aeg _ (by decide)];rfl
 rw[f]at d;have s:C.take (k-1-i)++AV.int .u8 z::C.drop (k-1-i+1)=LQ n k (i+1):=by rw[<- d];simp[bO]
 clear d f;have q:(LQ n k (i+1)).length=k:=Qy c;have e:x/256=n/256^(i+1):=by rw[j.o,aef,Nat.pow_succ]
 have B:k-1-i<C.length:=aeu;replace e:=hid e;refine wk ?_;exact aez aeu aex ⟨i+1,x/256,_,rfl,c,hid e.o,hid rfl,q,rfl,rfl⟩;have l:i=k:=aeu;subst l;have g3:¬(i:Int)<(i:Int):=aeu;have a:=p.o;rw[LQ,adb]at a;have b:C=u8s (em n i):=by simpa using a
 have t:C.all Oz=true:=by rw[b];exact MC _
 have d:C.map LN=em n i:=by rw[b];exact RN _
 have q:C.take i=C:=by rw[<- g,abX]
 clear a b;refine wk ?_;exact ae rfl h.o
theorem TN{a z:Int}(g:0<=a)(d:z<=9223372036854775807)(f:(s.length:Int)<=9223372036854775807)(b:¬(1<=z/\z<=8/\a+z<=s.length))(h:K (.tup [.int .u64 0,.bool false]) L):abw 83 [.str s,.int .i64 a,.int .i64 z] L K:=by replace h:=hid h;refine aa Ez (by simp[nf]) ?_;simp only[nf,am];by_cases e:z<1;clear b;refine wk ?_;exact ag h.o;by_cases i:8<z;clear b;refine wk ?_;exact ag h.o;have z3:¬a<0:=aeu;have c:IntKind.i64.wrap ((s.length:Int)-z)=(s.length:Int)-z:=af aeu aeu;have z4:(s.length:Int)-z<a:=aeu;clear b;refine wk ?_;exact ag h.o
theorem Ek{a z:Nat}(M:s.length<=1100000)(J:1<=z)(O:z<=8)(C:a+z<=s.length)(h:K (.tup [.int .u64 (bV ((s.drop a).take z):Nat),.bool true]) L):abw 83 [.str s,.int .i64 (a:Int),.int .i64 (z:Int)] L K:=by
 replace h:=hid h;have w:¬(z:Int)<1:=aeu;have A:¬(8:Int)<(z:Int):=aeu;have z3:¬(a:Int)<0:=aeu;have H:IntKind.i64.wrap ((s.length:Int)-(z:Int))=(s.length:Int)-(z:Int):=af aeu aeu;have z4:¬(s.length:Int)-(z:Int)<(a:Int):=aeu;have G:IntKind.i64.wrap ((a:Int)+(z:Int))=(a:Int)+(z:Int):=af aeu aeu;have I:((a:Int)+(z:Int)).toNat=a+z:=aeu;obtain⟨t,e⟩:=abr ((s.drop a).take z);have k:t.length=z:=by rw[<- e];simp;omega
 rw[e]at h;have B:(s.drop a).take (a+z-a)=t:=by rw[<- e];congr 1;omega
 clear e;refine abv Ez ?_;refine ar (λm T' L'=>∃(i x:Nat),m=z-i/\i<=z/\Hid (x=bV (t.take i))/\T'=[(37,.int .i64 (i:Int)),(36,.int .i64 (z:Int)),(35,.sl (u8s t) z none),(8,.int .u64 (x:Int))]/\L=L') (CutL (b:=abA _)) ⟨0,0,rfl,abJ _,hid rfl,rfl,rfl⟩ ?_;rintro _ _ _ ⟨i,x,rfl,N,n,rfl,rfl⟩;by_cases l:i<z;have g1:(i:Int)<(z:Int):=aeu;have D:=abu i aeu;obtain⟨c,g⟩:=abr (t.getD i 0);have d:i<t.length:=aeu;have y:(u8s t).getD i .undef=.int .u8 (c.toNat:Int):=by rw[<- g];simp[u8s,d]
 have u:t.take (i+1)=t.take i++[c]:=by rw[ab6 d,<- g];simp[d]
 have p:bV (t.take (i+1))=256*x+c.toNat:=by rw[u,Nw,n.o]
 have j:x<2^56:=by have r:=Mt (t.take i);rw[<- n.o]at r;have v:(t.take i).length<=7:=(by simp;omega);exact acH r (aca (Nat.pow_le_pow_right aeu v) (by decide))
 have P:IntKind.u64.wrap (BitVec.ofInt IntKind.u64.bits (IntKind.u64.wrap ((x:Int)*2^min 8 IntKind.u64.bits)) |||BitVec.ofInt IntKind.u64.bits (c.toNat:Int)).toNat=((256*x+c.toNat:Nat):Int):=Yj j;have F:IntKind.u64.wrap (c.toNat:Int)=(c.toNat:Int):=G3 aeu (by have:=c.toNat_lt;omega);have E:i<(u8s t).length:=by rw[Me];exact d
 clear u g;replace p:=hid p;refine wk ?_;exact aez aeu (CutL (b:=abA _)) ⟨i+1,256*x+c.toNat,rfl,l,hid p.o.symm,rfl,rfl⟩;have q:i=z:=aeu;subst q;have g1:¬(i:Int)<(i:Int):=aeu;have f:=h.o;rw[show bV t=x by rw[n.o,<- k,abX]]at f;replace f:=hid f;refine wk ?_;exact ag f.o
theorem Mj(a:n<18446744073709551616)(h:K (.str [b8 n]) L):abw 67 [.int .u64 (n:Int),.int .i64 1] L K :=
 lP (k:=1) aeu aeu a (by simpa[em]using h)
theorem QV(A:n<=1048576)(h:K (.str (xS n)) L):abw 107 [.int .i64 (n:Int)] L K:=by
 unfold xS at h;have F:IntKind.u64.wrap (n:Int)=(n:Int):=G3 aeu aeu;refine aa LZ (by simp[yb]) ?_;simp only[yb,am];by_cases g:n<128;rw[if_pos g]at h;replace h:=hid h;have g1:(n:Int)<128:=aeu;clear g;have kk1:=@aeB _ _ _ _ (Mj (n:=n) aeu);refine wk ?_;exact ag h.o;rw[if_neg g]at h;have g1:¬(n:Int)<128:=aeu;obtain⟨k,c⟩:∃k:Nat,(if n<256 then 1 else if n<65536 then 2 else 3)=k:=⟨_,rfl⟩;have w:K (.str (b8 (128+k)::em n k)) L:=by split at h;rename_i e;rw[if_pos e]at c;subst c;simpa[em,show b8 129=129 from rfl]using h;rename_i e;rw[if_neg e]at c;split at h;rename_i p;rw[if_pos p]at c;subst c;simpa[em,show b8 130=130 from rfl]using h;rename_i p;rw[if_neg p]at c;subst c;simpa[em,aef,show b8 131=131 from rfl]using h
 have s:1<=k/\k<=3/\n/2^(8*k)=0/\∀j,1<=j->j<k->0<n/2^(8*j):=by rw[<- c];split;refine⟨aeu,aeu,by simp;omega,λj a b=>aeu⟩;split;refine⟨aeu,aeu,by simp;omega,λj a b=>?_⟩;have:j=1:=aeu;subst this;simp;omega;refine⟨aeu,aeu,by simp;omega,λj a b=>?_⟩;have:j=1\/j=2:=aeu;rcases this with rfl|rfl<;>simp<;>omega
 obtain⟨x,G,u,r⟩:=s;replace h:=hid w;clear c w g;replace u:=hid u;replace r:=hid r;refine wk ?_;refine ar (λm T' L'=>∃(i:Nat),m=k-i/\1<=i/\i<=k/\T'=[(3,.int .i64 (i:Int)),(0,.int .i64 (n:Int))]/\L=L') (CutL (b:=abA _)) ⟨1,rfl,abA _,x,rfl,rfl⟩ ?_;rintro _ _ _ ⟨i,rfl,l,H,rfl,rfl⟩;have E:=abu i aeu;have B:IntKind.i64.wrap (8*(i:Int))=8*(i:Int):=af aeu aeu;have I:IntKind.i64.wrap (128+(i:Int))=128+(i:Int):=af aeu aeu;have D:IntKind.u64.wrap (128+(i:Int))=((128+i:Nat):Int):=by rw[G3 aeu aeu];simp
 have z:(n:Int).fdiv (2^min (8*(i:Int)).toNat IntKind.i64.bits)=((n/2^(8*i):Nat):Int):=by
  rw[show min (8*(i:Int)).toNat IntKind.i64.bits=8*i by simp[IntKind.bits];omega];rw[aeg _ (Int.le_of_lt (Int.pow_pos (by decide)))]
  norm_cast
 have C:(0:Int)<=8*(i:Int):=aeu;obtain⟨q,f⟩:=abr (n/2^(8*i));rw[f]at z;by_cases d:i<k;have v:0<q:=by rw[<- f];exact r.o i l d
 have g3:(0:Int)<(q:Int):=aeu;clear f;refine wk ?_;exact aez aeu (CutL (b:=abA _)) ⟨i+1,rfl,aeu,d,rfl,rfl⟩;have t:i=k:=aeu;subst t;have v:q=0:=by rw[<- f];exact u.o
 subst v;have g3:¬(0:Int)<((0:Nat):Int):=by decide
 have y:=fe n i;clear f d;have kk1:=@aeB _ _ _ _ (Mj (n:=128+i) aeu);have kk2:=@aeB _ _ _ _ (lP (n:=n) (k:=i) aeu aeu aeu);refine wk ?_;exact ag h.o
def abl:Except Int (Nat×Nat)->AV
 |.error e=>.tup [.int .i64 0,.int .i64 0,.int .i64 e]
 |.ok (n,a)=>.tup [.int .i64 (n:Int),.int .i64 (a:Int),.int .i64 0]
theorem Rr(A:s.length<=1100000)(h:K (abl (Kw s)) L):abw 181 [.str s] L K:=by
 unfold Kw at h;refine aa L5 (by simp[yc]) ?_;simp only[yc,am];by_cases d:s.length<2;rw[if_pos d]at h;replace h:=hid h;have g1:(s.length:Int)<2:=aeu;clear d;refine wk ?_;exact ag h.o;rw[if_neg d]at h;have g1:¬(s.length:Int)<2:=aeu;have u:(1:Int)<(s.length:Int):=aeu;have g3:1<s.length:=aeu;obtain⟨c,r⟩:=abr (s.getD 1 0);obtain⟨k,m⟩:=abr (c.toNat);simp only[r,m]at h;have j:k<256:=by rw[<- m];exact c.toNat_lt
 have y:IntKind.i64.wrap (k:Int)=(k:Int):=af aeu aeu;by_cases e:k<128;rw[if_pos e]at h;replace h:=hid h;have g4:(k:Int)<128:=aeu;clear e d;refine wk ?_;exact ag h.o;rw[if_neg e]at h;have g4:¬(k:Int)<128:=aeu;by_cases h4:k=128\/132<k;rw[if_pos h4]at h;replace h:=hid h;obtain⟨b,p⟩:=abr (decide ((k:Int)=128\/(132:Int)<(k:Int)));have l:b=true:=by rw[<- p,decide_eq_true_iff];omega
 subst l;clear h4 e d;refine wk ?_;exact ag h.o;rw[if_neg h4]at h;have v:¬(k:Int)=128:=aeu;have w:¬(132:Int)<(k:Int):=aeu;have x:IntKind.i64.wrap ((k:Int)-128)=((k-128:Nat):Int):=by rw[af aeu aeu];omega
 have C:IntKind.i64.wrap ((k:Int)-126)=((k-126:Nat):Int):=by rw[af aeu aeu];omega
 by_cases f:s.length<k-126;rw[if_pos f]at h;replace h:=hid h;have kk1:Hid (Ctr Tryz.prog 83 [.str s,.int .i64 2,.int .i64 ((k-128:Nat):Int)] (.tup [.int .u64 0,.bool false])):=@hid _ (by intro L K q;exact TN aeu aeu aeu aeu q);clear f h4 e d;refine wk ?_;exact ag h.o;rw[if_neg f]at h;obtain⟨n,g⟩:=abr (bV ((s.drop 2).take (k-128)));have kk1:Hid (Ctr Tryz.prog 83 [.str s,.int .i64 2,.int .i64 ((k-128:Nat):Int)] (.tup [.int .u64 (n:Int),.bool true])):=@hid _ (by intro L K q;exact Ek (a:=2) (z:=k-128) aeu aeu aeu aeu (by rw[g];exact q));rw[g]at h;by_cases i:1048576<n;rw[if_pos i]at h;replace h:=hid h;have t:(1048576:Int)<(n:Int):=aeu;clear i f h4 e d g;refine wk ?_;exact ag h.o;rw[if_neg i]at h;replace h:=hid h;have t:¬(1048576:Int)<(n:Int):=aeu;have B:IntKind.i64.wrap (n:Int)=(n:Int):=af aeu aeu;clear i f h4 e d g;refine wk ?_;exact ag h.o
theorem Sm{n:Int}(w : -9223372036854775808<=n)(z:n<9223372036854775808)(h:K (.str (Sl n)) L):abw 39 [.int .i64 n] L K:=by
 obtain⟨k,s⟩:=abr (UR n 7 1);rw[Sl,s]at h;replace h:=hid h;have w0:IntKind.u64.wrap n=((n%18446744073709551616).toNat:Int):=by simp only[IntKind.wrap,IntKind.signed,IntKind.bits];simp;omega
 have f:(n%18446744073709551616).toNat<18446744073709551616:=aeu;obtain⟨m,e⟩:=abr ((n%18446744073709551616).toNat);rw[e]at w0 f h;clear e;refine abv P2 ?_;refine ar (λm T' L'=>∃(i:Nat),m=8-i/\1<=i/\i<=8/\Hid (UR n (8-i) i=k)/\T'=[(3,.int .i64 (i:Int)),(0,.int .i64 n)]/\L=L') (CutL (b:=abA _)) ⟨1,rfl,abA _,aeu,hid s,rfl,rfl⟩ ?_;rintro _ _ _ ⟨i,rfl,d,B,g,rfl,rfl⟩;have E:=abu i aeu;have D:IntKind.i64.wrap (8*(i:Int))=8*(i:Int):=af aeu aeu;have C:IntKind.i64.wrap (8*(i:Int)-1)=8*(i:Int)-1:=af aeu aeu;have x:min (8*(i:Int)-1).toNat IntKind.i64.bits=8*i-1:=by simp[IntKind.bits];omega
 have y:(0:Int)<=8*(i:Int)-1:=aeu;obtain⟨q,r⟩:=abr (n.fdiv (2^(8*i-1)));by_cases c:i<8/\q≠0/\q≠-1;obtain⟨A,u,v⟩:=c;have a:=g.o;rw[show 8-i=(7-i)+1 by omega,UR,r,if_neg (by simp[u,v])]at a;have g3:(i:Int)<8:=aeu;replace a:=hid a;clear g;refine wk ?_;exact aez aeu (CutL (b:=abA _)) ⟨i+1,rfl,aeu,aeu,hid (by rw[show 8-(i+1)=7-i by omega];exact a.o),rfl,rfl⟩;have j:i=k:=by have a:=g.o;by_cases t:i=8;subst t;exact a;rw[show 8-i=(7-i)+1 by omega,UR,r,if_pos aeu]at a;exact a
 subst j;clear g;by_cases t:(i:Int)<8;by_cases l:q=0;clear c;subst l;have kk1:=@aeB _ _ _ _ (lP (n:=m) (k:=i) d aeu f);refine wk ?_;exact ag h.o;have p:q=-1:=aeu;clear c;subst p;have kk1:=@aeB _ _ _ _ (lP (n:=m) (k:=i) d aeu f);refine wk ?_;exact ag h.o;clear c;have kk1:=@aeB _ _ _ _ (lP (n:=m) (k:=i) d aeu f);refine wk ?_;exact ag h.o
def abh(o:Option Int):AV:=match o with
 |some k=>.tup [.int .i64 k,.bool true]
 |none=>.tup [.int .i64 0,.bool false]
theorem O7(A:s.length<=1100000)(h:K (abh (R8 s)) L):abw 117 [.str s] L K:=by
 unfold R8 at h;refine aa L6 (by simp[yd]) ?_;simp only[yd,am];by_cases g:1<=s.length/\s.length<=8;rotate_left;rw[if_neg (λe=>g ⟨e.1,e.2.1⟩)]at h;replace h:=hid h;have kk1:Hid (Ctr Tryz.prog 83 [.str s,.int .i64 0,.int .i64 (s.length:Int)] (.tup [.int .u64 0,.bool false])):=@hid _ (by intro L K q;exact TN aeu aeu aeu aeu q);clear g;refine wk ?_;exact ag h.o;obtain⟨l,f⟩:=abr (s.length);obtain⟨u,j⟩:=abr (bV s);have b:u<256^l:=by rw[<- j,<- f];exact Mt s
 have r:=Uo (u:=u) aeu (show l<=8 by omega) b;have kk1:Hid (Ctr Tryz.prog 83 [.str s,.int .i64 0,.int .i64 (l:Int)] (.tup [.int .u64 (u:Int),.bool true])):=@hid _ (by intro L K q;rw[<- f];refine Ek (a:=0) (z:=s.length) aeu aeu aeu aeu ?_;rw[adP,abX,j];exact q)
 obtain⟨n,k⟩:=abr (Ya s);have d:(if u<2^(8*l-1)then(u:Int)else(u:Int)-2^(8*l))=n:=by rw[<- k,Ya,j,f]
 rw[d]at r;have v:IntKind.i64.wrap (8*(l:Int))=8*(l:Int):=af aeu aeu;have t:IntKind.i64.wrap (64-8*(l:Int))=64-8*(l:Int):=af aeu aeu;have w:min (64-8*(l:Int)).toNat IntKind.u64.bits=64-8*l:=by simp[IntKind.bits];omega
 have y:min (64-8*(l:Int)).toNat IntKind.i64.bits=64-8*l:=by simp[IntKind.bits];omega
 have g1:(0:Int)<=64-8*(l:Int):=aeu;have c : -9223372036854775808<=n/\n<9223372036854775808:=by have p:l=1\/l=2\/l=3\/l=4\/l=5\/l=6\/l=7\/l=8:=aeu;rw[<- d];rcases p with rfl|rfl|rfl|rfl|rfl|rfl|rfl|rfl<;>simp at b⊢<;>split<;>omega
 rw[k]at h;by_cases i:Sl n=s;rw[if_pos ⟨g.1,g.2,i⟩]at h;replace h:=hid h;have kk2:Hid (Ctr Tryz.prog 39 [.int .i64 n] (.str s)):=@hid _ (by intro L K q;exact Sm c.1 c.2 (by rw[i];exact q));clear i k d b j g;refine wk ?_;exact ag h.o;rw[if_neg (λe=>i e.2.2)]at h;replace h:=hid h;obtain⟨x,m⟩:=abr (Sl n);have kk2:Hid (Ctr Tryz.prog 39 [.int .i64 n] (.str x)):=@hid _ (by intro L K q;exact Sm c.1 c.2 (by rw[m];exact q));rw[m]at i;clear m k d b j g;refine wk ?_;exact ag h.o
theorem Wu(h:K (.agg (ndA (.mk t d []))) L):abw 38 [.int .i64 t,.str d] L K:=by rw[bP]at h;replace h:=hid h;refine abv OC ?_;exact aB (ae rfl h.o)
theorem RP(h:K (.agg (ndA (bA d))) L):abw 40 [.str d] L K:=by rw[bA,bP]at h;replace h:=hid h;have kk1:Hid (Ctr Tryz.prog 38 [.int .i64 4,.str d] (.agg [.int .i64 4,.str d,.sl [] 0 none])):=@hid _ (by intro L K q;exact Wu (by rw[bP];exact q));refine abv Kn ?_;exact aB (ae rfl h.o)
theorem M9{l:List Nd}(v:l.length<=1100000)(H:∀n∈l,∀{cap:Option Nat}{L:List Blk}{K:abx},K (.sl (aC n.kids) n.kids.length none) L->abw 78 [.sl (aC n.kids) n.kids.length cap] L K){L:List Blk}{K:abx}(h:K (.sl (aC l) l.length none) L):abw 78 [.sl (aC l) l.length cap] L K:=by
 replace h:=hid h;replace H:=@hid _ @H;refine abv OB ?_;refine cB (l:=[]) (n:=0) 3 3 rfl (acg 3).symm ?_;refine ar (λm T' L'=>∃(k:Nat) (C:List AV) (X:List Blk),m=l.length-k/\k<=l.length/\C=aC (l.take k)/\T'=[(8,.int .i64 (k:Int)),(7,.int .i64 l.length),(6,.sl (aC l) l.length cap),(3,.gsl C k L.length 3)]/\L'=L++(.spare k 3::X)) aey ⟨0,[],[],rfl,abJ _,rfl,rfl,rfl⟩ ?_;rintro _ _ _ ⟨k,C,X,rfl,u,f,rfl,rfl⟩;by_cases b:k<l.length;have g1:(k:Int)<(l.length:Int):=aeu;have s:=abu k aeu;have p:=xN b;have r:k*3+3<=(aC l).length:=by rw[io];omega
 obtain⟨⟨t,d,c⟩,g⟩:∃a,l.getD k bZ=a:=⟨_,rfl⟩;have e:aC (l.take (k+1))=aC (l.take k)++[.int .i64 t,.str d,.sl (aC c) c.length none]:=by rw[ab6 b,rQ,show l[k]=.mk t d c by rw[<- g];simp[b],aC,bP];rfl
 have kk1:Hid (Ctr Tryz.prog 78 [.sl (aC c) c.length none] (.sl (aC c) c.length none)):=@hid _ (by intro L K q;exact H.o (.mk t d c) (by rw[<- g];simp[b]) q)
 rw[g,bP]at p;have j:=cS c;replace e:=hid e;replace f:=hid f;clear g;refine wk ?_;exact aez aeu aex ⟨k+1,_,_,rfl,b,by rw[e.o,f.o],rfl,rfl⟩;have i:k=l.length:=aeu;subst i;have g1:¬(l.length:Int)<(l.length:Int):=aeu;rw[abX]at f;subst f;have j:=cS l;refine wk ?_;refine aB ?_;simp only[AV.frz,j];exact ae (by simp only[AV.refs,fW]) h.o
theorem QI(h:K (.sl [] 0 none) L):abw 78 [.sl [] 0 cap] L K:=M9 (l:=[]) aev (λn a=>by cases a) h
theorem Tz:∀(h:Nat){l:List Nd}{cap:Option Nat}(c:l.length<=1100000) (a:∀n∈l,okN h n){L:List Blk}{K:abx}(b:K (.sl (aC l) l.length none) L),abw 78 [.sl (aC l) l.length cap] L K
 |0,l,cap,c,a,L,K,b=>M9 c (λn e=>by intro cap L K q;obtain⟨t,d,g⟩:=n;obtain⟨_,rfl,_⟩:=a _ e;exact QI q) b
 |h+1,l,cap,c,a,L,K,b=>M9 c (λn e=>by intro cap L K q;obtain⟨t,d,g⟩:=n;rcases a _ e with⟨_,rfl,_⟩|⟨_,_,i,f⟩;exact QI q;exact Tz h (l:=g) aeu f q) b
theorem Tl{h:Nat}{t:Int}{l:List Nd}{cap:Option Nat}(c:l.length<=1100000)(b:∀n∈l,okN h n){L:List Blk}{K:abx}(a:K (.agg (ndA (.mk t [] l))) L):abw 43 [.int .i64 t,.sl (aC l) l.length cap] L K:=by rw[bP]at a;replace a:=hid a;have d:=cS l;refine aa P0 (by simp[Kk]) ?_;simp only[Kk,am];have kk1:=@aeB _ _ _ _ (Tz h (cap:=cap) c b);refine wk ?_;refine aB ?_;simp only[AV.frz,AV.frzL,d];exact ae (by simp only[AV.refs,AV.refsL,fW];rfl) a.o
theorem Mp(n:Nat):(xS n).length<=4:=by
 unfold xS
 repeat' split
 all_goals simp
theorem Wb:∀(h:Nat) (n:Nd),(fc h n).2=0->(fc h n).1.length<=1048581
 | 0,.mk t d ks,h=>by
   rw[fc]at h⊢;split at h
   .cases h
   rename_i e;have:=Mp d.length;rw[if_neg e];simp;omega
 | k+1,.mk t d ks,h=>by
   rw[fc]at h⊢;split at h
   .rename_i e;exact absurd h e
   rename_i e;rw[if_neg e];split at h
   .cases h
   rename_i a;have:=Mp (rV (fc k) d ks).1.length;rw[if_neg a];simp;omega
theorem O1{b:Int}(h:Nat)(c:t=2\/t=4)(hd:(d.length:Int)<=140737488351232)(k:1<=b)(i:b<=64)(a:K (.tup [.str (fc h (.mk t d [])).1,.int .i64 (fc h (.mk t d [])).2]) L):
  abw 79 [.agg [.int .i64 t,.str d,.sl [] 0 cap],.int .i64 b] L K:=by
 have e:∀h,fc h (.mk t d [])=if 1048576<d.length then([],5)else(b8 t.toNat::(xS d.length++d),0):=λh=>by
  cases h with
  |zero=>rfl
  |succ h=>rw[fc,if_neg (by simp[rV])];rfl
 rw[e]at a;have g1:¬(64:Int)<b:=aeu;have l:¬t<0:=aeu;have g3:¬(255:Int)<t:=aeu;have g4:IntKind.i64.wrap (BitVec.ofInt IntKind.i64.bits t &&& BitVec.ofInt IntKind.i64.bits 31).toNat=t:=by rcases c with rfl|rfl<;>decide
 have q:¬t=31:=aeu;have r:IntKind.i64.wrap (BitVec.ofInt IntKind.i64.bits t &&& BitVec.ofInt IntKind.i64.bits 32).toNat=0:=by rcases c with rfl|rfl<;>decide
 have w0:IntKind.u64.wrap t=(t.toNat:Int):=by rcases c with rfl|rfl<;>decide
 have g:t.toNat<18446744073709551616:=aeu;have v:=MC d;have u:=RN d;have s:(u8s d).take d.length=u8s d:=by rw[<- Me d,abX]
 by_cases f:1048576<d.length;rw[if_pos f]at a;replace a:=hid a;have j:(1048576:Int)<(d.length:Int):=aeu;clear e f c;refine abv xZ ?_;refine ar (λm T' L'=>∃(X:List Blk),m=0/\T'=[(57,.int .i64 0),(56,.int .i64 0),(6,.gsl (u8s d) d.length (L.length+1) 1),(2,.ptr L.length 0)]/\L'=L++[.cells [.int .i64 t,.str d,.sl [] 0 cap],.spare d.length 1]) aey ⟨[],rfl,rfl,rfl⟩ ?_;rintro _ _ _ ⟨X,rfl,rfl,rfl⟩;refine wk ?_;exact ae rfl a.o;rw[if_neg f]at a;replace a:=hid a;have j:¬(1048576:Int)<(d.length:Int):=aeu;have p:=Mp d.length;clear e c;refine abv xZ ?_;refine ar (λm T' L'=>∃(X:List Blk),m=0/\T'=[(57,.int .i64 0),(56,.int .i64 0),(6,.gsl (u8s d) d.length (L.length+1) 1),(2,.ptr L.length 0)]/\L'=L++[.cells [.int .i64 t,.str d,.sl [] 0 cap],.spare d.length 1]) aey ⟨[],rfl,rfl,rfl⟩ ?_;rintro _ _ _ ⟨X,rfl,rfl,rfl⟩;have kk1:=@aeB _ _ _ _ (Mj g);have kk2:=@aeB _ _ _ _ (QV (n:=d.length) aeu);refine wk ?_;exact ae rfl a.o
theorem XW(s:List UInt8):AV.frzL (u8s s)=u8s s:=by rw[AV.frzL_eq,u8s,abW];rfl
theorem XV(s:List UInt8):(u8s s).all AV.one=true:=by rw[abL];intro a b;simp only[u8s,abB]at b;obtain⟨c,_,rfl⟩:=b;rfl
theorem XX(a b:List UInt8):u8s (a++b)=u8s a++u8s b:=by simp[u8s]
theorem Uy{c:List Nd}{p:Nd->List UInt8×Int}{f:Int}(A:t=48\/t=49)(V:c.length<=1100000)(B:∀n,(p n).2=0->(p n).1.length<=1048581)(W:1<=f)(P:f<=63)(H:∀n∈c,∀(L:List Blk) (K:AV->List Blk->Prop),K (.tup [.str (p n).1,.int .i64 (p n).2]) L->abw 79 [.agg (ndA n),.int .i64 (f+1)] L K){R:List UInt8×Int}(u:(if(rV p [] c).2≠0 then([],(rV p [] c).2)else if 1048576<(rV p [] c).1.length then([],5)else(b8 t.toNat::(xS (rV p [] c).1.length++(rV p [] c).1),0))=R){L:List Blk}{K:abx}(w:K (.tup [.str R.1,.int .i64 R.2]) L):
  abw 79 [.agg [.int .i64 t,.str [],.sl (aC c) c.length cap],.int .i64 f] L K:=by
 obtain⟨Q,I⟩:=abr (rV p [] c);rw[I]at u;replace w:=hid w;replace u:=hid u;replace H:=@hid _ @H;replace B:=hid B;have g1:¬(64:Int)<f:=aeu;have Z:¬t<0:=aeu;have g3:¬(255:Int)<t:=aeu;have g4:IntKind.i64.wrap (BitVec.ofInt IntKind.i64.bits t &&& BitVec.ofInt IntKind.i64.bits 31).toNat=t-32:=by rcases A with rfl|rfl<;>decide
 have g5:¬t-32=31:=aeu;have g6:IntKind.i64.wrap (BitVec.ofInt IntKind.i64.bits t &&& BitVec.ofInt IntKind.i64.bits 32).toNat=32:=by rcases A with rfl|rfl<;>decide
 have w0:IntKind.u64.wrap t=(t.toNat:Int):=by rcases A with rfl|rfl<;>decide
 have w1:IntKind.i64.wrap (f+1)=f+1:=af aeu aeu;have F:t.toNat<18446744073709551616:=aeu;have S:u8s []=[]:=rfl;clear A;refine abv xZ ?_;refine ar (λm T' L'=>∃(i z:Nat) (a:List UInt8) (C:List AV) (X:List Blk),m=c.length-i/\i<=c.length/\Hid (rV p a (c.drop i)=Q)/\z<=i*1048581/\Hid (C=u8s a/\z=a.length)/\T'=[(57,.int .i64 (i:Int)),(56,.int .i64 c.length),(55,.sl (aC c) c.length cap),(6,.gsl C z (L.length+1) 1),(2,.ptr L.length 0),(1,.int .i64 f)]/\L'=L++(.cells [.int .i64 t,.str [],.sl (aC c) c.length cap] :: .spare z 1::X)) aey ⟨0,0,[],[],[],rfl,abJ _,hid (by simpa using I),aev,hid ⟨rfl,rfl⟩,rfl,rfl⟩ ?_;rintro _ _ _ ⟨i,z,a,C,X,rfl,hi,x,U,j,rfl,rfl⟩;by_cases h:i<c.length;have T:(i:Int)<(c.length:Int):=aeu;have w2:=abu i aeu;have J:=xN h;have e4:i*3+3<=(aC c).length:=by rw[io];omega
 obtain⟨n,y⟩:=abr (c.getD i bZ);have r:n∈c:=by rw[<- y];simp[h]
 have l:c.drop i=n::c.drop (i+1):=by rw[acA h,<- y];simp[h]
 rw[y,dM]at J;have b:=x.o;rw[l,rV]at b;obtain⟨⟨s,e⟩,k⟩:∃q,p n=q:=⟨_,rfl⟩;have kk1:Hid (Ctr Tryz.prog 79 [.agg [.int .i64 n.tag,.str n.data,.sl (aC n.kids) n.kids.length none],.int .i64 (f+1)] (.tup [.str s,.int .i64 e])):=@hid _ (by intro L K q;have:=H.o n r L K;rw[dM,k]at this;exact this q)
 have v:e=0->s.length<=1048581:=λM=>by have:=B.o n;rw[k]at this;exact this M
 rw[k]at b;simp only at b;clear x l y r;by_cases D:e=0;subst D;rw[if_neg aev]at b;have v:=v rfl;have Y:=XW s;have f2:=XV s;have O:z+s.length<=(i+1)*1048581:=aeu;replace b:=hid b;refine wk ?_;exact aez aeu aex ⟨i+1,z+s.length,a++s,C++u8s s,_,rfl,h,b,O,hid ⟨by rw[j.o.1,XX],by rw[j.o.2,abP]⟩,rfl,rfl⟩;rw[if_pos D]at b;have d:=u.o;rw[<- b,if_pos D]at d;have g:=w.o;rw[<- d]at g;replace g:=hid g;clear b d;refine wk ?_;exact ae rfl g.o;have G:i=c.length:=aeu;subst G;have T:¬(c.length:Int)<(c.length:Int):=aeu;have b:=x.o;rw[adH,rV]at b;have d:=u.o;rw[<- b,if_neg aev]at d;simp only at d;obtain⟨rfl,rfl⟩:=j.o;have M:=MC a;have e1:=RN a;have J:(u8s a).take a.length=u8s a:=by rw[<- Me a,abX]
 have g:=w.o;clear x b j;by_cases E:1048576<a.length;rw[if_pos E]at d;rw[<- d]at g;replace g:=hid g;have N:(1048576:Int)<(a.length:Int):=aeu;clear E d;refine wk ?_;exact ae rfl g.o;rw[if_neg E]at d;rw[<- d]at g;replace g:=hid g;have N:¬(1048576:Int)<(a.length:Int):=aeu;have g9:=Mp a.length;clear d;have kk1:=@aeB _ _ _ _ (Mj F);have kk2:=@aeB _ _ _ _ (QV (n:=a.length) aeu);refine wk ?_;exact ae rfl g.o
theorem Zk:∀(h:Nat){n:Nd}{a:Int}(g:okN h n) (e:1<=a) (b:a+h<=64){L:List Blk}{K:abx}(c:K (.tup [.str (fc h n).1,.int .i64 (fc h n).2]) L),abw 79 [.agg (ndA n),.int .i64 a] L K
 |0,.mk t d ks,a,g,e,b,L,K,c=>by obtain⟨f,rfl,hd⟩:=g;rw[bP];exact O1 0 f hd e (by simpa using b) c
 | h+1,.mk t d ks,a,g,e,b,L,K,c=>by
   rw[bP];rcases g with⟨f,rfl,hd⟩|⟨f,rfl,j,i⟩
   .exact O1 (h+1) f hd e aeu c
   .exact Uy (p:=fc h) f j (Wb h) e aeu (λn k=>by intro L K q;exact Zk h (i n k) aeu aeu q) rfl (by rw[fc]at c;exact c)
theorem Zq{n:Nd}(c:okN 4 n){L:List Blk}{K:abx}(a:K (.tup [.str (fc 4 n).1,.int .i64 (fc 4 n).2]) L):abw 45 [.agg (ndA n)] L K:=by
 obtain⟨⟨s,e⟩,b⟩:∃q,fc 4 n=q:=⟨_,rfl⟩;rw[b]at a;replace a:=hid a;have kk1:Hid (Ctr Tryz.prog 79 [.agg [.int .i64 n.tag,.str n.data,.sl (aC n.kids) n.kids.length none],.int .i64 1] (.tup [.str s,.int .i64 e])):=@hid _ (by intro L K q;have:=@Zk 4 n 1 c aeu aeu L K;rw[dM,b]at this;exact this q)
 rw[dM];refine abv P1 ?_;exact ae rfl a.o
def Fa(a:Atr):Nd:=.mk 48 [] [bA a.1,.mk 49 [] (a.2.map bA)]
theorem EN(h:(s.length:Int)<=140737488351232):∀k:Nat,okN k (bA s)
 |0=>⟨.inr rfl,rfl,h⟩
 |_+1=>.inl ⟨.inr rfl,rfl,h⟩
theorem Yo{l:List (List UInt8)}(p:l.length<=1100000)(h:K (.sl (aC (l.map bA)) l.length none) L):abw 44 [.sl (l.map AV.str) l.length cap,.func 40 []] L K:=by
 replace h:=hid h;refine abv kT ?_;refine cB (l:=[]) (n:=0) 5 3 rfl (acg 3).symm ?_;refine ar (λm T' L'=>∃(k:Nat) (C:List AV) (X:List Blk),m=l.length-k/\k<=l.length/\C=aC ((l.take k).map bA)/\T'=[(10,.int .i64 (k:Int)),(9,.int .i64 l.length),(8,.sl (l.map AV.str) l.length cap),(5,.gsl C k L.length 3),(1,.func 40 [])]/\L'=L++(.spare k 3::X)) aey ⟨0,[],[],rfl,abJ _,rfl,rfl,rfl⟩ ?_;rintro _ _ _ ⟨k,C,X,rfl,i,c,rfl,rfl⟩;by_cases a:k<l.length;have g1:(k:Int)<(l.length:Int):=aeu;have g:=abu k aeu;obtain⟨s,d⟩:=abr (l.getD k []);have j:(l.map AV.str).getD k .undef=.str s:=by rw[<- d];simp[a]
 have r:k<(l.map AV.str).length:=by simpa using a
 have b:aC ((l.take (k+1)).map bA)=aC ((l.take k).map bA)++[.int .i64 4,.str s,.sl [] 0 none]:=by rw[ab6 a,abS,rQ,show l[k]=s by rw[<- d];simp[a]];rfl
 have kk1:Hid (Ctr Tryz.prog 40 [.str s] (.agg [.int .i64 4,.str s,.sl [] 0 none])):=@hid _ (by intro L K q;exact RP (by rw[bA,bP];exact q));replace b:=hid b;replace c:=hid c;clear d;refine wk ?_;exact aez aeu aex ⟨k+1,_,_,rfl,a,by rw[b.o,c.o],rfl,rfl⟩;have e:k=l.length:=aeu;subst e;have g1:¬(l.length:Int)<(l.length:Int):=aeu;rw[abX]at c;subst c;have f:=cS (l.map bA);refine wk ?_;refine aB ?_;simp only[AV.frz,f];exact ae (by simp only[AV.refs,fW]) h.o
theorem aag{a:Atr}(e:(a.1.length:Int)<=140737488351232)(f:a.2.length<=1100000)(g:∀v∈a.2,(v.length:Int)<=140737488351232)(h:K (.agg (ndA (Fa a))) L):abw 42 [.agg (atA a)] L K:=by
 obtain⟨n,vs⟩:=a;simp only at e f g;have b:∀k∈vs.map bA,okN 0 k:=λk d=>by obtain⟨v,b,rfl⟩:=abB.1 d;exact EN (g v b) 0
 have c:∀k∈[bA n,.mk 49 [] (vs.map bA)],okN 1 k:=λk d=>by simp only[abY,acF,or_false]at d;rcases d with rfl|rfl;exact EN e 1;exact .inr ⟨.inr rfl,rfl,by simpa using f,b⟩
 have kk1:Hid (Ctr Tryz.prog 40 [.str n] (.agg [.int .i64 4,.str n,.sl [] 0 none])):=@hid _ (by intro L K q;exact RP (by rw[bA,bP];exact q));have kk2:Hid (Ctr Tryz.prog 44 [.sl (vs.map AV.str) vs.length none,.func 40 []] (.sl (aC (vs.map bA)) vs.length none)):=@hid _ (by intro L K q;exact Yo aeu q);have kk3:Hid (Ctr Tryz.prog 43 [.int .i64 49,.sl (aC (vs.map bA)) vs.length none] (.agg [.int .i64 49,.str [],.sl (aC (vs.map bA)) vs.length none])):=@hid _ (by intro L K q;have:=Tl (h:=0) (t:=49) (l:=vs.map bA) (cap:=none) (L:=L) (K:=K) (by rw[abM];omega) b;rw[bP,abM]at this;exact this q)
 have kk4:Hid (∀{cap:Option Nat}{L:List Blk}{K:abx},K (.agg [.int .i64 48,.str [],.sl [.int .i64 4,.str n,.sl [] 0 none,.int .i64 49,.str [],.sl (aC (vs.map bA)) vs.length none] 2 none]) L->abw 43 [.int .i64 48,.sl [.int .i64 4,.str n,.sl [] 0 none,.int .i64 49,.str [],.sl (aC (vs.map bA)) vs.length none] 2 cap] L K):=@hid _ (by intro cap L K q;have:=Tl (h:=1) (t:=48) (l:=[bA n,.mk 49 [] (vs.map bA)]) (cap:=cap) (L:=L) (K:=K) aev c;rw[bP]at this;simp only[aC,bA,bP,abM,ab1,acp,aco,abU,ack]at this;exact this q)
 have i:K (.agg [.int .i64 48,.str [],.sl [.int .i64 4,.str n,.sl [] 0 none,.int .i64 49,.str [],.sl (aC (vs.map bA)) vs.length none] 2 none]) L:=by rw[Fa,bP]at h;simp only[aC,bA,bP,abM,ab1,acp,aco,abU,ack]at h;exact h
 replace h:=hid i;have m:=cS (vs.map bA);have j:=λp=>fW p (vs.map bA)
 clear e f g b c i;refine abv E5 ?_;refine ae ?_ h.o;simp only[AV.refs,AV.refsL,j];rfl
theorem Yp{l:List Atr}(x:l.length<=1100000)(j:∀a∈l,(a.1.length:Int)<=140737488351232/\a.2.length<=1100000/\∀v∈a.2,(v.length:Int)<=140737488351232)(h:K (.sl (aC (l.map Fa)) l.length none) L):abw 41 [.sl (cj l) l.length cap,.func 42 []] L K:=by
 replace h:=hid h;replace j:=hid j;refine abv jJ ?_;refine cB (l:=[]) (n:=0) 5 3 rfl (acg 3).symm ?_;refine ar (λm T' L'=>∃(k:Nat) (C:List AV) (X:List Blk),m=l.length-k/\k<=l.length/\C=aC ((l.take k).map Fa)/\T'=[(10,.int .i64 (k:Int)),(9,.int .i64 l.length),(8,.sl (cj l) l.length cap),(5,.gsl C k L.length 3),(1,.func 42 [])]/\L'=L++(.spare k 3::X)) aey ⟨0,[],[],rfl,abJ _,rfl,rfl,rfl⟩ ?_;rintro _ _ _ ⟨k,C,X,rfl,w,e,rfl,rfl⟩;by_cases b:k<l.length;have g1:(k:Int)<(l.length:Int):=aeu;have u:=abu k aeu;have r:=Mv b;have t:k*2+2<=(cj l).length:=by rw[Oc];omega
 obtain⟨⟨n,vs⟩,i⟩:∃a,l.getD k ([],[])=a:=⟨_,rfl⟩;have f:=j.o (n,vs) (by rw[<- i];simp[b]);obtain⟨g,c⟩:=abr (aC [bA n,.mk 49 [] (vs.map bA)]);have d:aC ((l.take (k+1)).map Fa)=aC ((l.take k).map Fa)++[.int .i64 48,.str [],.sl g 2 none]:=by rw[ab6 b,abS,rQ,show l[k]=(n,vs)by rw[<- i];simp[b],<- c];simp only[abO,acw,aC,Fa,bP,ab1];rfl
 have kk1:Hid (Ctr Tryz.prog 42 [.agg [.str n,.sl (vs.map AV.str) vs.length none]] (.agg [.int .i64 48,.str [],.sl g 2 none])):=@hid _ (by intro L K q;refine aag (a:=(n,vs)) f.1 f.2.1 f.2.2 ?_;rw[Fa,bP,c];exact q)
 have s:AV.frzL g=g:=by rw[<- c];exact cS _
 rw[i]at r;simp only[atA]at r;replace d:=hid d;replace e:=hid e;clear i c f;refine wk ?_;exact aez aeu aex ⟨k+1,_,_,rfl,b,by rw[d.o,e.o],rfl,rfl⟩;have p:k=l.length:=aeu;subst p;have g1:¬(l.length:Int)<(l.length:Int):=aeu;rw[abX]at e;subst e;have s:=cS (l.map Fa);refine wk ?_;refine aB ?_;simp only[AV.frz,s];exact ae (by simp only[AV.refs,fW]) h.o
end Go.Proofs.YtajkbcmleihaoaaGreatDoor.Av
