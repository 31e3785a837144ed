/- Joined texts of the walk, made small by a program. -/
import Derived.Test.YtajkbcmleihaoaaGreatDoorWk4
import Derived.Sort.Grow
import Derived.Deep.Draws
import Derived.Lib.LaidTab
import Derived.WalkKit
import Derived.ProofKit
import Derived.OpenShut
import Derived.JoinedCond
import Derived.SizedLaws
import Derived.Stop.LaidErr
import Derived.Test.YtajkbcmleihaoaaGreatDoorProg
import Derived.Shelf.Lay
import Derived.Lib.LaidU8T
import Derived.Shelf.Vars
set_option linter.unusedSimpArgs false
set_option linter.unusedVariables false
namespace Go.Proofs.YtajkbcmleihaoaaGreatDoor.Av
open Go
variable {E:Env}{L:List Blk}{w W:World}{P:Program}{f:FuncId}{N n g:Nat}{own:Nat->Nat->Nat}{l:List AV}{v:Value}{A B:Prop}{t e:TypeId}{X Y H:Type}
structure Qy(w w':World):Prop where
 heap:∀b,b<w.heap.size->w'.heap[b]?=w.heap[b]?
 size:w.heap.size<=w'.heap.size
 os:w'.os=w.os
 tape:w'.tape=w.tape
 output:w'.output=w.output
theorem Qy.refl(w:World):Qy w w:=⟨λ_ _=>rfl,aek _,rfl,rfl,rfl⟩
theorem Rel.grown{w0:World}{S0:SB}{w':World}(h:Rel w0 S0 E L w)(g:Qy w w'):Rel w0 S0 E L w':=by
 refine⟨λb o v j=>?_,λi k a=>?_,h.fresh,h.own,h.inj,h.tkfresh,h.tkown,h.tkloc,h.tkinj,λk a l=>?_,aeR h.size g.size,g.os.trans h.os,g.tape.trans h.tape,g.output.trans h.output,h.glob,
  h.gsz.mod λb cs ty fr f=>⟨cs,ty,fr,by rw[g.heap b (ae1.1 f).1];exact f,rfl⟩⟩
 have:=h.mem b o v j;simp only[World.cell?]at this⊢;rw[g.heap b (h.mem_lt j)];exact this;cases hl:k.live;refine bf.still hl rfl (λt c n sz e m d=>?_) (h.blk i k a);subst e;exact g.heap _ (h.tok_lt a m d);exact bf.worldL hl (λc d=>g.heap _ (h.loc_lt a hl d)) (h.blk i k a);rw[g.heap k (afs a h.size)];exact h.frame k a l
theorem iu{fn:Func}(i:P.funcs[f]?=some fn)(g:fn.body.isSome=true)(k:(fn.name == "runtime.NumGoroutine")=false){args:List AV}{K:AV->List Blk->Prop}{r:AV}(l:∀ (w0:World) (S0:SB) (E:Env) (w:World) (vs:List Value),Rel w0 S0 E L w->VRL E args vs->Calls P f ⟨vs⟩ w fun e w'=>∃ v,e=.returned v/\VR E r v/\Qy w w')(a:K r L):ae P f args L K:=fun w0 S0 E w vs hR hv=>by
 refine .inl ⟨?_,(l w0 S0 E w vs hR hv).mono λe w' ⟨v,d,b,j⟩=>⟨E,v,r,L,d,.refl E,a,b,hR.grown j⟩⟩;simp only[callFunc,aer,run_program,aes,i,k];cases h:fn.body with
 |none=>simp[h]at g
 |some c=>simp
theorem aam{Q:Exit->Tm->List Blk->Prop}{T:Tm}{X:List Blk}{lc:aS}(t sz k:Nat)(c:X.length=k)(a:ar T t=some (.sl l n (some n)))(b:l.length=n*sz)(h:AW P N own lc Q ((t,.gsl l n (L.length+k) sz)::T) (L++(X++[.spare n sz]))):AW P N own lc Q T (L++X):=by refine cB t sz a b ?_;simp[*]
theorem Rel.reblk{w0:World}{S0:SB}(h:Rel w0 S0 E L w){i:Nat}{c c':List AV}(z:L[i]?=some (.cells c))(q:c'.length=c.length)(N:∀(j:Nat) (C:AV),c'[j]?=some C->∃a,c[j]?=some a/\∀v,VR E a v->VR E C v):Rel w0 S0 E (L.set i (.cells c')) w:=by
 have f:i<L.length:=(aei.1 z).1;have l:∀(j:Nat) (k:Blk),(L.set i (.cells c'))[j]?=some k->k.live=true->∃k',L[j]?=some k'/\k'.live=true:=λj k g r=>by rw[aeV]at g;split at g;rename_i e;subst e;exact⟨_,z,rfl⟩;simp[*]
 have b:∀(j n sz:Nat),(L.set i (.cells c'))[j]?=some (.spare n sz)->L[j]?=some (.spare n sz):=λj n sz g=>by grind
 refine⟨h.mem,λj k g=>?_,λi f=>h.fresh i (by simpa using f),λi k c g r M=>?_,λi j k k' c c' f I y G=>?_,
  λi f=>h.tkfresh i (by simpa using f),λi n sz t d f=>h.tkown i n sz t d (b i n sz f),λi n sz t d j k' c' f x hd y r=>?_,
  λi n sz t d A B o t' D f x hd u=>h.tkinj i n sz t d A B o t' D (b i n sz f) x hd (b A B o u),h.frame,h.size,h.os,h.tape,h.output,h.glob,h.gsz⟩
 rw[aeV]at g;split at g;rename_i e;subst e;cases g;obtain⟨cl,cs,ty,fr,g1,K,g3,g4,O,F⟩:=h.blk _ _ z;refine⟨cl,cs,ty,fr,g1,K,g3,by rw[q];exact g4,λj a P=>?_,F⟩
 grind
 exact h.blk j k g;obtain⟨k',m,p⟩:=l i k g r;exact h.own i k' c m p M;obtain⟨s,m,p⟩:=l i k f I;obtain⟨H,J,h4⟩:=l j k' y G;exact h.inj i j s H c c' m p J h4;obtain⟨s,m,p⟩:=l j k' y r;exact h.tkloc i n sz t d j s c' (b i n sz f) x hd m p
theorem VR.grow{i sz:Nat}(e:E.tok i=some ⟨n,sz,none⟩)(d:l.length=n*sz)(h:VR E (.sl l n (some n)) v):VR E (.gsl l n i sz) v:=by obtain⟨p,c',c,f,a,b⟩:=h;exact⟨p,c',c,f,d,b,⟨n,sz,none⟩,e,aek _,λ_=>⟨rfl,λ_=>a n rfl,ahe⟩⟩
theorem L7{Q:Exit->Tm->List Blk->Prop}{T:Tm}{lc:aS}(i j sz:Nat){c:List AV}(q:L[i]?=some (.cells c))(C:c[j]?=some (.sl l n (some n)))(A:l.length=n*sz)(h:AW P N own lc Q T (L.set i (.cells (c.set j (.gsl l n L.length sz)))++[.spare n sz])):AW P N own lc Q T L:=λx F r hr w0 S0 E a w d=>by
 obtain⟨o,G⟩:=d.1.addtok (n:=n) (sz:=sz) (lc:=none) MI;have m:i<L.length:=(aei.1 q).1;have g:(L++[Blk.spare n sz])[i]?=some (.cells c):=by rw[aem m];exact q
 have p:=G.reblk g (c':=c.set j (.gsl l n L.length sz)) ahe λk y f=>by rw[aeV]at f;split at f;rename_i e;subst e;split at f;cases f;exact⟨_,C,λv t=>VR.grow ahe A t⟩;simp[*];simp[*]
 rw[af5 _ _ m]at p;exact wpIn_mono (h x F r hr w0 S0 _ a w ⟨p,d.2.1.mono o,d.2.2⟩) λe y w' ⟨s,D,E',T1,L1,b,u,z,B⟩=>⟨s,D,E',T1,L1,b,o.trans u,z,B⟩
theorem sk(h:B)(e:Hid B->A:=by intro hB_;simp only[Kon,push_cast,reduceIte,Nat.reduceEqDiff,Nat.reduceAdd,Nat.reduceMul,Nat.reduceSub,Nat.reduceLT,Nat.reduceLeDiff,Int.reduceLT,Int.reduceLE,Int.reduceAdd,Int.reduceSub,Int.reduceNeg,Int.reduceToNat,Int.reduceEq,reduceCtorEq, *];exact hB_.o):A:=e (hid h)
theorem sm(h:B)(e:Hid B->A:=by intro hB_;simp(config:={maxSteps:=2000000}) only[Kon,push_cast,reduceIte,Nat.reduceEqDiff,Nat.reduceAdd,Nat.reduceMul,Nat.reduceSub,Nat.reduceLT,Nat.reduceLeDiff,Int.reduceLT,Int.reduceLE,Int.reduceAdd,Int.reduceSub,Int.reduceNeg,Int.reduceToNat,Int.reduceEq,reduceCtorEq, *];exact hB_.o):A:=e (hid h)
theorem sl(h:B)(e:Hid B->A:=by intro hB_;simp only[push_cast,reduceIte,Nat.reduceEqDiff,Nat.reduceAdd,Nat.reduceMul,Nat.reduceSub,Nat.reduceLT,Nat.reduceLeDiff,Int.reduceLT,Int.reduceLE,Int.reduceAdd,Int.reduceSub,Int.reduceNeg,Int.reduceToNat,Int.reduceEq,reduceCtorEq, *];exact hB_.o):A:=e (hid h)
theorem wk(h:B)(e:Hid B->A:=by
 intro hB_
 repeat' first
  |refine kX ?_
  | (first|refine ju ahf ?_|refine fO ahf ?_|refine fR ?_|refine DR ?_|refine nQ (fun _=>?_)|refine dS ?_|refine jw ?_|refine kk1.o _ _ ?_|refine kk1.o ?_|refine kk2.o _ _ ?_|refine kk2.o ?_|refine kk3.o _ _ ?_|refine kk3.o ?_|refine kk4.o _ _ ?_|refine kk4.o ?_|refine kk5.o _ _ ?_|refine kk5.o ?_|refine kk6.o _ _ ?_|refine kk6.o ?_|refine kk7.o _ _ ?_|refine kk7.o ?_|refine dv (kk1.o _ _ ⟨rfl,rfl⟩) (kk1.o _ _ ⟨rfl,rfl⟩) ?_|refine dv (kk1.o ⟨rfl,rfl⟩) (kk1.o ⟨rfl,rfl⟩) ?_|refine dv (kk2.o _ _ ⟨rfl,rfl⟩) (kk2.o _ _ ⟨rfl,rfl⟩) ?_|refine dv (kk2.o ⟨rfl,rfl⟩) (kk2.o ⟨rfl,rfl⟩) ?_|refine bq (kk1.o _ _ ⟨rfl,rfl⟩) ?_|refine bq (kk1.o ⟨rfl,rfl⟩) ?_|refine bq (kk2.o _ _ ⟨rfl,rfl⟩) ?_|refine bq (kk2.o ⟨rfl,rfl⟩) ?_|refine bq (kk3.o _ _ ⟨rfl,rfl⟩) ?_|refine bq (kk3.o ⟨rfl,rfl⟩) ?_|refine bq (kk4.o _ _ ⟨rfl,rfl⟩) ?_|refine bq (kk4.o ⟨rfl,rfl⟩) ?_|refine bq (kk5.o _ _ ⟨rfl,rfl⟩) ?_|refine bq (kk5.o ⟨rfl,rfl⟩) ?_|refine bq (kk6.o _ _ ⟨rfl,rfl⟩) ?_|refine bq (kk6.o ⟨rfl,rfl⟩) ?_|refine bq (kk7.o _ _ ⟨rfl,rfl⟩) ?_|refine bq (kk7.o ⟨rfl,rfl⟩) ?_)
    simp(config:={maxSteps:=2000000}) only[Kon,push_cast,reduceIte,Nat.reduceEqDiff,Nat.reduceAdd,Nat.reduceMul,Nat.reduceSub,Nat.reduceLT,Nat.reduceLeDiff,Int.reduceLT,Int.reduceLE,Int.reduceAdd,Int.reduceSub,Int.reduceNeg,Int.reduceToNat,Int.reduceEq,reduceCtorEq, *]
  | (first|refine jo ahf ?_|refine iF ?_|refine fQ ?_|refine jv ?_|refine nW (dR ?_))
    simp only[push_cast,reduceIte,Nat.reduceEqDiff,Nat.reduceAdd,Nat.reduceMul,Nat.reduceSub,Nat.reduceLT,Nat.reduceLeDiff,Int.reduceLT,Int.reduceLE,Int.reduceAdd,Int.reduceSub,Int.reduceNeg,Int.reduceToNat,Int.reduceEq,reduceCtorEq, *]
  |exact nR
  |first|apply nS|apply jq|apply nT|apply jr|apply nV|apply jt
  |refine fU ?_
  |refine fP ?_
  |first|refine fS rfl ?_|refine fT rfl ?_|refine cG rfl ?_ ?_
  |((first|refine cF (λ_=>?_) (λ_=>?_)|refine dQ (λ_=>?_) (λ_=>?_))<;>try simp(config:={maxSteps:=2000000}) only[Kon,push_cast,reduceIte,Nat.reduceEqDiff,Nat.reduceAdd,Nat.reduceMul,Nat.reduceSub,Nat.reduceLT,Nat.reduceLeDiff,Int.reduceLT,Int.reduceLE,Int.reduceAdd,Int.reduceSub,Int.reduceNeg,Int.reduceToNat,Int.reduceEq,reduceCtorEq, *])
  |refine And.intro trivial ?_
  |refine And.intro ahd ?_
  |refine eQ rfl (λ_=>?_) (λ_=>?_)
 exact hB_.o):A:=e (hid h)
theorem ahl(h:B)(e:Hid B->A:=by intro hB_;refine sk ?_;refine wk ?_;exact hB_.o):A:=e (hid h)
theorem aef{P:Program}{own:Nat->Nat->Nat}{f:FuncId}{a:aI}(h:aL P own f=some a.raw){args:List AV}{L:List Blk}{Q:AV->List Blk->Prop}{B:Prop}(b:B)(c:Nat.ble args.length a.ntmps=true:=by rfl)(e:Hid B->AW P a.ntmps own a.code (abU a.res L Q) (am 0 args) L:=by
 intro hB_;simp only[push_cast]
 repeat' first
  |refine kX ?_
  | (first|refine ju ahf ?_|refine fO ahf ?_|refine fR ?_|refine DR ?_|refine nQ (fun _=>?_)|refine dS ?_|refine jw ?_|refine kk1.o _ _ ?_|refine kk1.o ?_|refine kk2.o _ _ ?_|refine kk2.o ?_|refine kk3.o _ _ ?_|refine kk3.o ?_|refine kk4.o _ _ ?_|refine kk4.o ?_|refine kk5.o _ _ ?_|refine kk5.o ?_|refine kk6.o _ _ ?_|refine kk6.o ?_|refine kk7.o _ _ ?_|refine kk7.o ?_|refine dv (kk1.o _ _ ⟨rfl,rfl⟩) (kk1.o _ _ ⟨rfl,rfl⟩) ?_|refine dv (kk1.o ⟨rfl,rfl⟩) (kk1.o ⟨rfl,rfl⟩) ?_|refine dv (kk2.o _ _ ⟨rfl,rfl⟩) (kk2.o _ _ ⟨rfl,rfl⟩) ?_|refine dv (kk2.o ⟨rfl,rfl⟩) (kk2.o ⟨rfl,rfl⟩) ?_|refine bq (kk1.o _ _ ⟨rfl,rfl⟩) ?_|refine bq (kk1.o ⟨rfl,rfl⟩) ?_|refine bq (kk2.o _ _ ⟨rfl,rfl⟩) ?_|refine bq (kk2.o ⟨rfl,rfl⟩) ?_|refine bq (kk3.o _ _ ⟨rfl,rfl⟩) ?_|refine bq (kk3.o ⟨rfl,rfl⟩) ?_|refine bq (kk4.o _ _ ⟨rfl,rfl⟩) ?_|refine bq (kk4.o ⟨rfl,rfl⟩) ?_|refine bq (kk5.o _ _ ⟨rfl,rfl⟩) ?_|refine bq (kk5.o ⟨rfl,rfl⟩) ?_|refine bq (kk6.o _ _ ⟨rfl,rfl⟩) ?_|refine bq (kk6.o ⟨rfl,rfl⟩) ?_|refine bq (kk7.o _ _ ⟨rfl,rfl⟩) ?_|refine bq (kk7.o ⟨rfl,rfl⟩) ?_)
    simp(config:={maxSteps:=2000000}) only[Kon,push_cast,reduceIte,Nat.reduceEqDiff,Nat.reduceAdd,Nat.reduceMul,Nat.reduceSub,Nat.reduceLT,Nat.reduceLeDiff,Int.reduceLT,Int.reduceLE,Int.reduceAdd,Int.reduceSub,Int.reduceNeg,Int.reduceToNat,Int.reduceEq,reduceCtorEq, *]
  | (first|refine jo ahf ?_|refine iF ?_|refine fQ ?_|refine jv ?_|refine nW (dR ?_))
    simp only[push_cast,reduceIte,Nat.reduceEqDiff,Nat.reduceAdd,Nat.reduceMul,Nat.reduceSub,Nat.reduceLT,Nat.reduceLeDiff,Int.reduceLT,Int.reduceLE,Int.reduceAdd,Int.reduceSub,Int.reduceNeg,Int.reduceToNat,Int.reduceEq,reduceCtorEq, *]
  |exact nR
  |first|apply nS|apply jq|apply nT|apply jr|apply nV|apply jt
  |refine fU ?_
  |refine fP ?_
  |first|refine fS rfl ?_|refine fT rfl ?_|refine cG rfl ?_ ?_
  |((first|refine cF (λ_=>?_) (λ_=>?_)|refine dQ (λ_=>?_) (λ_=>?_))<;>try simp(config:={maxSteps:=2000000}) only[Kon,push_cast,reduceIte,Nat.reduceEqDiff,Nat.reduceAdd,Nat.reduceMul,Nat.reduceSub,Nat.reduceLT,Nat.reduceLeDiff,Int.reduceLT,Int.reduceLE,Int.reduceAdd,Int.reduceSub,Int.reduceNeg,Int.reduceToNat,Int.reduceEq,reduceCtorEq, *])
  |refine And.intro trivial ?_
  |refine And.intro ahd ?_
  |refine eQ rfl (λ_=>?_) (λ_=>?_)
 exact hB_.o):ae P f args L Q:=aa h (Nat.le_of_ble_eq_true c) (e (hid b))
attribute [push_cast] am
open Go Go.ChangeShapes Go.WideShapes Go.ChangeAt Go.RowKit
def yA(w:World):Env:={mem:=λb o=>w.cell? ⟨b,o,none⟩,loc:=λ_=>none,tok:=λ_=>none}
theorem Rel.start(w:World)(a:sK (yA w).mem/\vK w):Rel w ⟨λ_=>False,0⟩ (yA w) [] w where
 mem _ _ _ h:=h
 blk _ _ h:=by simp at h
 fresh _ _:=rfl
 own _ _ _ h:=by simp at h
 inj _ _ _ _ _ _ h:=by simp at h
 tkfresh _ _:=rfl
 tkown _ _ _ _ _ h:=by simp at h
 tkloc _ _ _ _ _ _ _ _ h:=by simp at h
 tkinj _ _ _ _ _ _ _ _ _ _ h:=by simp at h
 frame _ _ _:=rfl
 size:=aek _
 os:=rfl
 tape:=rfl
 output:=rfl
 glob:=a.1
 gsz:=a.2
def Rd(P:Program)(t:TypeId){X:Type}(ec:X->List AV)(ok:X->Prop):Prop :=
 ∀(H:Type) (enc:TypeId×Value->H) (w:World) (fuel:Nat) (cs:List Value) (x:DataW H×List MemPlace),
  DataW.trod enc P w 0 (λ_=>true) true fuel t cs=some x->∃y,ok y/\VRL (yA w) (ec y) cs
theorem Rd.map{d:X->List AV}{ok:X->Prop}{a:Y->List AV}{c:Y->Prop}(h:Rd P t d ok)(m:∀y,ok y->∃z,c z/\a z=d y):Rd P t a c:=λH enc w b cs x e=>by obtain⟨y,f,g⟩:=h H enc w b cs x e;obtain⟨z,i,h4⟩:=m y f;exact⟨z,i,by rw[h4];exact g⟩
theorem YO{k:IntKind}(d:P.underlying t=some (.int k)):Rd P t (λn:Int=>[.int k n]) (λn=>k.min<=n/\n<=k.max):=λH enc w b cs x c=>by obtain⟨n,rfl,_,a⟩:=DataW.trod_int d c;simp only[Lit.wf,aeq,decide_eq_true_eq]at a;exact⟨n,a,by simp[VRL,VR]⟩
theorem Wr{E:Env}:∀{l m:List AV}{b o:Nat},VRC E l b o->VRC E m b (o+l.length)->VRC E (l++m) b o
 |[],_,_,_,_,h=>by simpa using h
 |a::l,m,b,o,h,k=>by simp only[ae6,VRC]at h⊢;exact⟨h.1,Wr h.2 (by rw[show o+1+l.length=o+(l.length+1)by omega];exact k)⟩
theorem Re{X:Type}(Q:Nat->X->Prop):∀n,(∀i,i<n->∃y,Q i y)->∃b:List X,b.length=n/\∀i y,b[i]?=some y->Q i y
 |0,_=>⟨[],rfl,ahe⟩
 | n+1,h=>by
   obtain⟨b,f,g⟩:=Re Q n λi c=>h i ahd
   obtain⟨y,d⟩:=h n ahd;refine⟨b++[y],by simp[f],λi z a=>?_⟩;rw[afz]at a;split at a
   .exact g i z a
   .have c:i-b.length=0:=by
     rcases afy (i-b.length)with e|e
     .exact e
     .rw[afb (by simp;omega)]at a;cases a
    rw[c]at a;simp at a;subst a;rw[show i=n by omega];exact d
theorem Ub{E:Env}{X:Type}{a:X->List AV}{b sz:Nat}:∀{c:List X}{o:Nat},(∀i y,c[i]?=some y->(a y).length=sz/\VRC E (a y) b (o+i*sz))->VRC E (c.flatMap a) b o
 |[],_,_=>by simp[VRC]
 |y::c,o,h=>by rw[afe];have d:=h 0 y rfl;refine Wr (by simpa using d.2) (Ub (sz:=sz) λi z e=>?_);have:=h (i+1) z e;refine⟨this.1,?_⟩;rw[d.1,show o+sz+i*sz=o+(i+1)*sz by rw[afn];omega];exact this.2
theorem Qd{a:Addr}{cs:List Value}(h:w.cells? 0 a n=some cs):cs.length=n/\∀i,i<n->w.cell? (a.add i)=cs[i]?:=by simp only[World.cells?,aep,if_true]at h;refine⟨by simpa using mapM_some_length h,λi b=>?_⟩;exact mapM_some_get h i i (by simp[b])
theorem XJ{a:Addr}(h:w.cell? a=some v):a.spot=none:=by rcases hs:a.spot with _|s;rfl;simp only[World.cell?,hs,Option.isSome_some,if_true]at h;split at h<;>cases h
theorem UJ{base:Nat}(a:iV P t=some false)(h:Value.okWide P w .any base t v):v.cells.toList=[v]:=by
 unfold iV at a;unfold Value.okWide at h;split at a;cases a;cases a
 .rename_i d h1 h2 hu;rw[hu]at h;split at h;rename_i e;cases e;exact absurd rfl (h1 _);rename_i e;cases e;exact absurd rfl (h2 _ _)
  .cases v<;>try rfl
   rename_i cs;unfold Cell.okWide at h;split at h<;>try (rename_i c b;cases b)
   unfold Cell.ok at h;split at h<;>first|(rename_i c b;cases b;done)|cases h
 cases a
theorem S8{enc:TypeId×Value->H}{f:Func}{s:ChangeSpec}{d fresh g m:Bool}{n:World}{args:Array Value}{ds u:List (DataW H)}{a pa pv:List MemPlace}(y:DataW.Whole enc P f.params.toList s.vars d W args.toList ds u a)(k:∀(b:Nat) (sp:Nat->Bool) (hd:Bool),DataW.TrodAll enc P n b sp hd f.resultTypes.toList (v.resultList f.resultTypes.size) (s.fn H (ds++u)).results [])(c:∀sp:Nat->Bool,(∀p∈a,sp p.block=true)->DataW.TrodAll enc P n 0 sp true f.params.toList args.toList (s.fn H (ds++u)).args pa)(e:∀sp:Nat->Bool,(∀p∈a,sp p.block=true)->DataW.TrodVars enc P n sp s.vars (s.fn H (ds++u)).vars pv)(h:a=pa++pv)(A:W.keptBut n (·∈a))(x:∀b o,b<W.heap.size->n.frozen? ⟨b,o,none⟩=W.frozen? ⟨b,o,none⟩)(z:∀(j:Nat) (t:TypeId) (r:Value),f.resultTypes[j]?=some t->(v.resultList f.resultTypes.size)[j]?=some r->Value.okWide P n .any 0 t r):
  s.post enc P f d fresh g m W args v n:=by
 have w:=y.lt;have l:∀p∈a,(λb=>decide (b<W.heap.size)) p.block=true:=λp i=>by simpa using w p i
 refine⟨ds,u,a,[],pa,pv,y,k _ _ _,c _ l,e _ l,World.keptBut_mono (λp i=>⟨i,?_⟩) A,λ_=>?_⟩;rw[h,aen]at i;exact Or.inr i;obtain⟨_,_,_,_,_,B,D⟩:=y;refine⟨z,_,_,([]++pa)++pv,⟨[]++pa,pv,trodAll_append (c _ (λ_ _=>rfl)) (k _ _ _),e _ (λ_ _=>rfl),rfl,?_,?_⟩,?_⟩;intro b off i;have q:MemPlace.cell b off∈a:=by rw[h];simpa using i
 rw[x b off (w _ q)];exact B b off q;intro C;have:=D C;rw[h]at this;simpa using this;intro p i _;rw[h];simpa using i
def I8(P:Program):Bool:=(List.range P.types.size).all λt=>match P.underlying t with|some (.slice e)=>decide (0<P.cellsOf e)|_=>true
theorem G6{H:Type}{enc:TypeId×Value->H}{P:Program}{W j:World}(a:laidOutB P=true)(c:mapsRowed P=true)(b:I8 P=true):
  ∀{ts:List TypeId}{vs:List Value}{ds:List (DataW H)}{ps:List MemPlace},(∀t∈ts,t<P.types.size)->DataW.TrodAll enc P W 0 (λ_=>true) true ts vs ds ps->(∀p∈ps,W.sameAt j p) ->
  ∀sp:Nat->Bool,(∀p∈ps,sp p.block=true)->DataW.TrodAll enc P j 0 sp true ts vs ds ps
 |[],_,_,_,_,h,_,_,_=>by obtain⟨rfl,rfl,rfl⟩:=trodAll_nil h;exact trodAll_mk0
 | t::ts,_,_,_,hts,h,hs,sp,hsp=>by
   obtain⟨v,n,d,m,p,q,rfl,rfl,rfl,g,k⟩:=trodAll_cons h;obtain⟨f,g⟩:=g;refine trodAll_cons_mk ⟨f,DataW.trod_stays (kids_rows a c) (λ{t e} l i=>?_) (λe=>by cases e) (hts t ahe) g (λr hr=>hs r (afp _ hr)) (λr hr=>hsp r (afp _ hr))⟩
    (G6 a c b (λu i=>hts u (by simp[i])) k (λr hr=>hs r (afG _ hr)) sp (λr hr=>hsp r (afG _ hr)))
   have:=aev.1 b t (List.mem_range.2 l);rw[i]at this;simpa using this
theorem O6{H:Type}{enc:TypeId×Value->H}{P:Program}{w:World}{base:Nat}{a:Nat->Bool}{b:Bool}:∀{ts:List TypeId}{vs:List Value}{ds:List (DataW H)}{ps:List MemPlace},DataW.TrodAll enc P w base a b ts vs ds ps->ds.length=ts.length
 |[],_,_,_,h=>by obtain⟨_,rfl,_⟩:=trodAll_nil h;rfl
 |t::ts,_,_,_,h=>by obtain⟨v,f,d,e,p,q,rfl,rfl,rfl,_,c⟩:=trodAll_cons h;simp[O6 c]
theorem QH{fn:Func}{s:ChangeSpec}{d fresh k z:Bool}{tb:TypeId}(M:P.funcs[f]?=some fn)(w:fn.body.isSome=true)(B:(fn.name == "runtime.NumGoroutine")=false)(u:laidOutB P=true)(G:mapsRowed P=true)(x:I8 P=true)(K:fn.params.toList.all (fun t=>decide (t<P.types.size))=true)(n:fn.resultTypes=#[tb])(m:P.underlying tb=some .bool)(g:s.vars=[])(Z:∀ (H:Type) (ds:List (DataW H)),ds.length=fn.params.toList.length->(s.fn H ds).results=[.lit (.bool true)]/\(s.fn H ds).args=ds/\(s.fn H ds).vars=[]){U:X->List AV}{ok:X->Prop}(E:∀ y,ok y->ae P f (U y) [] fun av _=>av=.bool true)(enc:TypeId×Value->H)(W:World)(args:Array Value)(ds gs:List (DataW H))(l:List MemPlace)(hA:∀ p,DataW.TrodAll enc P W 0 (fun _=>true) true fn.params.toList args.toList ds p->∃ y,ok y/\VRL (yA W) (U y) args.toList)(N:DataW.Whole enc P fn.params.toList s.vars d W args.toList ds gs l)(A:sK (yA W).mem/\vK W):
  Calls P f args W λe I=>∃v,e=.returned v/\s.post enc P fn d fresh k z W args v I:=by
 have R:=N;have L:=N.lt;obtain⟨p,q,C,Y,rfl,ad,ab⟩:=N;rw[g]at Y;obtain⟨rfl,rfl⟩:=trodVars_none Y;obtain⟨y,hy,T⟩:=hA p C;have F:=O6 C;obtain⟨e1,e2,e3⟩:=Z H ds F;have D:(callFunc f args).run P W=.ok (.enter f args) W:=by
  simp only[callFunc,aer,run_program,aes,M,B];cases m:fn.body with
  |none=>simp[m]at w
  |some c=>simp
 rcases E y hy W ⟨λ_=>False,0⟩ (yA W) W args.toList (Rel.start W A) T with⟨_,h⟩|⟨_,_,_,_,_,h,_⟩;refine h.mono λe I ⟨E',v,av,L',he,_,Q,V,O⟩=>?_
 subst Q;simp only[VR]at V;subst V;refine⟨_,he,?_⟩;have a:∀b,b<W.heap.size->I.heap[b]?=W.heap[b]?:=λb m=>O.frame b m (λh=>h)
 have J:∀r∈p,W.sameAt I r:=λr hr=>by have:=L r (by simpa using hr);cases r<;>simp only[World.sameAt,MemPlace.block]at this⊢;simp only[World.cell?];rw[a _ this];exact a _ this
 refine S8 (pa:=p) (pv:=[]) R (λb sp hd=>?_) (λsp S=>?_) (λ_ _=>?_) rfl ⟨O.os,O.output,λi hi=>?_⟩ (λb o m=>?_) (λj t r h1 h2=>?_);rw[aeL,e1,n];exact trodAll_cons_mk (shut_bool m _) trodAll_mk0;rw[aeL,e2];exact G6 u G x (λt ht=>by simpa using aev.1 K t ht) C J sp (λr hr=>S r (by simpa using hr));rw[g,aeL,e3];rfl;rw[a i hi];rcases hc:W.heap[i]? with _|o;trivial;cases o<;>simp;simp only[World.frozen?];rw[a b m];exact ok_one n rfl (okWide_bool_mk m _) j t r h1 h2;rw[show(⟨args.toList⟩:Array Value)=args from rfl,D]at h;cases h
open Go Go.ChangeShapes Go.WideShapes Go.ChangeAt
set_option maxHeartbeats 8000000
set_option maxRecDepth 100000
def RdZ(P:Program)(t:TypeId){X:Type}(ec:X->List AV)(ok:X->Prop):Prop :=
 ∀(H:Type) (enc:TypeId×Value->H) (w:World) (fuel:Nat) (cs:List Value) (x:DataW H×List MemPlace),
  DataW.trod enc P w 0 (λ_=>true) true fuel t cs=some x->(∀n∈x.1.weights P t,n<=reachBytes)->∃y,ok y/\VRL (yA w) (ec y) cs
theorem Rd.z{b:X->List AV}{ok:X->Prop}(h:Rd P t b ok):RdZ P t b ok:=λH enc w a cs x c _=>h H enc w a cs x c
theorem ON(d:P.underlying t=some .string):RdZ P t (λs:List UInt8=>[.str s]) (λs=>s.length<=reachBytes):=λH enc w a cs x c b=>by obtain⟨s,rfl,rfl,e⟩:=DataW.trod_string d c;exact⟨s.data.toList,b _ (by simp[DataW.weights]),by simp[VRL,VR]⟩
theorem DZ{H:Type}{P:Program}{e:TypeId}:∀{l:List (DataW H)}{d:DataW H},d∈l->∀n∈d.weights P e,n∈DataW.weightsAll P e l
 | a::l,d,h,n,hn=>by
   rw[DataW.weightsAll];rcases aeJ.1 h with rfl|h
   .exact afp _ hn
   .exact afG _ (DZ h n hn)
theorem vY{E:X->List AV}{ok:X->Prop}(S:P.underlying t=some (.slice e))(he:RdZ P e E ok)(K:decide (0<P.cellsOf e)=true):
  RdZ P t (λl:List X=>[.sl (l.flatMap E) l.length none]) (λl=>l.length<=maxLen/\∀y∈l,ok y):=λH enc w R cs x hx I=>by
 have hz:0<P.cellsOf e:=of_decide_eq_true K;rcases DataW.trod_slice S hx with⟨rfl,_⟩|⟨a,len,cap,elems,rest,n,_,rfl,rfl,_,ab,Q,ad,p,g,_⟩;exact⟨[],⟨ahe,ahe⟩,by simp only[VRL,VR];exact⟨_,_,rfl,⟨none,0,rfl,aek _,ahe,.inl ⟨rfl,rfl,rfl⟩⟩,rfl⟩⟩;have c:cap≠0->a.spot=none:=λN=>by
  have f:∀r:Option (DataW H×List MemPlace),r≠none->(w.cells? 0 (a.add (0*P.cellsOf e)) (P.cellsOf e)).bind (DataW.trod enc P w 0 (λ_=>true) true n e)=r->a.spot=none:=λr hr z=>by obtain⟨q,rfl⟩:=Option.ne_none_iff_exists'.1 hr;rw[af2]at z;obtain⟨h,A,_⟩:=z;obtain⟨Z,L⟩:=Qd A;have G:=L 0 hz;obtain⟨v,hv⟩:∃v,h[0]?=some v:=⟨h[0]'ahd,aeF _⟩;rw[hv]at G;have:=XJ G;simpa[Addr.add]using this
  by_cases V:len=0;obtain⟨r1,r2⟩:=g rfl;exact f rest[0]? (by rw[aeF ahd];simp) (by simpa[V]using r2 0 ahd)
  exact f elems[0]? (by rw[aeF ahd];simp) (p 0 ahd)
 have C:∀i,i<len->∃y,ok y/\(E y).length=P.cellsOf e/\a.spot=none/\VRC (yA w) (E y) a.block (a.off+i*P.cellsOf e):=λi J=>by
  have z:=p i J;obtain⟨q,W⟩:∃q,elems[i]?=some q:=⟨elems[i]'ahd,aeF _⟩;rw[W,af2]at z;obtain⟨h,A,h3⟩:=z;obtain⟨y,h4,T⟩:=he H enc w n h q h3 (λm Y=>I m (by simp only[DataW.weights,S];refine afZ _ (afp _ (DZ (d:=q.1) ?_ m Y));exact ael.2 ⟨q,afi W,rfl⟩))
  obtain⟨Z,L⟩:=Qd A;have V:=T.length;have g:a.spot=none:=c ahd;refine⟨y,h4,ahd,g,VRC.of_get λj u U=>?_⟩;obtain⟨v,G,h9⟩:=T.get U;refine⟨v,?_,h9⟩;have hj:j<P.cellsOf e:=by have:=(aei.1 U).1;omega
  have D:=L j hj;rw[G]at D;rw[<- D];have B:∀k,a.add k=⟨a.block,a.off+k,none⟩:=λk=>by obtain⟨b,o,s⟩:=a;simp only at g;subst g;exact Addr.add_mk b o k
  rw[B,Addr.add_mk];rfl
 obtain⟨M,z,A⟩:=Re _ len C;refine⟨M,⟨ahd,λy F=>?_⟩,?_⟩;obtain⟨i,J⟩:=List.getElem?_of_mem F;exact(A i y J).1;simp only[VRL];refine⟨_,[],rfl,?_,rfl⟩;simp only[VR];refine⟨_,_,by rw[z],ahd,ahe,?_⟩;by_cases N:cap=0;have:M=[]:=by have:M.length=0:=ahd;simpa using this
 subst this;exact .inl ⟨rfl,N,rfl⟩;refine .inr ⟨a.block,a.off,?_,Ub λi y F=>⟨(A i y F).2.1,(A i y F).2.2.2⟩⟩;have O:a.spot=none:=c N;cases a;simp only at O⊢;rw[O]
theorem vV{H:Type}{P:Program}{us:List TypeId}{a:List (DataW H)}{n:Nat}:∀{ts:List TypeId}{ds:List (DataW H)},n∈DataW.weightsEach P ts ds->n∈DataW.weightsEach P (ts++us) (ds++a)
 |[],_,h=>by simp[DataW.weightsEach]at h
 |_::_,[],h=>by simp[DataW.weightsEach]at h
 | t::ts,d::ds,h=>by
   simp only[ae6,DataW.weightsEach,aen]at h⊢;rcases h with h|h
   .exact .inl h
   .exact .inr (vV h)
def abQ(P:Program)(N o:Nat)(fs:List Field){X:Type}(ec:X->List AV)(ok:X->Prop):Prop :=
 ∀(H:Type) (enc:TypeId×Value->H) (w:World) (n:Nat) (cs:List Value),cs.length=N ->
  (∀f∈fs,∃x,DataW.trod enc P w 0 (λ_=>true) true n f.type ((cs.drop f.offset).take (P.cellsOf f.type))=some x/\∀m∈x.1.weights P f.type,m<=reachBytes)->∃y,ok y/\VRL (yA w) (ec y) (cs.drop o)
theorem Pe{o:Nat}(h:o=N):abQ P N o [] (λ_:Unit=>[]) (λ_=>True):=λH enc w n cs a _ =>
 ⟨(),trivial,by simp[VRL,h,<- a]⟩
theorem jK{o sz:Nat}{f:Field}{d:List Field}{c:X->List AV}{ok:X->Prop}{a:Y->List AV}{b:Y->Prop}(k:f.offset=o)(s:P.cellsOf f.type=sz)(h:RdZ P f.type c ok)(r:abQ P N (o+sz) d a b):
  abQ P N o (f::d) (λy:X×Y=>c y.1++a y.2) (λy=>ok y.1/\b y.2):=λH enc w n cs q e=>by
 obtain⟨x,i,t⟩:=e f ahe;obtain⟨y,j,l⟩:=h H enc w n _ x i t;obtain⟨z,h4,p⟩:=r H enc w n cs q λg m=>e g (by simp[m])
 refine⟨(y,z),⟨j,h4⟩,?_⟩;have:cs.drop o=(cs.drop f.offset).take (P.cellsOf f.type)++cs.drop (o+sz):=by rw[k,s,<- afU,afH]
 rw[this];exact l.append p
theorem Ja{c:Array Field}{l:X->List AV}{ok:X->Prop}(o:P.underlying t=some (.struct c))(A:P.cellsOf t=N)(r:abQ P N 0 c.toList l ok):RdZ P t l ok:=λH enc w p cs x q e=>by
 subst A;obtain⟨xs,n,_,rfl,B,a,z⟩:=DataW.trod_struct o q;obtain⟨y,u,v⟩:=r H enc w n cs B λf k=>by
  obtain⟨i,h⟩:=List.getElem?_of_mem k;have g:c[i]?=some f:=(by simpa using h);rw[z i f g];have b:i<xs.length:=by rw[a];have:=(aei.1 h).1;simpa using this
  refine⟨xs[i],aeF b,λm s=>e m ?_⟩;simp only[DataW.weights,o];refine DataW.weights_mem_each (j:=i) (t:=f.type) (d:=xs[i].1) ?_ ?_ m s;rw[ae8,h];rfl;rw[ae8,aeF b];rfl
 exact⟨y,u,by simpa using v⟩
def XZ(P:Program)(ts:List TypeId){X:Type}(ec:X->List AV)(ok:X->Prop):Prop :=
 ∀(H:Type) (enc:TypeId×Value->H) (w:World) (base:Nat) (vs:List Value) (ds:List (DataW H)) (ps:List MemPlace),
  (∀(j:Nat) t v,ts[j]?=some t->vs[j]?=some v->Value.okWide P w .any base t v) ->
  DataW.TrodAll enc P w 0 (λ_=>true) true ts vs ds ps->(∀n∈DataW.weightsEach P ts ds,n<=reachBytes)->∃y,ok y/\VRL (yA w) (ec y) vs
theorem YM :XZ P [] (λ_:Unit=>[]) (λ_=>True):=λH enc w base vs ds ps _ h _=>by obtain⟨rfl,_,_⟩:=trodAll_nil h;exact⟨(),trivial,by simp[VRL]⟩
theorem SZ{ts:List TypeId}{a:X->AV}{ok:X->Prop}{g:Y->List AV}{k:Y->Prop}(A:iV P t=some false)(h:RdZ P t (λy=>[a y]) ok)(r:XZ P ts g k):
  XZ P (t::ts) (λy:X×Y=>a y.1::g y.2) (λy=>ok y.1/\k y.2):=λH enc w base vs ds ps i B c=>by
 obtain⟨v,l,d,o,p,q,rfl,rfl,rfl,m,C⟩:=trodAll_cons B;obtain⟨f,m⟩:=m;obtain⟨y,D,h4⟩:=h H enc w f _ _ m (λn s=>c n (by rw[DataW.weightsEach];exact afp _ s));obtain⟨z,E,u⟩:=r H enc w base l o q (λj t v a b=>i (j+1) t v a b) C (λn s=>c n (by rw[DataW.weightsEach];exact afG _ s));refine⟨(y,z),⟨D,E⟩,?_⟩;rw[UJ A (i 0 t v rfl rfl)]at h4;simp only[VRL]at h4⊢;obtain⟨x,xs,e,F,_⟩:=h4;cases e;exact⟨v,l,rfl,F,u⟩
open Go Go.ChangeShapes Go.WideShapes Go.ChangeAt
theorem RdZ.map{d:X->List AV}{ok:X->Prop}{a:Y->List AV}{c:Y->Prop}(h:RdZ P t d ok)(m:∀y,ok y->∃z,c z/\a z=d y):RdZ P t a c:=λH enc w b cs x e g=>by obtain⟨y,f,i⟩:=h H enc w b cs x e g;obtain⟨z,j,h4⟩:=m y f;exact⟨z,j,by rw[h4];exact i⟩
theorem YN{ts:List TypeId}{x:X->List AV}{ok:X->Prop}{f:Y->List AV}{i:Y->Prop}(l:iV P t=some true)(h:RdZ P t x ok)(r:XZ P ts f i):
  XZ P (t::ts) (λy:X×Y=>.agg (x y.1)::f y.2) (λy=>ok y.1/\i y.2):=λH enc w base vs ds ps g B c=>by
 obtain⟨v,k,d,s,p,q,rfl,rfl,rfl,o,C⟩:=trodAll_cons B;obtain⟨e,o⟩:=o;obtain⟨y,D,h4⟩:=h H enc w e _ _ o (λn u=>c n (by rw[DataW.weightsEach];exact afp _ u));obtain⟨z,E,A⟩:=r H enc w base k s q (λj t v a b=>g (j+1) t v a b) C (λn u=>c n (by rw[DataW.weightsEach];exact afG _ u));refine⟨(y,z),⟨D,E⟩,?_⟩;have m:=g 0 t v rfl rfl;unfold iV at l;have:∃cs,v=.agg cs:=by
  unfold Value.okWide at m;split at l
  all_goals rename_i F;rw[F]at m
  obtain⟨cs,h,_⟩:=m;exact⟨cs,h⟩;obtain⟨cs,h,_⟩:=m;exact⟨cs,h⟩;cases l;cases l
 obtain⟨cs,rfl⟩:=this;simp only[VRL];refine⟨_,k,rfl,?_,A⟩;simp only[VR];exact⟨cs.toList,rfl,by simpa[Value.cells]using h4⟩
theorem Zw{m:Nat->Nat->Option Value}:(∀p∈([]:List (Nat×List AV)),VRC ⟨m,λ_=>none,λ_=>none⟩ p.2 p.1 0/\∃cs ty fr,w.heap[p.1]?=some (.cells cs ty fr)/\cs.size=p.2.length):=λ_ h=>by cases h
theorem Ru{m:Nat->Nat->Option Value}{r:List (Nat×List AV)}(h:VRC ⟨m,λ_=>none,λ_=>none⟩ l g 0/\∃cs ty fr,w.heap[g]?=some (.cells cs ty fr)/\cs.size=l.length)(hr:∀p∈r,VRC ⟨m,λ_=>none,λ_=>none⟩ p.2 p.1 0/\∃cs ty fr,w.heap[p.1]?=some (.cells cs ty fr)/\cs.size=p.2.length):
  ∀p∈(g,l)::r,VRC ⟨m,λ_=>none,λ_=>none⟩ p.2 p.1 0/\∃cs ty fr,w.heap[p.1]?=some (.cells cs ty fr)/\cs.size=p.2.length:=λp a=>by
 rcases aeJ.1 a with rfl|a;exact h;exact hr p a
theorem Xy(b:∀g∈OR,∃z,(yA w).mem g 0=some (.int .i64 z))(h:∀p∈GS,VRC ⟨(yA w).mem,λ_=>none,λ_=>none⟩ p.2 p.1 0/\∃cs ty fr,w.heap[p.1]?=some (.cells cs ty fr)/\cs.size=p.2.length):sK (yA w).mem/\vK w :=
 ⟨⟨λp a=>(h p a).1,b⟩,λp a _=>(h p a).2⟩
open Go Go.Lib
theorem To(h:W.ShapedOpen Tryz.prog):∀g∈OR,∃z,(yA W).mem g 0=some (.int .i64 z):=λg a=>by simp only[OR,aeG]at a;subst a;obtain⟨m,b⟩:=cell_of_shapedOpen_int (zero:=#[.int .i64 0]) (t:=3) h (of_decide_eq_true ahf) ahf ahf ahf ahf Tryz.underlying3;exact⟨m,by simpa[yA]using b⟩
theorem abK{enc:TypeId×Value->H}{base:Nat}{sp:Nat->Bool}{b:Bool}{a:Nat}{cs:List Value}{x:DataW H×List MemPlace}(c:P.underlying t=some (.array n e))(h:DataW.trod enc P w base sp b a t cs=some x):cs.length=P.cellsOf t:=by
 cases a with
 |zero=>simp[DataW.trod]at h
 | succ a =>
   simp only[DataW.trod,c]at h;split at h
   .assumption
   .cases h
theorem Pd{b:String}{d:DataW Unit}(h:VarReads P W b d)(k:P.globalNamed b=some g)(j:(P.globals[g]?).map (·.type)=some t)(o:P.underlying t=some (.array n e)):
  ∃cs ty fr,W.heap[g]?=some (.cells cs ty fr)/\cs.size=P.cellsOf t:=by
 obtain⟨r,t',cs,l,p,f,c,a,hd⟩:=h;obtain rfl:=Option.some.inj (k.symm.trans f);obtain rfl:=Option.some.inj (j.symm.trans c);have q:=abK o hd;simp only[World.var?,k,afO]at a;split at a;rename_i i ty fr m;exact⟨i,ty,fr,m,by rw[Option.some.inj a];simpa using q⟩;cases a
def Yf:Go.Shelf.Ren:=⟨λx=>x,λn=>if n=5 then 5 else if n=119 then 262 else if n=138 then 264 else 265,λn=>if n=3 then 0 else 1⟩
theorem qE:U8Extra Tryz.prog Yf:={n3:=ahf,n4:=ahf,y3:=ahf,y4:=ahf,c5:=ahf,c119:=ahf,c138:=by kernel_rfl}
theorem JK:U8Types Tryz.prog Yf:={t5:=ahf,t119:=ahf,t138:=ahf,t139:=by kernel_rfl}
theorem SA(h:∀i a,l[i]?=some a->∃k z,a=.int k z/\W.cell? ⟨g,i,none⟩=some (.int k z)):VRC ⟨(yA W).mem,λ_=>none,λ_=>none⟩ l g 0 :=
 VRC.of_get λi a b=>by obtain⟨k,z,rfl,c⟩:=h i a b;exact⟨.int k z,by simpa[yA]using c,by simp[VR]⟩
theorem ZC(f:VarReads Tryz.prog W "unicode/utf8.first" firstData)(h4:VarReads Tryz.prog W "unicode/utf8.acceptRanges" acceptData)(l:List AV)(g:yO 0=some l):
  VRC ⟨(yA W).mem,λ_=>none,λ_=>none⟩ l 0 0/\∃cs ty fr,W.heap[0]?=some (.cells cs ty fr)/\cs.size=l.length:=by
 have n:=utf8Tabs_of_readsT JK qE f h4;have e:yO 0=some ((List.range 256).map λc=>AV.int .u8 (Lib.firstT c:Int)):=ahf;rw[e]at g;obtain rfl:=Option.some.inj g;refine⟨SA λi a d=>?_,?_⟩;simp only[ae8,aeK]at d;obtain⟨c,h,rfl⟩:=d;have m:i<256:=by have:=(aei.1 h).1;simpa using this
 have b:c=i:=by have:=(aei.1 h).2;simpa using this.symm
 subst b;exact⟨_,_,rfl,n.1 c m⟩;obtain⟨cs,ty,fr,j,k⟩:=Pd f qE.n3 qE.y3 JK.t119;exact⟨cs,ty,fr,j,by rw[k,qE.c119];simp⟩
theorem Z7:∀(n:Nat) (i:Nat) (a:AV),((List.range n).flatMap λi=>[AV.int .u8 (Lib.accLo i:Int),AV.int .u8 (Lib.accHi i:Int)])[i]?=some a->∃j,j<n/\((i=2*j/\a=.int .u8 (Lib.accLo j:Int))\/(i=2*j+1/\a=.int .u8 (Lib.accHi j:Int)))
 |0,i,a,h=>by simp at h
 | n+1,i,a,h=>by
   have b:∀n:Nat,((List.range n).flatMap λi=>[AV.int .u8 (Lib.accLo i:Int),AV.int .u8 (Lib.accHi i:Int)]).length=2*n:=λn=>by
    induction n with
    |zero=>simp
    |succ n ih=>rw[List.range_succ,List.flatMap_append,aez,ih];simp;omega
   rw[List.range_succ,List.flatMap_append]at h;rcases aeN i (2*n)with c|c
   .rw[aem (by rw[b];exact c)]at h;obtain⟨j,e,d⟩:=Z7 n i a h;exact⟨j,ahd,d⟩
   .rw[aey (by rw[b];exact c),b]at h;refine⟨n,ahd,?_⟩;rcases hk:i-2*n with _|_|k
    .rw[hk]at h;simp at h;exact .inl ⟨ahd,h.symm⟩
    .rw[hk]at h;simp at h;exact .inr ⟨ahd,h.symm⟩
    .rw[hk]at h;simp at h
theorem adb(k:VarReads Tryz.prog W "unicode/utf8.first" firstData)(h4:VarReads Tryz.prog W "unicode/utf8.acceptRanges" acceptData)(l:List AV)(b:yO 1=some l):
  VRC ⟨(yA W).mem,λ_=>none,λ_=>none⟩ l 1 0/\∃cs ty fr,W.heap[1]?=some (.cells cs ty fr)/\cs.size=l.length:=by
 have d:=utf8Tabs_of_readsT JK qE k h4;have e:yO 1=some ((List.range 16).flatMap λi=>[AV.int .u8 (Lib.accLo i:Int),AV.int .u8 (Lib.accHi i:Int)]):=ahf;rw[e]at b;obtain rfl:=Option.some.inj b;refine⟨SA λi a f=>?_,?_⟩;obtain⟨j,c,⟨rfl,rfl⟩|⟨rfl,rfl⟩⟩:=Z7 16 i a f;exact⟨_,_,rfl,(d.2 j c).1⟩;exact⟨_,_,rfl,(d.2 j c).2⟩;obtain⟨cs,ty,fr,g,h⟩:=Pd h4 qE.n4 qE.y4 JK.t139;exact⟨cs,ty,fr,g,by rw[h,show Tryz.prog.cellsOf (Yf.t 139)=32 by kernel_rfl];rfl⟩
end Go.Proofs.YtajkbcmleihaoaaGreatDoor.Av
