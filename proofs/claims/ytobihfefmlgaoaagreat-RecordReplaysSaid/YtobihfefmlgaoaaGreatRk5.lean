/- Joined texts of the walk, made small by a program. -/
import Derived.Test.YtobihfefmlgaoaaGreatRk4
import Derived.Sort.Grow
import Derived.Deep.Draws
import Derived.Lib.LaidTab
import Derived.WalkKit
import Derived.ProofKit
import Derived.OpenShut
import Derived.JoinedCond
import Derived.SizedLaws
import Derived.Test.YtobihfefmlgaoaaGreatRows
import Derived.KernelRfl
set_option linter.unusedSimpArgs false
set_option linter.unusedVariables false
namespace Go.Proofs.YtobihfefmlgaoaaGreat.Av
open Go
structure Vc (w w':World):Prop where
 heap:∀ b,b<w.heap.size->w'.heap[b]?=w.heap[b]?
 size:w.heap.size<=w'.heap.size
 os:w'.os=w.os
 tape:w'.tape=w.tape
 output:w'.output=w.output
theorem Vc.refl (w:World):Vc w w:=⟨fun _ _=>rfl,ahn _,rfl,rfl,rfl⟩
theorem Rel.grown {w0:World} {S0:SB} {E:Env} {L:List Blk} {w w':World} (h:Rel w0 S0 E L w) (g:Vc w w'):Rel w0 S0 E L w':=by
 refine ⟨fun b o v hv=>?_,fun i k hk=>?_,h.fresh,h.own,h.inj,h.tkfresh,h.tkown,h.tkloc,h.tkinj,fun k hk hs=>?_,ahV h.size g.size,g.os.trans h.os,g.tape.trans h.tape,g.output.trans h.output,h.glob,
  h.gsz.mod fun b cs ty fr hb=>⟨cs,ty,fr,by rw [g.heap b (ah4.1 hb).1];exact hb,rfl⟩⟩
 ·have:=h.mem b o v hv;simp only [World.cell?] at this ⊢;rw [g.heap b (h.mem_lt hv)];exact this
 ·cases hl:k.live
  ·refine bh.still hl rfl (fun t c n sz e ht hc=>?_) (h.blk i k hk);subst e;exact g.heap _ (h.tok_lt hk ht hc)
  ·exact bh.worldL hl (fun c hc=>g.heap _ (h.loc_lt hk hl hc)) (h.blk i k hk)
 ·rw [g.heap k (aiF hk h.size)];exact h.frame k hk hs
theorem mL {P:Program} {f:FuncId} {fn:Func} (hf:P.funcs[f]?=some fn) (hb:fn.body.isSome=true) (hn:(fn.name == "runtime.NumGoroutine")=false) {args:List AV} {L:List Blk} {K:AV->List Blk->Prop} {r:AV}
  (hc:∀ (w0:World) (S0:SB) (E:Env) (w:World) (vs:List Value),Rel w0 S0 E L w->VRL E args vs->Calls P f ⟨vs⟩ w fun e w'=>∃ v,e=.returned v/\VR E r v/\Vc w w') (hk:K r L):ae P f args L K:=fun w0 S0 E w vs hR hv=>by
 refine .inl ⟨?_,(hc w0 S0 E w vs hR hv).mono fun e w' ⟨v,h1,h2,h3⟩=>⟨E,v,r,L,h1,.refl E,hk,h2,hR.grown h3⟩⟩;simp only [callFunc,ahv,run_program,ahw,hf,hn];cases h:fn.body with
 | none=>simp [h] at hb
 | some c=>simp
theorem adL {P:Program} {N:Nat} {own:Nat->Nat->Nat} {Q:Exit->Tm->List Blk->Prop} {T:Tm} {L X:List Blk} {lc:bc} (t sz k:Nat) (hk:X.length=k) {l:List AV} {n:Nat} (h1:az T t=some (.sl l n (some n))) (h2:l.length=n * sz) (h:AW P N own lc Q ((t,.gsl l n (L.length+k) sz)::T) (L++(X++[.spare n sz]))):AW P N own lc Q T (L++X):=by
 refine bi t sz h1 h2 ?_;rw [ahy,hk,ahz];exact h
theorem Rel.reblk {w0:World} {S0:SB} {E:Env} {L:List Blk} {w:World} (h:Rel w0 S0 E L w) {i:Nat} {c c':List AV} (hL:L[i]?=some (.cells c)) (hlen:c'.length=c.length)
  (hv:∀ (j:Nat) (a':AV),c'[j]?=some a'->∃ a,c[j]?=some a/\∀ v,VR E a v->VR E a' v):Rel w0 S0 E (L.set i (.cells c')) w:=by
 have hi:i<L.length:=(ahm.1 hL).1;have fix:∀ (j:Nat) (k:Blk),(L.set i (.cells c'))[j]?=some k->k.live=true->∃ k',L[j]?=some k'/\k'.live=true:=fun j k hk hl=>by
  rw [ahU] at hk;split at hk
  ·rename_i e;subst e;exact ⟨_,hL,rfl⟩
  ·exact ⟨k,hk,hl⟩
 have fixs:∀ (j n sz:Nat),(L.set i (.cells c'))[j]?=some (.spare n sz)->L[j]?=some (.spare n sz):=fun j n sz hk=>by
  rw [ahU] at hk;split at hk
  ·cases hk
  ·exact hk
 refine ⟨h.mem,fun j k hk=>?_,fun i hi=>h.fresh i (by simpa using hi),fun i k c hk hl hc=>?_,fun i j k k' c c' hi li hj lj=>?_,
  fun i hi=>h.tkfresh i (by simpa using hi),fun i n sz t d hi=>h.tkown i n sz t d (fixs i n sz hi),fun i n sz t d j k' c' hi ht hd hj hl=>?_,
  fun i n sz t d i' n' sz' t' d' hi ht hd hi'=>h.tkinj i n sz t d i' n' sz' t' d' (fixs i n sz hi) ht hd (fixs i' n' sz' hi'),h.frame,h.size,h.os,h.tape,h.output,h.glob,h.gsz⟩
 ·rw [ahU] at hk;split at hk
  ·rename_i e;subst e
   cases hk;obtain ⟨cl,cs,ty,fr,g1,g2,g3,g4,g5,g6⟩:=h.blk _ _ hL;refine ⟨cl,cs,ty,fr,g1,g2,g3,by rw [hlen];exact g4,fun j a ha=>?_,g6⟩;obtain ⟨b,hb,hbv⟩:=hv j a ha;obtain ⟨v,h1,h2⟩:=g5 j b hb;exact ⟨v,h1,hbv v h2⟩
  ·exact h.blk j k hk
 ·obtain ⟨k',h1,h2⟩:=fix i k hk hl;exact h.own i k' c h1 h2 hc
 ·obtain ⟨k1,h1,h2⟩:=fix i k hi li;obtain ⟨k2,h3,h4⟩:=fix j k' hj lj;exact h.inj i j k1 k2 c c' h1 h2 h3 h4
 ·obtain ⟨k1,h1,h2⟩:=fix j k' hj hl;exact h.tkloc i n sz t d j k1 c' (fixs i n sz hi) ht hd h1 h2
theorem VR.grow {E:Env} {l:List AV} {n i sz:Nat} {v:Value} (ht:E.tok i=some ⟨n,sz,none⟩) (h2:l.length=n * sz) (h:VR E (.sl l n (some n)) v):VR E (.gsl l n i sz) v:=by
 simp only [VR] at h ⊢;obtain ⟨p,c',q1,q2,q3,q4⟩:=h;exact ⟨p,c',q1,q2,h2,q4,⟨n,sz,none⟩,ht,ahn _,fun _=>⟨rfl,fun _=>q3 n rfl,by simp⟩⟩
theorem lF {P:Program} {N:Nat} {own:Nat->Nat->Nat} {Q:Exit->Tm->List Blk->Prop} {T:Tm} {L:List Blk} {lc:bc} (i j sz:Nat) {c l:List AV} {n:Nat} (hL:L[i]?=some (.cells c)) (hj:c[j]?=some (.sl l n (some n))) (h2:l.length=n * sz)
  (h:AW P N own lc Q T (L.set i (.cells (c.set j (.gsl l n L.length sz)))++[.spare n sz])):AW P N own lc Q T L:=fun cd hc r hr w0 S0 E a w hst=>by
 obtain ⟨r1,r2⟩:=hst.1.addtok (n:=n) (sz:=sz) (lc:=none) Rn;have hi:i<L.length:=(ahm.1 hL).1;have hL':(L++[Blk.spare n sz])[i]?=some (.cells c):=by rw [ahq hi];exact hL
 have r3:=r2.reblk hL' (c':=c.set j (.gsl l n L.length sz)) (by simp) fun k a' ha=>by
  rw [ahU] at ha;split at ha
  ·rename_i e;subst e
   split at ha
   ·cases ha;exact ⟨_,hj,fun v hv=>VR.grow (by simp) h2 hv⟩
   ·cases ha
  ·exact ⟨a',ha,fun v hv=>hv⟩
 rw [aiK _ _ hi] at r3;exact wpIn_mono (h cd hc r hr w0 S0 _ a w ⟨r3,hst.2.1.mono r1,hst.2.2⟩) fun e a' w' ⟨w1,S1,E',T1,L1,b,k1,k2,k3⟩=>⟨w1,S1,E',T1,L1,b,r1.trans k1,k2,k3⟩
theorem sk {A B:Prop} (h:B) (e:Hid B->A:=by
 intro hB_;simp only [Kon,push_cast,reduceIte,Nat.reduceEqDiff,Nat.reduceAdd,Nat.reduceMul,Nat.reduceSub,Nat.reduceLT,Nat.reduceLeDiff,Int.reduceLT,Int.reduceLE,Int.reduceAdd,Int.reduceSub,Int.reduceNeg,Int.reduceToNat,Int.reduceEq,reduceCtorEq, *];exact hB_.out):A:=e (hid h)
theorem sm {A B:Prop} (h:B) (e:Hid B->A:=by
 intro hB_;simp (config:={ maxSteps:=2000000 }) only [Kon,push_cast,reduceIte,Nat.reduceEqDiff,Nat.reduceAdd,Nat.reduceMul,Nat.reduceSub,Nat.reduceLT,Nat.reduceLeDiff,Int.reduceLT,Int.reduceLE,Int.reduceAdd,Int.reduceSub,Int.reduceNeg,Int.reduceToNat,Int.reduceEq,reduceCtorEq, *];exact hB_.out):A:=e (hid h)
theorem sl {A B:Prop} (h:B) (e:Hid B->A:=by
 intro hB_;simp only [push_cast,reduceIte,Nat.reduceEqDiff,Nat.reduceAdd,Nat.reduceMul,Nat.reduceSub,Nat.reduceLT,Nat.reduceLeDiff,Int.reduceLT,Int.reduceLE,Int.reduceAdd,Int.reduceSub,Int.reduceNeg,Int.reduceToNat,Int.reduceEq,reduceCtorEq, *];exact hB_.out):A:=e (hid h)
theorem wk {A B:Prop} (h:B) (e:Hid B->A:=by
 intro hB_
 repeat' first
  | refine cP ?_
  | (first|refine bY (by kernel_rfl) ?_|refine bj (by kernel_rfl) ?_|refine bm ?_|refine fy ?_|refine cT (fun _=>?_)|refine a8 ?_|refine b9 ?_|refine kk1.out _ _ ?_|refine kk1.out ?_|refine kk2.out _ _ ?_|refine kk2.out ?_|refine kk3.out _ _ ?_|refine kk3.out ?_|refine kk4.out _ _ ?_|refine kk4.out ?_|refine kk5.out _ _ ?_|refine kk5.out ?_|refine kk6.out _ _ ?_|refine kk6.out ?_|refine kk7.out _ _ ?_|refine kk7.out ?_|refine cA (kk1.out _ _ ⟨rfl,rfl⟩) (kk1.out _ _ ⟨rfl,rfl⟩) ?_|refine cA (kk1.out ⟨rfl,rfl⟩) (kk1.out ⟨rfl,rfl⟩) ?_|refine cA (kk2.out _ _ ⟨rfl,rfl⟩) (kk2.out _ _ ⟨rfl,rfl⟩) ?_|refine cA (kk2.out ⟨rfl,rfl⟩) (kk2.out ⟨rfl,rfl⟩) ?_|refine bf (kk1.out _ _ ⟨rfl,rfl⟩) ?_|refine bf (kk1.out ⟨rfl,rfl⟩) ?_|refine bf (kk2.out _ _ ⟨rfl,rfl⟩) ?_|refine bf (kk2.out ⟨rfl,rfl⟩) ?_|refine bf (kk3.out _ _ ⟨rfl,rfl⟩) ?_|refine bf (kk3.out ⟨rfl,rfl⟩) ?_|refine bf (kk4.out _ _ ⟨rfl,rfl⟩) ?_|refine bf (kk4.out ⟨rfl,rfl⟩) ?_|refine bf (kk5.out _ _ ⟨rfl,rfl⟩) ?_|refine bf (kk5.out ⟨rfl,rfl⟩) ?_|refine bf (kk6.out _ _ ⟨rfl,rfl⟩) ?_|refine bf (kk6.out ⟨rfl,rfl⟩) ?_|refine bf (kk7.out _ _ ⟨rfl,rfl⟩) ?_|refine bf (kk7.out ⟨rfl,rfl⟩) ?_)
    simp (config:={ maxSteps:=2000000 }) only [Kon,push_cast,reduceIte,Nat.reduceEqDiff,Nat.reduceAdd,Nat.reduceMul,Nat.reduceSub,Nat.reduceLT,Nat.reduceLeDiff,Int.reduceLT,Int.reduceLE,Int.reduceAdd,Int.reduceSub,Int.reduceNeg,Int.reduceToNat,Int.reduceEq,reduceCtorEq, *]
  | (first|refine bU (by kernel_rfl) ?_|refine bT ?_|refine bZ ?_|refine cY (a7 ?_))
    simp only [push_cast,reduceIte,Nat.reduceEqDiff,Nat.reduceAdd,Nat.reduceMul,Nat.reduceSub,Nat.reduceLT,Nat.reduceLeDiff,Int.reduceLT,Int.reduceLE,Int.reduceAdd,Int.reduceSub,Int.reduceNeg,Int.reduceToNat,Int.reduceEq,reduceCtorEq, *]
  | exact cU
  | first|apply cV|apply bV|apply cW|apply bW|apply cX|apply bX
  | refine br ?_
  | first|refine bp rfl ?_|refine bq rfl ?_|refine aW rfl ?_ ?_
  | ((first|refine aV (fun _=>?_) (fun _=>?_)|refine a6 (fun _=>?_) (fun _=>?_))<;>try simp (config:={ maxSteps:=2000000 }) only [Kon,push_cast,reduceIte,Nat.reduceEqDiff,Nat.reduceAdd,Nat.reduceMul,Nat.reduceSub,Nat.reduceLT,Nat.reduceLeDiff,Int.reduceLT,Int.reduceLE,Int.reduceAdd,Int.reduceSub,Int.reduceNeg,Int.reduceToNat,Int.reduceEq,reduceCtorEq, *])
  | refine And.intro trivial ?_
  | refine And.intro (by omega) ?_
  | refine bA rfl (fun _=>?_) (fun _=>?_)
 exact hB_.out):A:=e (hid h)
theorem acg {P:Program} {own:Nat->Nat->Nat} {f:FuncId} {lf:aS} (h:aT P own f=some lf.raw) {args:List AV} {L:List Blk} {Q:AV->List Blk->Prop} {B:Prop} (b:B) (hl:Nat.ble args.length lf.ntmps=true:=by rfl) (e:Hid B->AW P lf.ntmps own lf.code (agv lf.res L Q) (ag 0 args) L:=by
 intro hB_;simp only [push_cast]
 repeat' first
  | refine cP ?_
  | (first|refine bY (by kernel_rfl) ?_|refine bj (by kernel_rfl) ?_|refine bm ?_|refine fy ?_|refine cT (fun _=>?_)|refine a8 ?_|refine b9 ?_|refine kk1.out _ _ ?_|refine kk1.out ?_|refine kk2.out _ _ ?_|refine kk2.out ?_|refine kk3.out _ _ ?_|refine kk3.out ?_|refine kk4.out _ _ ?_|refine kk4.out ?_|refine kk5.out _ _ ?_|refine kk5.out ?_|refine kk6.out _ _ ?_|refine kk6.out ?_|refine kk7.out _ _ ?_|refine kk7.out ?_|refine cA (kk1.out _ _ ⟨rfl,rfl⟩) (kk1.out _ _ ⟨rfl,rfl⟩) ?_|refine cA (kk1.out ⟨rfl,rfl⟩) (kk1.out ⟨rfl,rfl⟩) ?_|refine cA (kk2.out _ _ ⟨rfl,rfl⟩) (kk2.out _ _ ⟨rfl,rfl⟩) ?_|refine cA (kk2.out ⟨rfl,rfl⟩) (kk2.out ⟨rfl,rfl⟩) ?_|refine bf (kk1.out _ _ ⟨rfl,rfl⟩) ?_|refine bf (kk1.out ⟨rfl,rfl⟩) ?_|refine bf (kk2.out _ _ ⟨rfl,rfl⟩) ?_|refine bf (kk2.out ⟨rfl,rfl⟩) ?_|refine bf (kk3.out _ _ ⟨rfl,rfl⟩) ?_|refine bf (kk3.out ⟨rfl,rfl⟩) ?_|refine bf (kk4.out _ _ ⟨rfl,rfl⟩) ?_|refine bf (kk4.out ⟨rfl,rfl⟩) ?_|refine bf (kk5.out _ _ ⟨rfl,rfl⟩) ?_|refine bf (kk5.out ⟨rfl,rfl⟩) ?_|refine bf (kk6.out _ _ ⟨rfl,rfl⟩) ?_|refine bf (kk6.out ⟨rfl,rfl⟩) ?_|refine bf (kk7.out _ _ ⟨rfl,rfl⟩) ?_|refine bf (kk7.out ⟨rfl,rfl⟩) ?_)
    simp (config:={ maxSteps:=2000000 }) only [Kon,push_cast,reduceIte,Nat.reduceEqDiff,Nat.reduceAdd,Nat.reduceMul,Nat.reduceSub,Nat.reduceLT,Nat.reduceLeDiff,Int.reduceLT,Int.reduceLE,Int.reduceAdd,Int.reduceSub,Int.reduceNeg,Int.reduceToNat,Int.reduceEq,reduceCtorEq, *]
  | (first|refine bU (by kernel_rfl) ?_|refine bT ?_|refine bZ ?_|refine cY (a7 ?_))
    simp only [push_cast,reduceIte,Nat.reduceEqDiff,Nat.reduceAdd,Nat.reduceMul,Nat.reduceSub,Nat.reduceLT,Nat.reduceLeDiff,Int.reduceLT,Int.reduceLE,Int.reduceAdd,Int.reduceSub,Int.reduceNeg,Int.reduceToNat,Int.reduceEq,reduceCtorEq, *]
  | exact cU
  | first|apply cV|apply bV|apply cW|apply bW|apply cX|apply bX
  | refine br ?_
  | first|refine bp rfl ?_|refine bq rfl ?_|refine aW rfl ?_ ?_
  | ((first|refine aV (fun _=>?_) (fun _=>?_)|refine a6 (fun _=>?_) (fun _=>?_))<;>try simp (config:={ maxSteps:=2000000 }) only [Kon,push_cast,reduceIte,Nat.reduceEqDiff,Nat.reduceAdd,Nat.reduceMul,Nat.reduceSub,Nat.reduceLT,Nat.reduceLeDiff,Int.reduceLT,Int.reduceLE,Int.reduceAdd,Int.reduceSub,Int.reduceNeg,Int.reduceToNat,Int.reduceEq,reduceCtorEq, *])
  | refine And.intro trivial ?_
  | refine And.intro (by omega) ?_
  | refine bA rfl (fun _=>?_) (fun _=>?_)
 exact hB_.out):ae P f args L Q:=aa h (Nat.le_of_ble_eq_true hl) (e (hid b))
attribute [push_cast] ag
open Go Go.ChangeShapes Go.WideShapes Go.ChangeAt Go.RowKit
def Vd (w:World):Env:={ mem:=fun b o=>w.cell? ⟨b,o,none⟩,loc:=fun _=>none,tok:=fun _=>none }
theorem Rel.start (w:World) (hg:zx (Vd w).mem/\GS w):Rel w ⟨fun _=>False,0⟩ (Vd w) [] w where
 mem _ _ _ h:=h
 blk _ _ h:=by simp at h
 fresh _ _:=rfl
 own _ _ _ h:=by simp at h
 inj _ _ _ _ _ _ h:=by simp at h
 tkfresh _ _:=rfl
 tkown _ _ _ _ _ h:=by simp at h
 tkloc _ _ _ _ _ _ _ _ h:=by simp at h
 tkinj _ _ _ _ _ _ _ _ _ _ h:=by simp at h
 frame _ _ _:=rfl
 size:=ahn _
 os:=rfl
 tape:=rfl
 output:=rfl
 glob:=hg.1
 gsz:=hg.2
def Rd (P:Program) (t:TypeId) {X:Type} (ec:X->List AV) (ok:X->Prop):Prop :=
 ∀ (H:Type) (enc:TypeId×Value->H) (w:World) (fuel:Nat) (cs:List Value) (x:DataW H×List MemPlace),
  DataW.trod enc P w 0 (fun _=>true) true fuel t cs=some x->∃ y,ok y/\VRL (Vd w) (ec y) cs
theorem Rd.map {P:Program} {t:TypeId} {X Y:Type} {ec:X->List AV} {ok:X->Prop} {ec':Y->List AV} {ok':Y->Prop} (h:Rd P t ec ok) (m:∀ y,ok y->∃ z,ok' z/\ec' z=ec y):Rd P t ec' ok':=fun H enc w fuel cs x hx=>by
 obtain ⟨y,h1,h2⟩:=h H enc w fuel cs x hx;obtain ⟨z,h3,h4⟩:=m y h1;exact ⟨z,h3,by rw [h4];exact h2⟩
theorem afJ {P:Program} {t:TypeId} {k:IntKind} (ht:P.underlying t=some (.int k)):Rd P t (fun n:Int=>[.int k n]) (fun n=>k.min<=n/\n<=k.max):=fun H enc w fuel cs x hx=>by
 obtain ⟨n,rfl,_,hw⟩:=DataW.trod_int ht hx;simp only [Lit.wf,aht,decide_eq_true_eq] at hw;exact ⟨n,hw,by simp [VRL,VR]⟩
theorem aal {E:Env}:∀ {l m:List AV} {b o:Nat},VRC E l b o->VRC E m b (o+l.length)->VRC E (l++m) b o
 | [],_,_,_,_,h=>by simpa using h
 | a::l,m,b,o,h,k=>by
   simp only [aig,VRC] at h ⊢;exact ⟨h.1,aal h.2 (by rw [show o+1+l.length=o+(l.length+1) by omega];exact k)⟩
theorem Vr {X:Type} (Q:Nat->X->Prop):∀ n,(∀ i,i<n->∃ y,Q i y)->∃ ys:List X,ys.length=n/\∀ i y,ys[i]?=some y->Q i y
 | 0,_=>⟨[],rfl,by simp⟩
 | n+1,h=>by
   obtain ⟨ys,h1,h2⟩:=Vr Q n fun i hi=>h i (by omega)
   obtain ⟨y,hy⟩:=h n (by omega);refine ⟨ys++[y],by simp [h1],fun i z hz=>?_⟩;rw [aiE] at hz;split at hz
   ·exact h2 i z hz
   ·have hi:i - ys.length=0:=by
     rcases aiA (i - ys.length) with e|e
     ·exact e
     ·rw [aiM (by simp;omega)] at hz;cases hz
    rw [hi] at hz;simp at hz;subst hz;rw [show i=n by omega];exact hy
theorem X9 {E:Env} {X:Type} {ec:X->List AV} {b sz:Nat}:∀ {ys:List X} {o:Nat},(∀ i y,ys[i]?=some y->(ec y).length=sz/\VRC E (ec y) b (o+i * sz))->VRC E (ys.flatMap ec) b o
 | [],_,_=>by simp [VRC]
 | y::ys,o,h=>by
   rw [ahY];have h0:=h 0 y rfl;refine aal (by simpa using h0.2) (X9 (sz:=sz) fun i z hz=>?_);have:=h (i+1) z hz;refine ⟨this.1,?_⟩;rw [h0.1,show o+sz+i * sz=o+(i+1) * sz by rw [aiu];omega];exact this.2
theorem Uw {w:World} {a:Addr} {n:Nat} {cs:List Value} (h:w.cells? 0 a n=some cs):cs.length=n/\∀ i,i<n->w.cell? (a.add i)=cs[i]?:=by
 simp only [World.cells?,ahp,if_true] at h;refine ⟨by simpa using mapM_some_length h,fun i hi=>?_⟩;exact mapM_some_get h i i (by simp [hi])
theorem abA {w:World} {a:Addr} {v:Value} (h:w.cell? a=some v):a.spot=none:=by
 rcases hs:a.spot with _|s
 ·rfl
 ·simp only [World.cell?,hs,Option.isSome_some,if_true] at h;split at h<;>cases h
theorem YL {P:Program} {w:World} {base:Nat} {t:TypeId} {v:Value} (hg:ln P t=some false) (h:Value.okWide P w .any base t v):v.cells.toList=[v]:=by
 unfold ln at hg;unfold Value.okWide at h;split at hg
 ·cases hg
 ·cases hg
 ·rename_i d h1 h2 hu
  rw [hu] at h;split at h
  ·rename_i e;cases e;exact absurd rfl (h1 _)
  ·rename_i e;cases e;exact absurd rfl (h2 _ _)
  ·cases v<;>try rfl
   rename_i cs
   unfold Cell.okWide at h;split at h<;>try (rename_i e1 e2;cases e2)
   unfold Cell.ok at h;split at h<;>first|(rename_i e1 e2;cases e2;done)|cases h
 ·cases hg
theorem Xj {H:Type} {enc:TypeId×Value->H} {P:Program} {f:Func} {s:ChangeSpec} {apart fresh handsOn again:Bool} {W W':World} {args:Array Value} {v:Value} {ds gs:List (DataW H)} {before pa pv:List MemPlace}
  (hW:DataW.Whole enc P f.params.toList s.vars apart W args.toList ds gs before)
  (hres:∀ (b:Nat) (sp:Nat->Bool) (hd:Bool),DataW.TrodAll enc P W' b sp hd f.resultTypes.toList (v.resultList f.resultTypes.size) (s.fn H (ds++gs)).results [])
  (hargs:∀ sp:Nat->Bool,(∀ p∈before,sp p.block=true)->DataW.TrodAll enc P W' 0 sp true f.params.toList args.toList (s.fn H (ds++gs)).args pa)
  (hvars:∀ sp:Nat->Bool,(∀ p∈before,sp p.block=true)->DataW.TrodVars enc P W' sp s.vars (s.fn H (ds++gs)).vars pv)
  (hps:before=pa++pv) (hk:W.keptBut W' (·∈before)) (hfz:∀ b o,b<W.heap.size->W'.frozen? ⟨b,o,none⟩=W.frozen? ⟨b,o,none⟩)
  (hok:∀ (j:Nat) (t:TypeId) (r:Value),f.resultTypes[j]?=some t->(v.resultList f.resultTypes.size)[j]?=some r->Value.okWide P W' .any 0 t r) :
  s.post enc P f apart fresh handsOn again W args v W':=by
 have hlt:=hW.lt;have hold:∀ p∈before,(fun b=>decide (b<W.heap.size)) p.block=true:=fun p hp=>by simpa using hlt p hp
 refine ⟨ds,gs,before,[],pa,pv,hW,hres _ _ _,hargs _ hold,hvars _ hold,World.keptBut_mono (fun p hp=>⟨hp,?_⟩) hk,fun _=>?_⟩
 ·rw [hps,ahr] at hp;exact Or.inr hp
 ·obtain ⟨_,_,_,_,_,hz,hn⟩:=hW;refine ⟨hok,_,_,([]++pa)++pv,⟨[]++pa,pv,trodAll_append (hargs _ (fun _ _=>rfl)) (hres _ _ _),hvars _ (fun _ _=>rfl),rfl,?_,?_⟩,?_⟩
  ·intro b off hp;have hp':MemPlace.cell b off∈before:=by rw [hps];simpa using hp
   rw [hfz b off (hlt _ hp')];exact hz b off hp'
  ·intro ha;have:=hn ha;rw [hps] at this;simpa using this
  ·intro p hp _;rw [hps];simpa using hp
def Tj (P:Program):Bool:=(List.range P.types.size).all fun t=>match P.underlying t with|some (.slice e)=>decide (0<P.cellsOf e)|_=>true
theorem Li {H:Type} {enc:TypeId×Value->H} {P:Program} {W W':World} (hlaid:laidOutB P=true) (hrow:mapsRowed P=true) (hfull:Tj P=true) :
  ∀ {ts:List TypeId} {vs:List Value} {ds:List (DataW H)} {ps:List MemPlace},(∀ t∈ts,t<P.types.size)->DataW.TrodAll enc P W 0 (fun _=>true) true ts vs ds ps->(∀ p∈ps,W.sameAt W' p) ->
  ∀ sp:Nat->Bool,(∀ p∈ps,sp p.block=true)->DataW.TrodAll enc P W' 0 sp true ts vs ds ps
 | [],_,_,_,_,h,_,_,_=>by
   obtain ⟨rfl,rfl,rfl⟩:=trodAll_nil h;exact trodAll_mk0
 | t::ts,_,_,_,hts,h,hs,sp,hsp=>by
   obtain ⟨v,vs',d,ds',p,q,rfl,rfl,rfl,h1,h2⟩:=trodAll_cons h;obtain ⟨fuel,h1⟩:=h1;refine trodAll_cons_mk ⟨fuel,DataW.trod_stays (kids_rows hlaid hrow) (fun {t e} ht hu=>?_) (fun e=>by cases e) (hts t (by simp)) h1 (fun r hr=>hs r (aih _ hr)) (fun r hr=>hsp r (aih _ hr))⟩
    (Li hlaid hrow hfull (fun u hu=>hts u (by simp [hu])) h2 (fun r hr=>hs r (aiI _ hr)) sp (fun r hr=>hsp r (aiI _ hr)))
   have:=ahC.1 hfull t (List.mem_range.2 ht);rw [hu] at this;simpa using this
theorem Tg {H:Type} {enc:TypeId×Value->H} {P:Program} {w:World} {base:Nat} {spare:Nat->Bool} {held:Bool}:∀ {ts:List TypeId} {vs:List Value} {ds:List (DataW H)} {ps:List MemPlace},DataW.TrodAll enc P w base spare held ts vs ds ps->ds.length=ts.length
 | [],_,_,_,h=>by obtain ⟨_,rfl,_⟩:=trodAll_nil h;rfl
 | t::ts,_,_,_,h=>by
   obtain ⟨v,vs',d,ds',p,q,rfl,rfl,rfl,_,h2⟩:=trodAll_cons h;simp [Tg h2]
theorem U0 {P:Program} {f:FuncId} {fn:Func} {s:ChangeSpec} {apart fresh handsOn again:Bool} {tb:TypeId} (hfn:P.funcs[f]?=some fn) (hbody:fn.body.isSome=true) (hname:(fn.name == "runtime.NumGoroutine")=false)
  (hlaid:laidOutB P=true) (hrow:mapsRowed P=true) (hfull:Tj P=true) (hts:fn.params.toList.all (fun t=>decide (t<P.types.size))=true) (hres:fn.resultTypes=#[tb]) (hb:P.underlying tb=some .bool) (hvars:s.vars=[])
  (hs:∀ (H:Type) (ds:List (DataW H)),ds.length=fn.params.toList.length->(s.fn H ds).results=[.lit (.bool true)]/\(s.fn H ds).args=ds/\(s.fn H ds).vars=[])
  {X:Type} {ec:X->List AV} {ok:X->Prop} (walk:∀ y,ok y->ae P f (ec y) [] fun av _=>av=.bool true)
  {H:Type} (enc:TypeId×Value->H) (W:World) (args:Array Value) (ds gs:List (DataW H)) (before:List MemPlace)
  (hA:∀ p,DataW.TrodAll enc P W 0 (fun _=>true) true fn.params.toList args.toList ds p->∃ y,ok y/\VRL (Vd W) (ec y) args.toList)
  (hW:DataW.Whole enc P fn.params.toList s.vars apart W args.toList ds gs before) (hglob:zx (Vd W).mem/\GS W) :
  Calls P f args W fun e W'=>∃ v,e=.returned v/\s.post enc P fn apart fresh handsOn again W args v W':=by
 have hW':=hW;have hlt:=hW.lt;obtain ⟨p,q,hA0,hV,rfl,hfz,hnd⟩:=hW;rw [hvars] at hV;obtain ⟨rfl,rfl⟩:=trodVars_none hV;obtain ⟨y,hy,hvr⟩:=hA p hA0;have hlen:=Tg hA0;obtain ⟨e1,e2,e3⟩:=hs H ds hlen;have hrun:(callFunc f args).run P W=.ok (.enter f args) W:=by
  simp only [callFunc,ahv,run_program,ahw,hfn,hname];cases hb:fn.body with
  | none=>simp [hb] at hbody
  | some c=>simp
 rcases walk y hy W ⟨fun _=>False,0⟩ (Vd W) W args.toList (Rel.start W hglob) hvr with ⟨_,h⟩|⟨_,_,_,_,_,h,_⟩
 ·refine h.mono fun e W' ⟨E',v,av,L',he,_,hav,hv,hR⟩=>?_
  subst hav;simp only [VR] at hv;subst hv;refine ⟨_,he,?_⟩;have hheap:∀ b,b<W.heap.size->W'.heap[b]?=W.heap[b]?:=fun b hb=>hR.frame b hb (fun h=>h)
  have hps:∀ r∈p,W.sameAt W' r:=fun r hr=>by
   have:=hlt r (by simpa using hr);cases r<;>simp only [World.sameAt,MemPlace.block] at this ⊢
   ·simp only [World.cell?];rw [hheap _ this]
   ·exact hheap _ this
  refine Xj (pa:=p) (pv:=[]) hW' (fun b sp hd=>?_) (fun sp hsp=>?_) (fun _ _=>?_) rfl ⟨hR.os,hR.output,fun i hi=>?_⟩ (fun b o hb=>?_) (fun j t r h1 h2=>?_)
  ·rw [ahO,e1,hres];exact trodAll_cons_mk (shut_bool hb _) trodAll_mk0
  ·rw [ahO,e2];exact Li hlaid hrow hfull (fun t ht=>by simpa using ahC.1 hts t ht) hA0 hps sp (fun r hr=>hsp r (by simpa using hr))
  ·rw [hvars,ahO,e3];rfl
  ·rw [hheap i hi];rcases hc:W.heap[i]? with _|o
   ·trivial
   ·cases o<;>simp
  ·simp only [World.frozen?];rw [hheap b hb]
  ·exact ok_one hres rfl (okWide_bool_mk hb _) j t r h1 h2
 ·rw [show (⟨args.toList⟩:Array Value)=args from rfl,hrun] at h;cases h
open Go Go.ChangeShapes Go.WideShapes Go.ChangeAt
set_option maxHeartbeats 8000000
set_option maxRecDepth 100000
def RdZ (P:Program) (t:TypeId) {X:Type} (ec:X->List AV) (ok:X->Prop):Prop :=
 ∀ (H:Type) (enc:TypeId×Value->H) (w:World) (fuel:Nat) (cs:List Value) (x:DataW H×List MemPlace),
  DataW.trod enc P w 0 (fun _=>true) true fuel t cs=some x->(∀ n∈x.1.weights P t,n<=reachBytes)->∃ y,ok y/\VRL (Vd w) (ec y) cs
theorem Rd.z {P:Program} {t:TypeId} {X:Type} {ec:X->List AV} {ok:X->Prop} (h:Rd P t ec ok):RdZ P t ec ok:=fun H enc w fuel cs x hx _=>h H enc w fuel cs x hx
theorem SY {P:Program} {t:TypeId} (ht:P.underlying t=some .string):RdZ P t (fun s:List UInt8=>[.str s]) (fun s=>s.length<=reachBytes):=fun H enc w fuel cs x hx hz=>by
 obtain ⟨s,rfl,rfl,hw⟩:=DataW.trod_string ht hx;exact ⟨s.data.toList,hz _ (by simp [DataW.weights]),by simp [VRL,VR]⟩
theorem GX {H:Type} {P:Program} {e:TypeId}:∀ {l:List (DataW H)} {d:DataW H},d∈l->∀ n∈d.weights P e,n∈DataW.weightsAll P e l
 | a::l,d,h,n,hn=>by
   rw [DataW.weightsAll];rcases ahR.1 h with rfl|h
   ·exact aih _ hn
   ·exact aiI _ (GX h n hn)
theorem uS {P:Program} {t e:TypeId} {X:Type} {ec:X->List AV} {ok:X->Prop} (ht:P.underlying t=some (.slice e)) (he:RdZ P e ec ok) (hz':decide (0<P.cellsOf e)=true) :
  RdZ P t (fun l:List X=>[.sl (l.flatMap ec) l.length none]) (fun l=>l.length<=maxLen/\∀ y∈l,ok y):=fun H enc w fuel cs x hx hwt=>by
 have hz:0<P.cellsOf e:=of_decide_eq_true hz';rcases DataW.trod_slice ht hx with ⟨rfl,_⟩|⟨a,len,cap,elems,rest,n,_,rfl,rfl,_,hlc,hcap,hel,hget,hsp,_⟩
 ·exact ⟨[],⟨by simp,by simp⟩,by simp only [VRL,VR];exact ⟨_,_,rfl,⟨none,0,rfl,ahn _,by simp,.inl ⟨rfl,rfl,rfl⟩⟩,rfl⟩⟩
 have hspot:cap≠0->a.spot=none:=fun hc=>by
  have first:∀ r:Option (DataW H×List MemPlace),r≠none->(w.cells? 0 (a.add (0 * P.cellsOf e)) (P.cellsOf e)).bind (DataW.trod enc P w 0 (fun _=>true) true n e)=r->a.spot=none:=fun r hr h1=>by
   obtain ⟨q,rfl⟩:=Option.ne_none_iff_exists'.1 hr;rw [aip] at h1;obtain ⟨cs',h2,_⟩:=h1;obtain ⟨h6,h7⟩:=Uw h2;have h8:=h7 0 hz;obtain ⟨v,hv⟩:∃ v,cs'[0]?=some v:=⟨cs'[0]'(by omega),ahB _⟩;rw [hv] at h8;have:=abA h8;simpa [Addr.add] using this
  by_cases hl:len=0
  ·obtain ⟨r1,r2⟩:=hsp rfl;exact first rest[0]? (by rw [ahB (by omega)];simp) (by simpa [hl] using r2 0 (by omega))
  ·exact first elems[0]? (by rw [ahB (by omega)];simp) (hget 0 (by omega))
 have each:∀ i,i<len->∃ y,ok y/\(ec y).length=P.cellsOf e/\a.spot=none/\VRC (Vd w) (ec y) a.block (a.off+i * P.cellsOf e):=fun i hi=>by
  have h1:=hget i hi;obtain ⟨q,hq⟩:∃ q,elems[i]?=some q:=⟨elems[i]'(by omega),ahB _⟩;rw [hq,aip] at h1;obtain ⟨cs',h2,h3⟩:=h1;obtain ⟨y,h4,h5⟩:=he H enc w n cs' q h3 (fun m hm=>hwt m (by
   simp only [DataW.weights,ht];refine ajo _ (aih _ (GX (d:=q.1) ?_ m hm));exact ahs.2 ⟨q,aiz hq,rfl⟩))
  obtain ⟨h6,h7⟩:=Uw h2;have hl:=h5.length;have hsp:a.spot=none:=hspot (by omega);refine ⟨y,h4,by omega,hsp,VRC.of_get fun j u hu=>?_⟩;obtain ⟨v,h8,h9⟩:=h5.get hu;refine ⟨v,?_,h9⟩;have hj:j<P.cellsOf e:=by
   have:=(ahm.1 hu).1;omega
  have h10:=h7 j hj;rw [h8] at h10;rw [<- h10];have hadd:∀ k,a.add k=⟨a.block,a.off+k,none⟩:=fun k=>by
   obtain ⟨b,o,s⟩:=a;simp only at hsp;subst hsp;exact Addr.add_mk b o k
  rw [hadd,Addr.add_mk];rfl
 obtain ⟨ys,h1,h2⟩:=Vr _ len each;refine ⟨ys,⟨by omega,fun y hy=>?_⟩,?_⟩
 ·obtain ⟨i,hi⟩:=akv hy;exact (h2 i y hi).1
 ·simp only [VRL];refine ⟨_,[],rfl,?_,rfl⟩;simp only [VR];refine ⟨_,_,by rw [h1],by omega,by simp,?_⟩;by_cases hc:cap=0
  ·have:ys=[]:=by
    have:ys.length=0:=by omega
    simpa using this
   subst this;exact .inl ⟨rfl,hc,rfl⟩
  ·refine .inr ⟨a.block,a.off,?_,X9 fun i y hy=>⟨(h2 i y hy).2.1,(h2 i y hy).2.2.2⟩⟩;have hs:a.spot=none:=hspot hc;cases a;simp only at hs ⊢;rw [hs]
theorem uO {H:Type} {P:Program} {us:List TypeId} {gs:List (DataW H)} {n:Nat}:∀ {ts:List TypeId} {ds:List (DataW H)},n∈DataW.weightsEach P ts ds->n∈DataW.weightsEach P (ts++us) (ds++gs)
 | [],_,h=>by simp [DataW.weightsEach] at h
 | _::_,[],h=>by simp [DataW.weightsEach] at h
 | t::ts,d::ds,h=>by
   simp only [aig,DataW.weightsEach,ahr] at h ⊢;rcases h with h|h
   ·exact .inl h
   ·exact .inr (uO h)
def ae8 (P:Program) (N o:Nat) (fs:List Field) {X:Type} (ec:X->List AV) (ok:X->Prop):Prop :=
 ∀ (H:Type) (enc:TypeId×Value->H) (w:World) (n:Nat) (cs:List Value),cs.length=N ->
  (∀ f∈fs,∃ x,DataW.trod enc P w 0 (fun _=>true) true n f.type ((cs.drop f.offset).take (P.cellsOf f.type))=some x/\∀ m∈x.1.weights P f.type,m<=reachBytes)->∃ y,ok y/\VRL (Vd w) (ec y) (cs.drop o)
theorem Tt {P:Program} {N o:Nat} (h:o=N):ae8 P N o [] (fun _:Unit=>[]) (fun _=>True):=fun H enc w n cs hl _ =>
 ⟨(),trivial,by simp [VRL,h,<- hl]⟩
theorem jU {P:Program} {N o sz:Nat} {f:Field} {fs:List Field} {X Y:Type} {ec:X->List AV} {ok:X->Prop} {ec':Y->List AV} {ok':Y->Prop} (hf:f.offset=o) (hz:P.cellsOf f.type=sz) (h:RdZ P f.type ec ok) (r:ae8 P N (o+sz) fs ec' ok') :
  ae8 P N o (f::fs) (fun y:X×Y=>ec y.1++ec' y.2) (fun y=>ok y.1/\ok' y.2):=fun H enc w n cs hl hx=>by
 obtain ⟨x,h1,hw⟩:=hx f (by simp);obtain ⟨y,h2,h3⟩:=h H enc w n _ x h1 hw;obtain ⟨z,h4,h5⟩:=r H enc w n cs hl fun g hg=>hx g (by simp [hg])
 refine ⟨(y,z),⟨h2,h4⟩,?_⟩;have:cs.drop o=(cs.drop f.offset).take (P.cellsOf f.type)++cs.drop (o+sz):=by
  rw [hf,hz,<- aj3,ai4]
 rw [this];exact h3.append h5
theorem N7 {P:Program} {t:TypeId} {fs:Array Field} {X:Type} {ec:X->List AV} {ok:X->Prop} {N:Nat} (ht:P.underlying t=some (.struct fs)) (hN:P.cellsOf t=N) (r:ae8 P N 0 fs.toList ec ok):RdZ P t ec ok:=fun H enc w fuel cs x hx hwt=>by
 subst hN;obtain ⟨xs,n,_,rfl,hl,hlen,hf⟩:=DataW.trod_struct ht hx;obtain ⟨y,h1,h2⟩:=r H enc w n cs hl fun f hfm=>by
  obtain ⟨i,hi⟩:=akv hfm;have hi':fs[i]?=some f:=by simpa using hi
  rw [hf i f hi'];have hlt:i<xs.length:=by
   rw [hlen];have:=(ahm.1 hi).1;simpa using this
  refine ⟨xs[i],ahB hlt,fun m hm=>hwt m ?_⟩;simp only [DataW.weights,ht];refine DataW.weights_mem_each (j:=i) (t:=f.type) (d:=xs[i].1) ?_ ?_ m hm
  ·rw [ait,hi];rfl
  ·rw [ait,ahB hlt];rfl
 exact ⟨y,h1,by simpa using h2⟩
def ae9 (P:Program) (ts:List TypeId) {X:Type} (ec:X->List AV) (ok:X->Prop):Prop :=
 ∀ (H:Type) (enc:TypeId×Value->H) (w:World) (base:Nat) (vs:List Value) (ds:List (DataW H)) (ps:List MemPlace),
  (∀ (j:Nat) t v,ts[j]?=some t->vs[j]?=some v->Value.okWide P w .any base t v) ->
  DataW.TrodAll enc P w 0 (fun _=>true) true ts vs ds ps->(∀ n∈DataW.weightsEach P ts ds,n<=reachBytes)->∃ y,ok y/\VRL (Vd w) (ec y) vs
theorem acF {P:Program}:ae9 P [] (fun _:Unit=>[]) (fun _=>True):=fun H enc w base vs ds ps _ h _=>by
 obtain ⟨rfl,_,_⟩:=trodAll_nil h;exact ⟨(),trivial,by simp [VRL]⟩
theorem Tu {P:Program} {t:TypeId} {ts:List TypeId} {X Y:Type} {a:X->AV} {ok:X->Prop} {ec':Y->List AV} {ok':Y->Prop} (hg:ln P t=some false) (h:RdZ P t (fun y=>[a y]) ok) (r:ae9 P ts ec' ok') :
  ae9 P (t::ts) (fun y:X×Y=>a y.1::ec' y.2) (fun y=>ok y.1/\ok' y.2):=fun H enc w base vs ds ps hok hx hwt=>by
 obtain ⟨v,vs',d,ds',p,q,rfl,rfl,rfl,h1,h2⟩:=trodAll_cons hx;obtain ⟨fuel,h1⟩:=h1;obtain ⟨y,h3,h4⟩:=h H enc w fuel _ _ h1 (fun n hn=>hwt n (by rw [DataW.weightsEach];exact aih _ hn));obtain ⟨z,h5,h6⟩:=r H enc w base vs' ds' q (fun j t v a b=>hok (j+1) t v a b) h2 (fun n hn=>hwt n (by rw [DataW.weightsEach];exact aiI _ hn));refine ⟨(y,z),⟨h3,h5⟩,?_⟩;rw [YL hg (hok 0 t v rfl rfl)] at h4;simp only [VRL] at h4 ⊢;obtain ⟨x,xs,e,h7,_⟩:=h4;cases e;exact ⟨v,vs',rfl,h7,h6⟩
open Go Go.ChangeShapes Go.WideShapes Go.ChangeAt
theorem RdZ.map {P:Program} {t:TypeId} {X Y:Type} {ec:X->List AV} {ok:X->Prop} {ec':Y->List AV} {ok':Y->Prop} (h:RdZ P t ec ok) (m:∀ y,ok y->∃ z,ok' z/\ec' z=ec y):RdZ P t ec' ok':=fun H enc w fuel cs x hx hb=>by
 obtain ⟨y,h1,h2⟩:=h H enc w fuel cs x hx hb;obtain ⟨z,h3,h4⟩:=m y h1;exact ⟨z,h3,by rw [h4];exact h2⟩
theorem WE {H:Type} {enc:TypeId×Value->H} {a:Assume} {C:Checked} {os:Os} {f:FuncId} {fn:Func} {s:ChangeSpec} {conds:List PathCond} {apart fresh handsOn again:Bool}
  (own:ownKnob C.prog.godebug=none) (started:os.Started) (noInit:C.prog.inits.idxOf? f=none) (hfn:C.prog.funcs[f]?=some fn)
  (witness:∃ (w:World) (tape:Tape) (i:Input),w.os=os/\(w.forCall tape i).Shaped C.prog/\i.vars=[]/\Input.okWide C.prog (w.forCall tape i) .any w.heap.size f i /\
   s.pre6 enc C.prog fn conds apart (w.forCall tape i).memory i.args/\a.holds C.prog (lone (Frame.enter C.prog f i.args .normal) [] (w.forCall tape i)))
  (contract:∀ (W:World) (base:Nat) (args:Array Value) (ds gs:List (DataW H)) (before:List MemPlace),
   (∀ (j:Nat) t v,fn.params[j]?=some t->args[j]?=some v->Value.okWide C.prog W .any base t v) ->
   DataW.Whole enc C.prog fn.params.toList s.vars apart W args.toList ds gs before ->
   (DataW.weightsEach C.prog (fn.params.toList++s.plain.varTypes C.prog) (ds++gs)).all (·<=reachBytes)=true ->
   Calls C.prog f args W fun e W'=>∃ v,e=.returned v/\s.post enc C.prog fn apart fresh handsOn again W args v W') :
  ReturnsInHanded a C os f .any (s.pre6 enc C.prog fn conds apart) (s.post enc C.prog fn apart fresh handsOn again):=by
 refine returnsInHanded_of_calls own started noInit witness ?_;intro w tape i _ _ _ hok hpre hholds;obtain ⟨_,_,_,fn',hfn',_,_,_,_,hval⟩:=hok;have e:fn'=fn:=Option.some.inj (hfn'.symm.trans hfn);subst e;obtain ⟨⟨ds,gs,before,hw,hc⟩,hz⟩:=hpre;have hw':=DataW.Whole.of_heap (w':=w.forCall tape i) (by rfl) hw;refine (contract (w.forCall tape i) w.heap.size i.args ds gs before hval hw' (hz.weights hw)).mono fun e W' ⟨v,he,hp⟩=>?_
 subst he;exact ChangeSpec.post_blind hp
abbrev Atr:=List UInt8×List (List UInt8)
theorem qn (p:Nat->Bool) (xs:List (List UInt8)):AV.refsL p (xs.map AV.str)=true:=AV.refsL_iff.2 fun a ha=>by
 obtain ⟨x,_,rfl⟩:=ahs.1 ha;rfl
abbrev atA (a:Atr):List AV:=[.str a.1,.sl (a.2.map AV.str) a.2.length none]
def aU (l:List Atr):List AV:=l.flatMap atA
theorem Lb (a:Atr) (l:List Atr):aU (a::l)=.str a.1 :: .sl (a.2.map AV.str) a.2.length none::aU l:=rfl
theorem KU (l m:List Atr):aU (l++m)=aU l++aU m:=by simp [aU]
theorem rQ (l:List Atr):(aU l).length=l.length * 2:=by
 induction l with
 | nil=>rfl
 | cons a l ih=>rw [Lb];simp only [ahD];omega
theorem ko (p:Nat->Bool):∀ l:List Atr,AV.refsL p (aU l)=true
 | []=>rfl
 | a::l=>by rw [Lb];simp [AV.refsL,AV.refs,qn,ko p l]
theorem lq (l:List (List UInt8)):AV.frzL (l.map AV.str)=l.map AV.str:=by rw [AV.frzL_eq,ahS];rfl
theorem dp:∀ l:List Atr,AV.frzL (aU l)=aU l
 | []=>rfl
 | a::l=>by rw [Lb];simp only [AV.frzL,AV.frz,lq,dp l]
theorem ql:∀ {l:List Atr} {k:Nat},k<l.length->((aU l).drop (k * 2)).take 2=atA (l.getD k ([],[]))
 | a::l,0,_=>rfl
 | a::l,k+1,h=>by
   have ih:=@ql l k (by simpa using h);rw [show (k+1) * 2=k * 2+1+1 by omega,Lb];simpa using ih
abbrev aej (l:List (List UInt8)):AV:=.sl (l.map AV.str) l.length none
theorem adz {l:List Atr} {k:Nat} (hk:k<l.length):(aU l).getD (k * 2+1) .undef=aej (l.getD k ([],[])).2:=by
 have h2:=congrArg (fun l=>l[1]?) (ql hk);simp only [aib (show 1<2 by omega),aia] at h2;rw [ahE,h2];rfl
end Go.Proofs.YtobihfefmlgaoaaGreat.Av
set_option maxRecDepth 100000
namespace Go.Proofs.YtobihfefmlgaoaaGreat.Av
open Go
def H9:LSO:=[Ap 2]
def H8:LSO:=[Ap 3]
def H7:LSO:=[Aa 6 0,Ae 7 6,Ac 8 0]
def H6:LSO:=[Ak 9 8 7]
def H5:LSO:=[Al 10 2 6 8,As 11 2 10,Br 5,Af 2 5 11]
def H4:List (am×Kd) :=
 [Az 12 3,Aw 13 0 5,Ax 14 1 13 0 1,od 15 (.bslice false 1 0 [] []) (.read 0 0),Aw 16 1 5,Ax 17 1 16 0 0,od 18 (.app 0 1 16 [(.str [])] (tm 15) (tm 17)) .eff,BZ 19 14 18,
 Ca 20 19 0 0]
def DN:List am :=
 [⟨(some 21),(.app 1 2 40 [(.str []),(.sl [] 0 (some 0))] (tm 12) (tm 20)),none⟩,⟨(some 3),(.mv (tm 21)),none⟩]
def H3:LSO:=[Ah 22 8 1,Aa 8 22]
def H2:LSO:=[Aa 23 3,Aa 2 23]
def zd:aS:=⟨24,(.seq (.sreg H9 [])
 (.seq (.sreg H8 [])
 (.seq (.seq (.sreg H7 [])
 (.block 0 (.loop (.seq (.sreg H6 [])
 (.seq (.cond (tm 9) .skip
 (.exit 0))
 (.seq (.block 1 (.seq (.sreg H5 Cq)
 (.dregM H4 DN CD)))
 (.sreg H3 Cp)))))))
 (.seq (.sreg H2 Cp)
 .ret)))),[(.tmp 2)]⟩
attribute [push_cast] H9 H8 H7 H6 H5 H4 DN H3 H2
theorem Sz:aT Tryz.prog (fun r i=>if r=5/\i=6 then 0 else 1) 49=some zd.raw:=by kernel_rfl
def Ik:LSO:=[An 4]
def Ij:LSO:=[Aa 7 0,Ae 8 7,Aa 9 1,Ae 10 9,AM 11 8 10]
def Ii:LSO:=[An 4]
def Ih:LSO:=[Aa 12 0,Ae 13 12,Ac 14 0]
def Ig:LSO:=[Ak 15 14 13]
def If:LSO:=[Aa 16 14,Aa 5 16]
def Ie:LSO:=[Aa 17 0,Aa 18 5,Al 19 2 17 18,Ad 20 0 19,Ab 21 1 20,Aa 22 1,Aa 23 5,Al 24 2 22 23,Ad 25 0 24,Ab 26 1 25,AM 27 21 26,Aa 28 27,.grp none 28 false
 [Ag 29 28 0,Ag 30 28 5,BT 31 28 2 29 30,A3 32 28 1 31,A1 33 28 1 32,AH 34 28 33,Ag 35 28 1,Ag 36 28 5,BT 37 28 2 35 36,A3 38 28 1 37,A1 39 28 1 38,AH 40 28 39,BF 41 28 34 40]
 42 (tm 41)]
def Ic:LSO:=[An 4]
def Ib:LSO:=[Aa 43 0,Aa 44 5,Al 45 2 43 44,Ad 46 1 45,Ab 47 1 46,Ae 48 47,Ac 49 0]
def Ia:LSO:=[Ak 50 49 48]
def DT:LSO:=[Aa 51 49,Aa 6 51]
def DS:LSO:=[Aa 52 0,Aa 53 5,Al 54 2 52 53,Ad 55 1 54,Ab 56 1 55,Aa 57 6,Al 58 1 56 57,Ab 59 1 58,Aa 60 1,Aa 61 5,Al 62 2 60 61,Ad 63 1 62,Ab 64 1 63,Aa 65 6,
 Al 66 1 64 65,Ab 67 1 66,AM 68 59 67]
def DR:LSO:=[An 4]
def DQ:LSO:=[Ah 69 49 1,Aa 49 69]
def DP:LSO:=[Ah 70 14 1,Aa 14 70]
def DO:LSO:=[AC 4]
def zf:aS:=⟨71,(.seq (.sreg Ik [])
 (.seq (.seq (.sreg Ij Cs)
 (.cond (tm 11) (.seq (.sreg Ii [])
 .ret)
 .skip))
 (.seq (.seq (.sreg Ih Cv)
 (.block 0 (.loop (.seq (.sreg Ig [])
 (.seq (.cond (tm 15) .skip
 (.exit 0))
 (.seq (.block 1 (.seq (.sreg If Cp)
 (.seq (.seq (.sdreg Ie [.pure,.pure,(.read 0 0),.pure,(.read 0 0),.pure,.pure,(.read 0 0),.pure,(.read 0 0),.pure,.pure,.pure,.pure,(.read 0 0),.pure,(.read 0 0),(.read 0 0),.pure,.pure,(.read 0 0),.pure,(.read 0 0),(.read 0 0)] CK)
 (.cond (tm 42) (.seq (.sreg Ic [])
 .ret)
 .skip))
 (.seq (.sreg Ib Cx)
 (.block 2 (.loop (.seq (.sreg Ia [])
 (.seq (.cond (tm 50) .skip
 (.exit 2))
 (.seq (.block 3 (.seq (.sreg DT Cp)
 (.seq (.sdreg DS [.pure,.pure,(.read 0 0),.pure,(.read 0 0),.pure,(.read 0 0),(.read 0 0),.pure,.pure,(.read 0 0),.pure,(.read 0 0),.pure,(.read 0 0),(.read 0 0)] CS)
 (.cond (tm 68) (.seq (.sreg DR [])
 .ret)
 .skip))))
 (.sreg DQ Cp))))))))))
 (.sreg DP Cp)))))))
 (.seq (.sreg DO [])
 .ret)))),[(.tmp 4)]⟩
attribute [push_cast] Ik Ij Ii Ih Ig If Ie Ic Ib Ia DT DS DR DQ DP DO
theorem SA:aT Tryz.prog (fun _ _=>1) 30=some zf.raw:=by kernel_rfl
def M5:LSO:=[An 2]
def M4:LSO:=[Aa 7 0,Ae 8 7,Ac 9 0]
def M3:LSO:=[Ak 10 9 8]
def M2:LSO:=[Al 11 2 7 9,As 12 2 11,Br 4,Af 2 4 12]
def M1:LSO:=[Aa 13 0,Ae 14 13,A6 15 14 60,Aa 16 15,.grp none 16 false
 [A3 17 16 1 4,A1 18 16 1 17,AH 19 16 18,AD 20 16 19 60]
 21 (tm 20)]
def M0:LSO:=[An 2]
def MZ:LSO:=[Ad 22 1 4,Ab 23 1 22,Ae 24 23,Ac 25 0]
def MY:LSO:=[Ak 26 25 24]
def MX:LSO:=[Al 27 1 23 25,Ab 28 1 27,Aa 6 28]
def MW:LSO:=[Aa 29 6,A2 30 29,A6 31 30 5000]
def Km:LSO:=[An 2]
def Kl:LSO:=[Ah 32 25 1,Aa 25 32]
def Kk:LSO:=[Ah 33 9 1,Aa 9 33]
def Kj:LSO:=[AC 2]
def KS:aS:=⟨34,(.seq (.sreg M5 [])
 (.seq (.seq (.sreg M4 [])
 (.block 0 (.loop (.seq (.sreg M3 [])
 (.seq (.cond (tm 10) .skip
 (.exit 0))
 (.seq (.block 1 (.seq (.sreg M2 Cq)
 (.seq (.seq (.sreg M1 Cs)
 (.cond (tm 21) (.seq (.sreg M0 [])
 .ret)
 .skip))
 (.seq (.sreg MZ C4)
 (.block 2 (.loop (.seq (.sreg MY [])
 (.seq (.cond (tm 26) .skip
 (.exit 2))
 (.seq (.block 3 (.seq (.sreg MX Cq)
 (.seq (.sreg MW Cq)
 (.cond (tm 31) (.seq (.sreg Km [])
 .ret)
 .skip))))
 (.sreg Kl Cp))))))))))
 (.sreg Kk Cp)))))))
 (.seq (.sreg Kj [])
 .ret))),[(.tmp 2)]⟩
attribute [push_cast] M5 M4 M3 M2 M1 M0 MZ MY MX MW Km Kl Kk Kj
theorem UF:aT Tryz.prog (fun _ _=>1) 33=some KS.raw:=by kernel_rfl
attribute [push_cast] zd zf KS
variable {L:List Blk} {K:afC}
set_option maxHeartbeats 8000000
set_option maxRecDepth 100000
theorem aeg {l:List Atr} {cap:Option Nat} (hl:l.length<=1100000) (hz:∀ a∈l,a.2.length<=1100000) (h:K (.sl (aU l) l.length none) L) :
  afB 49 [.sl (aU l) l.length cap] L K:=by
 replace h:=hid h;refine acg Sz ?_;refine bi (l:=[]) (n:=0) 3 2 rfl (ahQ 2).symm ?_;refine ah (fun m T' L'=>∃ (k:Nat) (C:List AV) (X:List Blk),m=l.length - k/\k<=l.length/\C=aU (l.take k)/\T'=[(8,.int .i64 (k:Int)),(7,.int .i64 l.length),(6,.sl (aU l) l.length cap),(3,.gsl C k L.length 2)]/\L'=L++(.spare k 2::X)) (CutS (b:=by simp)) ⟨0,[],[],rfl,ahp _,rfl,rfl,rfl⟩ ?_;rintro _ _ _ ⟨k,C,X,rfl,hk,hC,rfl,rfl⟩;by_cases hlt:k<l.length
 ·have g1:(k:Int)<(l.length:Int):=by omega
  have g2:=ace k (by omega);have e3:=ql hlt;have e4:k * 2+2<=(aU l).length:=by rw [rQ];omega
  obtain ⟨⟨nm,vs⟩,ha⟩:∃ a,l.getD k ([],[])=a:=⟨_,rfl⟩;have htk:aU (l.take (k+1))=aU (l.take k)++[.str nm,.sl (vs.map AV.str) vs.length none]:=by
   rw [ahK hlt,KU,show l[k]=(nm,vs) by rw [<- ha];simp [hlt]];rfl
  have hvs:=hz (nm,vs) (by rw [<- ha];simp [hlt]);simp only at hvs;rw [ha] at e3;simp only [atA] at e3;have e0:AV.frzL (vs.map AV.str)=vs.map AV.str:=lq vs;replace htk:=hid htk;replace hC:=hid hC;clear ha hz;refine wk ?_;exact aq _ _ _ (by omega) (CutL (b:=by simp)) ⟨k+1,_,_,rfl,hlt,by rw [htk.out,hC.out],rfl,rfl⟩
 ·have hke:k=l.length:=by omega
  subst hke;have g1:¬ (l.length:Int)<(l.length:Int):=by omega
  rw [ahA] at hC;subst hC;have e0:=dp l;refine wk ?_;refine ay ?_;simp only [AV.frz,e0];exact ab (by simp only [AV.refs,ko]) h.out
theorem afH {l:List Atr} {cap cap':Option Nat} (hl:l.length<=1100000) (hz:∀ a∈l,a.2.length<=1100000) (h:K (.bool true) L) :
  afB 30 [.sl (aU l) l.length cap,.sl (aU l) l.length cap'] L K:=by
 replace h:=hid h;refine acg SA ?_;refine ah (fun m T' L'=>∃ k:Nat,m=l.length - k/\k<=l.length/\T'=[(14,.int .i64 (k:Int)),(13,.int .i64 l.length),(0,.sl (aU l) l.length cap),(1,.sl (aU l) l.length cap')]/\L=L') (CutS (b:=ahn _)) ⟨0,rfl,ahp _,rfl,rfl⟩ ?_;rintro _ _ L' ⟨k,rfl,hk,rfl,e⟩;subst e;by_cases hlt:k<l.length
 ·have g1:(k:Int)<(l.length:Int):=by omega
  have g2:=ace k (by omega);have e4:k * 2+1<(aU l).length:=by rw [rQ];omega
  have e4':k * 2<(aU l).length:=by omega
  have e5:=adz hlt;have e8:(aU l).getD (k * 2) .undef=.str (l.getD k ([],[])).1:=by
   have h3:=congrArg (fun l=>l[0]?) (ql hlt);simp only [aib (show 0<2 by omega),aia,aiH] at h3;rw [ahE,h3];rfl
  obtain ⟨⟨nm,vs⟩,ha⟩:∃ a,l.getD k ([],[])=a:=⟨_,rfl⟩;have hvs:=hz (nm,vs) (by rw [<- ha];simp [hlt]);simp only at hvs;rw [ha] at e5 e8;simp only [aej] at e5 e8;clear ha;refine wk ?_;refine ah (fun m T' L'=>∃ j:Nat,m=vs.length - j/\j<=vs.length/\T'=[(49,.int .i64 (j:Int)),(48,.int .i64 vs.length),(5,.int .i64 (k:Int)),(14,.int .i64 (k:Int)),(13,.int .i64 l.length),(0,.sl (aU l) l.length cap),(1,.sl (aU l) l.length cap')]/\L=L') (CutS (b:=ahn _)) ⟨0,rfl,ahp _,rfl,rfl⟩ ?_;rintro _ _ L' ⟨j,rfl,hj,rfl,e⟩;subst e;by_cases hjl:j<vs.length
  ·have j1:(j:Int)<(vs.length:Int):=by omega
   have j2:=ace j (by omega);obtain ⟨v,hv⟩:=aaR (vs.getD j []);have g3:(vs.map AV.str).getD j .undef=.str v:=by rw [<- hv];simp [hjl]
   clear hv;refine wk ?_;exact aq _ _ _ (by omega) (CutL (b:=by simp)) ⟨j+1,rfl,hjl,rfl,rfl⟩
  ·have j1:¬ (j:Int)<(vs.length:Int):=by omega
   refine wk ?_;exact aq _ _ _ (by omega) (CutL (b:=by simp)) ⟨k+1,rfl,hlt,rfl,rfl⟩
 ·have g1:¬ (k:Int)<(l.length:Int):=by omega
  refine wk ?_;exact af h.out
def Wz (n:Nat) (a:Atr):Bool:=decide (n<=60) && decide (a.2.length<=60) && a.2.all fun v=>decide (v.length<=5000)
def abu (l:List Atr):Bool:=l.all (Wz l.length)
theorem aab {l:List Atr} (h:abu l=true):l.length<=60/\∀ a∈l,a.2.length<=60/\∀ v∈a.2,v.length<=5000:=by
 simp only [abu,ahC,Wz,aht,decide_eq_true_eq] at h;refine ⟨?_,fun a ha=>⟨(h a ha).1.2,(h a ha).2⟩⟩;rcases l with _|⟨x,t⟩
 ·simp
 ·exact (h x (by simp)).1.1
theorem agK {l:List Atr} {cap:Option Nat} (hl:(l.length:Int)<=9223372036854775807) (hz:∀ a∈l,(a.2.length:Int)<=9223372036854775807) (h:K (.bool (abu l)) L) :
  afB 33 [.sl (aU l) l.length cap] L K:=by
 obtain ⟨R,hR⟩:=aaR (l.all (Wz l.length));rw [abu,hR] at h;replace h:=hid h;replace hR:=hid hR;refine acg UF ?_;refine ah (fun m T' L'=>∃ (k:Nat) (X:List Blk),m=l.length - k/\k<=l.length/\Hid ((l.drop k).all (Wz l.length)=R)/\T'=[(9,.int .i64 (k:Int)),(8,.int .i64 l.length),(7,.sl (aU l) l.length cap),(0,.sl (aU l) l.length cap)]/\L'=L++X) (CutS (b:=by simp)) ⟨0,[],rfl,ahp _,hid (by simpa using hR.out),rfl,by simp⟩ ?_;rintro _ _ _ ⟨k,X,rfl,hk,hI,rfl,rfl⟩;by_cases hlt:k<l.length
 ·have g1:(k:Int)<(l.length:Int):=by omega
  have g2:=ace k (by omega);have e3:=ql hlt;have e4:k * 2+2<=(aU l).length:=by rw [rQ];omega
  obtain ⟨⟨nm,vs⟩,ha⟩:∃ a,l.getD k ([],[])=a:=⟨_,rfl⟩;have hdr:l.drop k=(nm,vs)::l.drop (k+1):=by rw [ah2 hlt,<- ha];simp [hlt]
  have hvs:=hz (nm,vs) (by rw [<- ha];simp [hlt]);simp only at hvs;rw [ha] at e3;simp only [atA] at e3;have hI2:=hI.out;rw [hdr,aiG] at hI2;have no:Wz l.length (nm,vs)=false->K (.bool false) L:=fun e=>by
   rw [e,aiC] at hI2;have:=h.out
   rwa [<- hI2] at this
  replace no:=hid no;clear hI hdr ha hz hR;by_cases h1:(60:Int)<(l.length:Int)
  ·have h':=hid (no.out (by simp [Wz];omega));clear hI2;refine wk ?_;exact ab rfl h'.out
  by_cases h2:(60:Int)<(vs.length:Int)
  ·have h':=hid (no.out (by simp [Wz];omega));clear hI2;refine wk ?_;exact ab rfl h'.out
  obtain ⟨rv,hrv⟩:=aaR (vs.all (fun v=>decide (v.length<=5000)));have hfe:Wz l.length (nm,vs)=rv:=by
   rw [Wz,hrv,decide_eq_true (by omega),decide_eq_true (by simp only;omega)];rfl
  rw [hfe] at hI2;replace hI2:=hid hI2;replace hrv:=hid hrv;replace no:=hid (fun e:rv=false=>no.out (hfe.trans e));clear hfe;refine wk ?_;refine ah (fun m T' L'=>∃ j:Nat,m=vs.length - j/\j<=vs.length/\Hid ((vs.drop j).all (fun v=>decide (v.length<=5000))=rv)/\T'=[(25,.int .i64 (j:Int)),(24,.int .i64 vs.length),(23,.sl (vs.map AV.str) vs.length none),(9,.int .i64 (k:Int)),(8,.int .i64 l.length),(7,.sl (aU l) l.length cap),(0,.sl (aU l) l.length cap)]/\L'=L++(X++[.cells [.str nm,.sl (vs.map AV.str) vs.length none]])) (CutS (b:=by simp)) ⟨0,rfl,ahp _,hid (by simpa using hrv.out),rfl,by simp⟩ ?_;rintro _ _ _ ⟨j,rfl,hj,hJ,rfl,rfl⟩;by_cases hjl:j<vs.length
  ·have j1:(j:Int)<(vs.length:Int):=by omega
   have j2:=ace j (by omega);obtain ⟨v,hv⟩:=aaR (vs.getD j []);have g3:(vs.map AV.str).getD j .undef=.str v:=by rw [<- hv];simp [hjl]
   have hdr:vs.drop j=v::vs.drop (j+1):=by rw [ah2 hjl,<- hv];simp [hjl]
   have hJ2:=hJ.out;rw [hdr,aiG] at hJ2;clear hv hdr hJ;by_cases h3:(5000:Int)<(v.length:Int)
   ·have h':=hid (no.out (by rw [<- hJ2,decide_eq_false (by omega),aiC]));clear hJ2;refine wk ?_;exact ab rfl h'.out
   ·rw [decide_eq_true (by omega),aid] at hJ2;replace hJ2:=hid hJ2;refine wk ?_;exact aq _ _ _ (by omega) (CutL (b:=by simp)) ⟨j+1,rfl,hjl,hJ2,rfl,rfl⟩
  ·have j1:¬ (j:Int)<(vs.length:Int):=by omega
   have hJ2:=hJ.out;rw [aiX (by omega),ajf] at hJ2;have hI3:=hI2.out;rw [<- hJ2,aid] at hI3;replace hI3:=hid hI3;clear hJ hJ2;refine wk ?_;exact aq _ _ _ (by omega) (CutL (b:=by simp)) ⟨k+1,_,rfl,hlt,hI3,rfl,rfl⟩
 ·have hke:k=l.length:=by omega
  subst hke;have g1:¬ (l.length:Int)<(l.length:Int):=by omega
  have hI2:=hI.out;rw [aij,ajf] at hI2;have h':=h.out;rw [<- hI2] at h';replace h':=hid h';clear hI hI2 hR;refine wk ?_;exact ab rfl h'.out
end Go.Proofs.YtobihfefmlgaoaaGreat.Av
