/- Joined texts of the walk, made small by a program. -/
import Derived.Test.YtobihfefmlgaoaaMk4
import Derived.Sort.Grow
import Derived.Deep.Draws
import Derived.Lib.LaidTab
import Derived.WalkKit
import Derived.ProofKit
import Derived.OpenShut
import Derived.JoinedCond
import Derived.SizedLaws
import Derived.Test.YtobihfefmlgaoaaRows
import Derived.KernelRfl
set_option linter.unusedSimpArgs false
set_option linter.unusedVariables false
namespace Go.Proofs.Ytobihfefmlgaoaa.Av
open Go
structure tY (w w':World):Prop where
 heap:∀ b,b<w.heap.size->w'.heap[b]?=w.heap[b]?
 size:w.heap.size<=w'.heap.size
 os:w'.os=w.os
 tape:w'.tape=w.tape
 output:w'.output=w.output
theorem tY.refl (w:World):tY w w:=⟨fun _ _=>rfl,Fz _,rfl,rfl,rfl⟩
theorem Rel.grown {w0:World} {S0:SB} {E:Env} {L:List Blk} {w w':World} (h:Rel w0 S0 E L w) (g:tY w w'):Rel w0 S0 E L w':=by
 refine ⟨fun b o v hv=>?_,fun i k hk=>?_,h.fresh,h.own,h.inj,h.tkfresh,h.tkown,h.tkloc,h.tkinj,fun k hk hs=>?_,F3 h.size g.size,g.os.trans h.os,g.tape.trans h.tape,g.output.trans h.output,h.glob,
  h.gsz.mod fun b cs ty fr hb=>⟨cs,ty,fr,by rw [g.heap b (F1.1 hb).1];exact hb,rfl⟩⟩
 ·have:=h.mem b o v hv;simp only [World.cell?] at this ⊢;rw [g.heap b (h.mem_lt hv)];exact this
 ·cases hl:k.live
  ·refine aL.still hl rfl (fun t c n sz e ht hc=>?_) (h.blk i k hk);subst e;exact g.heap _ (h.tok_lt hk ht hc)
  ·exact aL.worldL hl (fun c hc=>g.heap _ (h.loc_lt hk hl hc)) (h.blk i k hk)
 ·rw [g.heap k (GH hk h.size)];exact h.frame k hk hs
theorem jt {P:Program} {f:FuncId} {fn:Func} (hf:P.funcs[f]?=some fn) (hb:fn.body.isSome=true) (hn:(fn.name == "runtime.NumGoroutine")=false) {args:List AV} {L:List Blk} {K:AV->List Blk->Prop} {r:AV}
  (hc:∀ (w0:World) (S0:SB) (E:Env) (w:World) (vs:List Value),Rel w0 S0 E L w->VRL E args vs->Calls P f ⟨vs⟩ w fun e w'=>∃ v,e=.returned v/\VR E r v/\tY w w') (hk:K r L):ae P f args L K:=fun w0 S0 E w vs hR hv=>by
 refine .inl ⟨?_,(hc w0 S0 E w vs hR hv).mono fun e w' ⟨v,h1,h2,h3⟩=>⟨E,v,r,L,h1,.refl E,hk,h2,hR.grown h3⟩⟩;simp only [callFunc,FA,run_program,FB,hf,hn];cases h:fn.body with
 | none=>simp [h] at hb
 | some c=>simp
theorem VR.grow {E:Env} {l:List AV} {n i sz:Nat} {v:Value} (ht:E.tok i=some ⟨n,sz,none⟩) (h2:l.length=n * sz) (h:VR E (.sl l n (some n)) v):VR E (.gsl l n i sz) v:=by
 simp only [VR] at h ⊢;obtain ⟨p,c',q1,q2,q3,q4⟩:=h;exact ⟨p,c',q1,q2,h2,q4,⟨n,sz,none⟩,ht,Fz _,fun _=>⟨rfl,fun _=>q3 n rfl,by simp⟩⟩
theorem sk {A B:Prop} (h:B) (e:Hid B->A:=by
 intro hB_;simp only [Kon,push_cast,reduceIte,Nat.reduceEqDiff,Nat.reduceAdd,Nat.reduceMul,Nat.reduceSub,Nat.reduceLT,Nat.reduceLeDiff,Int.reduceLT,Int.reduceLE,Int.reduceAdd,Int.reduceSub,Int.reduceNeg,Int.reduceToNat,Int.reduceEq,reduceCtorEq, *];exact hB_.out):A:=e (hid h)
theorem sm {A B:Prop} (h:B) (e:Hid B->A:=by
 intro hB_;simp (config:={ maxSteps:=2000000 }) only [Kon,push_cast,reduceIte,Nat.reduceEqDiff,Nat.reduceAdd,Nat.reduceMul,Nat.reduceSub,Nat.reduceLT,Nat.reduceLeDiff,Int.reduceLT,Int.reduceLE,Int.reduceAdd,Int.reduceSub,Int.reduceNeg,Int.reduceToNat,Int.reduceEq,reduceCtorEq, *];exact hB_.out):A:=e (hid h)
theorem sl {A B:Prop} (h:B) (e:Hid B->A:=by
 intro hB_;simp only [push_cast,reduceIte,Nat.reduceEqDiff,Nat.reduceAdd,Nat.reduceMul,Nat.reduceSub,Nat.reduceLT,Nat.reduceLeDiff,Int.reduceLT,Int.reduceLE,Int.reduceAdd,Int.reduceSub,Int.reduceNeg,Int.reduceToNat,Int.reduceEq,reduceCtorEq, *];exact hB_.out):A:=e (hid h)
theorem wk {A B:Prop} (h:B) (e:Hid B->A:=by
 intro hB_
 repeat' first
  | refine ku ?_
  | (first|refine iC (by kernel_rfl) ?_|refine eX (by kernel_rfl) ?_|refine fa ?_|refine qE ?_|refine lE (fun _=>?_)|refine dU ?_|refine iF ?_|refine kk1.out _ _ ?_|refine kk1.out ?_|refine kk2.out _ _ ?_|refine kk2.out ?_|refine kk3.out _ _ ?_|refine kk3.out ?_|refine kk4.out _ _ ?_|refine kk4.out ?_|refine kk5.out _ _ ?_|refine kk5.out ?_|refine kk6.out _ _ ?_|refine kk6.out ?_|refine kk7.out _ _ ?_|refine kk7.out ?_|refine ee (kk1.out _ _ ⟨rfl,rfl⟩) (kk1.out _ _ ⟨rfl,rfl⟩) ?_|refine ee (kk1.out ⟨rfl,rfl⟩) (kk1.out ⟨rfl,rfl⟩) ?_|refine ee (kk2.out _ _ ⟨rfl,rfl⟩) (kk2.out _ _ ⟨rfl,rfl⟩) ?_|refine ee (kk2.out ⟨rfl,rfl⟩) (kk2.out ⟨rfl,rfl⟩) ?_|refine bB (kk1.out _ _ ⟨rfl,rfl⟩) ?_|refine bB (kk1.out ⟨rfl,rfl⟩) ?_|refine bB (kk2.out _ _ ⟨rfl,rfl⟩) ?_|refine bB (kk2.out ⟨rfl,rfl⟩) ?_|refine bB (kk3.out _ _ ⟨rfl,rfl⟩) ?_|refine bB (kk3.out ⟨rfl,rfl⟩) ?_|refine bB (kk4.out _ _ ⟨rfl,rfl⟩) ?_|refine bB (kk4.out ⟨rfl,rfl⟩) ?_|refine bB (kk5.out _ _ ⟨rfl,rfl⟩) ?_|refine bB (kk5.out ⟨rfl,rfl⟩) ?_|refine bB (kk6.out _ _ ⟨rfl,rfl⟩) ?_|refine bB (kk6.out ⟨rfl,rfl⟩) ?_|refine bB (kk7.out _ _ ⟨rfl,rfl⟩) ?_|refine bB (kk7.out ⟨rfl,rfl⟩) ?_)
    simp (config:={ maxSteps:=2000000 }) only [Kon,push_cast,reduceIte,Nat.reduceEqDiff,Nat.reduceAdd,Nat.reduceMul,Nat.reduceSub,Nat.reduceLT,Nat.reduceLeDiff,Int.reduceLT,Int.reduceLE,Int.reduceAdd,Int.reduceSub,Int.reduceNeg,Int.reduceToNat,Int.reduceEq,reduceCtorEq, *]
  | (first|refine iy (by kernel_rfl) ?_|refine fV ?_|refine eZ ?_|refine iE ?_|refine lK (dT ?_))
    simp only [push_cast,reduceIte,Nat.reduceEqDiff,Nat.reduceAdd,Nat.reduceMul,Nat.reduceSub,Nat.reduceLT,Nat.reduceLeDiff,Int.reduceLT,Int.reduceLE,Int.reduceAdd,Int.reduceSub,Int.reduceNeg,Int.reduceToNat,Int.reduceEq,reduceCtorEq, *]
  | exact lF
  | first|apply lH|apply iz|apply lI|apply iA|apply lJ|apply iB
  | refine fe ?_
  | refine eY ?_
  | first|refine fb rfl ?_|refine fc rfl ?_|refine dA rfl ?_ ?_
  | ((first|refine dy (fun _=>?_) (fun _=>?_)|refine dN (fun _=>?_) (fun _=>?_))<;>try simp (config:={ maxSteps:=2000000 }) only [Kon,push_cast,reduceIte,Nat.reduceEqDiff,Nat.reduceAdd,Nat.reduceMul,Nat.reduceSub,Nat.reduceLT,Nat.reduceLeDiff,Int.reduceLT,Int.reduceLE,Int.reduceAdd,Int.reduceSub,Int.reduceNeg,Int.reduceToNat,Int.reduceEq,reduceCtorEq, *])
  | refine And.intro trivial ?_
  | refine And.intro (by omega) ?_
  | refine dV rfl (fun _=>?_) (fun _=>?_)
 exact hB_.out):A:=e (hid h)
theorem Fu {P:Program} {own:Nat->Nat->Nat} {f:FuncId} {lf:bJ} (h:ct P own f=some lf.raw) {args:List AV} {L:List Blk} {Q:AV->List Blk->Prop} {B:Prop} (b:B) (hl:Nat.ble args.length lf.ntmps=true:=by rfl) (e:Hid B->AW P lf.ntmps own lf.code (Ey lf.res L Q) (au 0 args) L:=by
 intro hB_;simp only [push_cast]
 repeat' first
  | refine ku ?_
  | (first|refine iC (by kernel_rfl) ?_|refine eX (by kernel_rfl) ?_|refine fa ?_|refine qE ?_|refine lE (fun _=>?_)|refine dU ?_|refine iF ?_|refine kk1.out _ _ ?_|refine kk1.out ?_|refine kk2.out _ _ ?_|refine kk2.out ?_|refine kk3.out _ _ ?_|refine kk3.out ?_|refine kk4.out _ _ ?_|refine kk4.out ?_|refine kk5.out _ _ ?_|refine kk5.out ?_|refine kk6.out _ _ ?_|refine kk6.out ?_|refine kk7.out _ _ ?_|refine kk7.out ?_|refine ee (kk1.out _ _ ⟨rfl,rfl⟩) (kk1.out _ _ ⟨rfl,rfl⟩) ?_|refine ee (kk1.out ⟨rfl,rfl⟩) (kk1.out ⟨rfl,rfl⟩) ?_|refine ee (kk2.out _ _ ⟨rfl,rfl⟩) (kk2.out _ _ ⟨rfl,rfl⟩) ?_|refine ee (kk2.out ⟨rfl,rfl⟩) (kk2.out ⟨rfl,rfl⟩) ?_|refine bB (kk1.out _ _ ⟨rfl,rfl⟩) ?_|refine bB (kk1.out ⟨rfl,rfl⟩) ?_|refine bB (kk2.out _ _ ⟨rfl,rfl⟩) ?_|refine bB (kk2.out ⟨rfl,rfl⟩) ?_|refine bB (kk3.out _ _ ⟨rfl,rfl⟩) ?_|refine bB (kk3.out ⟨rfl,rfl⟩) ?_|refine bB (kk4.out _ _ ⟨rfl,rfl⟩) ?_|refine bB (kk4.out ⟨rfl,rfl⟩) ?_|refine bB (kk5.out _ _ ⟨rfl,rfl⟩) ?_|refine bB (kk5.out ⟨rfl,rfl⟩) ?_|refine bB (kk6.out _ _ ⟨rfl,rfl⟩) ?_|refine bB (kk6.out ⟨rfl,rfl⟩) ?_|refine bB (kk7.out _ _ ⟨rfl,rfl⟩) ?_|refine bB (kk7.out ⟨rfl,rfl⟩) ?_)
    simp (config:={ maxSteps:=2000000 }) only [Kon,push_cast,reduceIte,Nat.reduceEqDiff,Nat.reduceAdd,Nat.reduceMul,Nat.reduceSub,Nat.reduceLT,Nat.reduceLeDiff,Int.reduceLT,Int.reduceLE,Int.reduceAdd,Int.reduceSub,Int.reduceNeg,Int.reduceToNat,Int.reduceEq,reduceCtorEq, *]
  | (first|refine iy (by kernel_rfl) ?_|refine fV ?_|refine eZ ?_|refine iE ?_|refine lK (dT ?_))
    simp only [push_cast,reduceIte,Nat.reduceEqDiff,Nat.reduceAdd,Nat.reduceMul,Nat.reduceSub,Nat.reduceLT,Nat.reduceLeDiff,Int.reduceLT,Int.reduceLE,Int.reduceAdd,Int.reduceSub,Int.reduceNeg,Int.reduceToNat,Int.reduceEq,reduceCtorEq, *]
  | exact lF
  | first|apply lH|apply iz|apply lI|apply iA|apply lJ|apply iB
  | refine fe ?_
  | refine eY ?_
  | first|refine fb rfl ?_|refine fc rfl ?_|refine dA rfl ?_ ?_
  | ((first|refine dy (fun _=>?_) (fun _=>?_)|refine dN (fun _=>?_) (fun _=>?_))<;>try simp (config:={ maxSteps:=2000000 }) only [Kon,push_cast,reduceIte,Nat.reduceEqDiff,Nat.reduceAdd,Nat.reduceMul,Nat.reduceSub,Nat.reduceLT,Nat.reduceLeDiff,Int.reduceLT,Int.reduceLE,Int.reduceAdd,Int.reduceSub,Int.reduceNeg,Int.reduceToNat,Int.reduceEq,reduceCtorEq, *])
  | refine And.intro trivial ?_
  | refine And.intro (by omega) ?_
  | refine dV rfl (fun _=>?_) (fun _=>?_)
 exact hB_.out):ae P f args L Q:=ac h (Nat.le_of_ble_eq_true hl) (e (hid b))
attribute [push_cast] au
open Go Go.ChangeShapes Go.WideShapes Go.ChangeAt Go.RowKit
def wB (w:World):Env:={ mem:=fun b o=>w.cell? ⟨b,o,none⟩,loc:=fun _=>none,tok:=fun _=>none }
theorem Rel.start (w:World) (hg:lG (wB w).mem/\l4 w):Rel w ⟨fun _=>False,0⟩ (wB w) [] w where
 mem _ _ _ h:=h
 blk _ _ h:=by simp at h
 fresh _ _:=rfl
 own _ _ _ h:=by simp at h
 inj _ _ _ _ _ _ h:=by simp at h
 tkfresh _ _:=rfl
 tkown _ _ _ _ _ h:=by simp at h
 tkloc _ _ _ _ _ _ _ _ h:=by simp at h
 tkinj _ _ _ _ _ _ _ _ _ _ h:=by simp at h
 frame _ _ _:=rfl
 size:=Fz _
 os:=rfl
 tape:=rfl
 output:=rfl
 glob:=hg.1
 gsz:=hg.2
def Rd (P:Program) (t:TypeId) {X:Type} (ec:X->List AV) (ok:X->Prop):Prop :=
 ∀ (H:Type) (enc:TypeId×Value->H) (w:World) (fuel:Nat) (cs:List Value) (x:DataW H×List MemPlace),
  DataW.trod enc P w 0 (fun _=>true) true fuel t cs=some x->∃ y,ok y/\VRL (wB w) (ec y) cs
theorem Rd.map {P:Program} {t:TypeId} {X Y:Type} {ec:X->List AV} {ok:X->Prop} {ec':Y->List AV} {ok':Y->Prop} (h:Rd P t ec ok) (m:∀ y,ok y->∃ z,ok' z/\ec' z=ec y):Rd P t ec' ok':=fun H enc w fuel cs x hx=>by
 obtain ⟨y,h1,h2⟩:=h H enc w fuel cs x hx;obtain ⟨z,h3,h4⟩:=m y h1;exact ⟨z,h3,by rw [h4];exact h2⟩
theorem vH {H:Type} {enc:TypeId×Value->H} {P:Program} {f:Func} {s:ChangeSpec} {apart fresh handsOn again:Bool} {W W':World} {args:Array Value} {v:Value} {ds gs:List (DataW H)} {before pa pv:List MemPlace}
  (hW:DataW.Whole enc P f.params.toList s.vars apart W args.toList ds gs before)
  (hres:∀ (b:Nat) (sp:Nat->Bool) (hd:Bool),DataW.TrodAll enc P W' b sp hd f.resultTypes.toList (v.resultList f.resultTypes.size) (s.fn H (ds++gs)).results [])
  (hargs:∀ sp:Nat->Bool,(∀ p∈before,sp p.block=true)->DataW.TrodAll enc P W' 0 sp true f.params.toList args.toList (s.fn H (ds++gs)).args pa)
  (hvars:∀ sp:Nat->Bool,(∀ p∈before,sp p.block=true)->DataW.TrodVars enc P W' sp s.vars (s.fn H (ds++gs)).vars pv)
  (hps:before=pa++pv) (hk:W.keptBut W' (·∈before)) (hfz:∀ b o,b<W.heap.size->W'.frozen? ⟨b,o,none⟩=W.frozen? ⟨b,o,none⟩)
  (hok:∀ (j:Nat) (t:TypeId) (r:Value),f.resultTypes[j]?=some t->(v.resultList f.resultTypes.size)[j]?=some r->Value.okWide P W' .any 0 t r) :
  s.post enc P f apart fresh handsOn again W args v W':=by
 have hlt:=hW.lt;have hold:∀ p∈before,(fun b=>decide (b<W.heap.size)) p.block=true:=fun p hp=>by simpa using hlt p hp
 refine ⟨ds,gs,before,[],pa,pv,hW,hres _ _ _,hargs _ hold,hvars _ hold,World.keptBut_mono (fun p hp=>⟨hp,?_⟩) hk,fun _=>?_⟩
 ·rw [hps,FE] at hp;exact Or.inr hp
 ·obtain ⟨_,_,_,_,_,hz,hn⟩:=hW;refine ⟨hok,_,_,([]++pa)++pv,⟨[]++pa,pv,trodAll_append (hargs _ (fun _ _=>rfl)) (hres _ _ _),hvars _ (fun _ _=>rfl),rfl,?_,?_⟩,?_⟩
  ·intro b off hp;have hp':MemPlace.cell b off∈before:=by rw [hps];simpa using hp
   rw [hfz b off (hlt _ hp')];exact hz b off hp'
  ·intro ha;have:=hn ha;rw [hps] at this;simpa using this
  ·intro p hp _;rw [hps];simpa using hp
def sn (P:Program):Bool:=(List.range P.types.size).all fun t=>match P.underlying t with|some (.slice e)=>decide (0<P.cellsOf e)|_=>true
theorem nG {H:Type} {enc:TypeId×Value->H} {P:Program} {W W':World} (hlaid:laidOutB P=true) (hrow:mapsRowed P=true) (hfull:sn P=true) :
  ∀ {ts:List TypeId} {vs:List Value} {ds:List (DataW H)} {ps:List MemPlace},(∀ t∈ts,t<P.types.size)->DataW.TrodAll enc P W 0 (fun _=>true) true ts vs ds ps->(∀ p∈ps,W.sameAt W' p) ->
  ∀ sp:Nat->Bool,(∀ p∈ps,sp p.block=true)->DataW.TrodAll enc P W' 0 sp true ts vs ds ps
 | [],_,_,_,_,h,_,_,_=>by
   obtain ⟨rfl,rfl,rfl⟩:=trodAll_nil h;exact trodAll_mk0
 | t::ts,_,_,_,hts,h,hs,sp,hsp=>by
   obtain ⟨v,vs',d,ds',p,q,rfl,rfl,rfl,h1,h2⟩:=trodAll_cons h;obtain ⟨fuel,h1⟩:=h1;refine trodAll_cons_mk ⟨fuel,DataW.trod_stays (kids_rows hlaid hrow) (fun {t e} ht hu=>?_) (fun e=>by cases e) (hts t (by simp)) h1 (fun r hr=>hs r (Gt _ hr)) (fun r hr=>hsp r (Gt _ hr))⟩
    (nG hlaid hrow hfull (fun u hu=>hts u (by simp [hu])) h2 (fun r hr=>hs r (GX _ hr)) sp (fun r hr=>hsp r (GX _ hr)))
   have:=FH.1 hfull t (List.mem_range.2 ht);rw [hu] at this;simpa using this
theorem sj {H:Type} {enc:TypeId×Value->H} {P:Program} {w:World} {base:Nat} {spare:Nat->Bool} {held:Bool}:∀ {ts:List TypeId} {vs:List Value} {ds:List (DataW H)} {ps:List MemPlace},DataW.TrodAll enc P w base spare held ts vs ds ps->ds.length=ts.length
 | [],_,_,_,h=>by obtain ⟨_,rfl,_⟩:=trodAll_nil h;rfl
 | t::ts,_,_,_,h=>by
   obtain ⟨v,vs',d,ds',p,q,rfl,rfl,rfl,_,h2⟩:=trodAll_cons h;simp [sj h2]
theorem tR {P:Program} {f:FuncId} {fn:Func} {s:ChangeSpec} {apart fresh handsOn again:Bool} {tb:TypeId} (hfn:P.funcs[f]?=some fn) (hbody:fn.body.isSome=true) (hname:(fn.name == "runtime.NumGoroutine")=false)
  (hlaid:laidOutB P=true) (hrow:mapsRowed P=true) (hfull:sn P=true) (hts:fn.params.toList.all (fun t=>decide (t<P.types.size))=true) (hres:fn.resultTypes=#[tb]) (hb:P.underlying tb=some .bool) (hvars:s.vars=[])
  (hs:∀ (H:Type) (ds:List (DataW H)),ds.length=fn.params.toList.length->(s.fn H ds).results=[.lit (.bool true)]/\(s.fn H ds).args=ds/\(s.fn H ds).vars=[])
  {X:Type} {ec:X->List AV} {ok:X->Prop} (walk:∀ y,ok y->ae P f (ec y) [] fun av _=>av=.bool true)
  {H:Type} (enc:TypeId×Value->H) (W:World) (args:Array Value) (ds gs:List (DataW H)) (before:List MemPlace)
  (hA:∀ p,DataW.TrodAll enc P W 0 (fun _=>true) true fn.params.toList args.toList ds p->∃ y,ok y/\VRL (wB W) (ec y) args.toList)
  (hW:DataW.Whole enc P fn.params.toList s.vars apart W args.toList ds gs before) (hglob:lG (wB W).mem/\l4 W) :
  Calls P f args W fun e W'=>∃ v,e=.returned v/\s.post enc P fn apart fresh handsOn again W args v W':=by
 have hW':=hW;have hlt:=hW.lt;obtain ⟨p,q,hA0,hV,rfl,hfz,hnd⟩:=hW;rw [hvars] at hV;obtain ⟨rfl,rfl⟩:=trodVars_none hV;obtain ⟨y,hy,hvr⟩:=hA p hA0;have hlen:=sj hA0;obtain ⟨e1,e2,e3⟩:=hs H ds hlen;have hrun:(callFunc f args).run P W=.ok (.enter f args) W:=by
  simp only [callFunc,FA,run_program,FB,hfn,hname];cases hb:fn.body with
  | none=>simp [hb] at hbody
  | some c=>simp
 rcases walk y hy W ⟨fun _=>False,0⟩ (wB W) W args.toList (Rel.start W hglob) hvr with ⟨_,h⟩|⟨_,_,_,_,_,h,_⟩
 ·refine h.mono fun e W' ⟨E',v,av,L',he,_,hav,hv,hR⟩=>?_
  subst hav;simp only [VR] at hv;subst hv;refine ⟨_,he,?_⟩;have hheap:∀ b,b<W.heap.size->W'.heap[b]?=W.heap[b]?:=fun b hb=>hR.frame b hb (fun h=>h)
  have hps:∀ r∈p,W.sameAt W' r:=fun r hr=>by
   have:=hlt r (by simpa using hr);cases r<;>simp only [World.sameAt,MemPlace.block] at this ⊢
   ·simp only [World.cell?];rw [hheap _ this]
   ·exact hheap _ this
  refine vH (pa:=p) (pv:=[]) hW' (fun b sp hd=>?_) (fun sp hsp=>?_) (fun _ _=>?_) rfl ⟨hR.os,hR.output,fun i hi=>?_⟩ (fun b o hb=>?_) (fun j t r h1 h2=>?_)
  ·rw [Ge,e1,hres];exact trodAll_cons_mk (shut_bool hb _) trodAll_mk0
  ·rw [Ge,e2];exact nG hlaid hrow hfull (fun t ht=>by simpa using FH.1 hts t ht) hA0 hps sp (fun r hr=>hsp r (by simpa using hr))
  ·rw [hvars,Ge,e3];rfl
  ·rw [hheap i hi];rcases hc:W.heap[i]? with _|o
   ·trivial
   ·cases o<;>simp
  ·simp only [World.frozen?];rw [hheap b hb]
  ·exact ok_one hres rfl (okWide_bool_mk hb _) j t r h1 h2
 ·rw [show (⟨args.toList⟩:Array Value)=args from rfl,hrun] at h;cases h
open Go Go.ChangeShapes Go.WideShapes Go.ChangeAt
set_option maxHeartbeats 8000000
set_option maxRecDepth 100000
def RdZ (P:Program) (t:TypeId) {X:Type} (ec:X->List AV) (ok:X->Prop):Prop :=
 ∀ (H:Type) (enc:TypeId×Value->H) (w:World) (fuel:Nat) (cs:List Value) (x:DataW H×List MemPlace),
  DataW.trod enc P w 0 (fun _=>true) true fuel t cs=some x->(∀ n∈x.1.weights P t,n<=reachBytes)->∃ y,ok y/\VRL (wB w) (ec y) cs
theorem Rd.z {P:Program} {t:TypeId} {X:Type} {ec:X->List AV} {ok:X->Prop} (h:Rd P t ec ok):RdZ P t ec ok:=fun H enc w fuel cs x hx _=>h H enc w fuel cs x hx
theorem kw {H:Type} {P:Program} {us:List TypeId} {gs:List (DataW H)} {n:Nat}:∀ {ts:List TypeId} {ds:List (DataW H)},n∈DataW.weightsEach P ts ds->n∈DataW.weightsEach P (ts++us) (ds++gs)
 | [],_,h=>by simp [DataW.weightsEach] at h
 | _::_,[],h=>by simp [DataW.weightsEach] at h
 | t::ts,d::ds,h=>by
   simp only [G8,DataW.weightsEach,FE] at h ⊢;rcases h with h|h
   ·exact .inl h
   ·exact .inr (kw h)
def E9 (P:Program) (ts:List TypeId) {X:Type} (ec:X->List AV) (ok:X->Prop):Prop :=
 ∀ (H:Type) (enc:TypeId×Value->H) (w:World) (base:Nat) (vs:List Value) (ds:List (DataW H)) (ps:List MemPlace),
  (∀ (j:Nat) t v,ts[j]?=some t->vs[j]?=some v->Value.okWide P w .any base t v) ->
  DataW.TrodAll enc P w 0 (fun _=>true) true ts vs ds ps->(∀ n∈DataW.weightsEach P ts ds,n<=reachBytes)->∃ y,ok y/\VRL (wB w) (ec y) vs
theorem z7 {P:Program}:E9 P [] (fun _:Unit=>[]) (fun _=>True):=fun H enc w base vs ds ps _ h _=>by
 obtain ⟨rfl,_,_⟩:=trodAll_nil h;exact ⟨(),trivial,by simp [VRL]⟩
open Go Go.ChangeShapes Go.WideShapes Go.ChangeAt
theorem RdZ.map {P:Program} {t:TypeId} {X Y:Type} {ec:X->List AV} {ok:X->Prop} {ec':Y->List AV} {ok':Y->Prop} (h:RdZ P t ec ok) (m:∀ y,ok y->∃ z,ok' z/\ec' z=ec y):RdZ P t ec' ok':=fun H enc w fuel cs x hx hb=>by
 obtain ⟨y,h1,h2⟩:=h H enc w fuel cs x hx hb;obtain ⟨z,h3,h4⟩:=m y h1;exact ⟨z,h3,by rw [h4];exact h2⟩
theorem vg {H:Type} {enc:TypeId×Value->H} {a:Assume} {C:Checked} {os:Os} {f:FuncId} {fn:Func} {s:ChangeSpec} {conds:List PathCond} {apart fresh handsOn again:Bool}
  (own:ownKnob C.prog.godebug=none) (started:os.Started) (noInit:C.prog.inits.idxOf? f=none) (hfn:C.prog.funcs[f]?=some fn)
  (witness:∃ (w:World) (tape:Tape) (i:Input),w.os=os/\(w.forCall tape i).Shaped C.prog/\i.vars=[]/\Input.okWide C.prog (w.forCall tape i) .any w.heap.size f i /\
   s.pre6 enc C.prog fn conds apart (w.forCall tape i).memory i.args/\a.holds C.prog (lone (Frame.enter C.prog f i.args .normal) [] (w.forCall tape i)))
  (contract:∀ (W:World) (base:Nat) (args:Array Value) (ds gs:List (DataW H)) (before:List MemPlace),
   (∀ (j:Nat) t v,fn.params[j]?=some t->args[j]?=some v->Value.okWide C.prog W .any base t v) ->
   DataW.Whole enc C.prog fn.params.toList s.vars apart W args.toList ds gs before ->
   (DataW.weightsEach C.prog (fn.params.toList++s.plain.varTypes C.prog) (ds++gs)).all (·<=reachBytes)=true ->
   Calls C.prog f args W fun e W'=>∃ v,e=.returned v/\s.post enc C.prog fn apart fresh handsOn again W args v W') :
  ReturnsInHanded a C os f .any (s.pre6 enc C.prog fn conds apart) (s.post enc C.prog fn apart fresh handsOn again):=by
 refine returnsInHanded_of_calls own started noInit witness ?_;intro w tape i _ _ _ hok hpre hholds;obtain ⟨_,_,_,fn',hfn',_,_,_,_,hval⟩:=hok;have e:fn'=fn:=Option.some.inj (hfn'.symm.trans hfn);subst e;obtain ⟨⟨ds,gs,before,hw,hc⟩,hz⟩:=hpre;have hw':=DataW.Whole.of_heap (w':=w.forCall tape i) (by rfl) hw;refine (contract (w.forCall tape i) w.heap.size i.args ds gs before hval hw' (hz.weights hw)).mono fun e W' ⟨v,he,hp⟩=>?_
 subst he;exact ChangeSpec.post_blind hp
end Go.Proofs.Ytobihfefmlgaoaa.Av
set_option maxRecDepth 100000
namespace Go.Proofs.Ytobihfefmlgaoaa.Av
open Go
def fZ:LSO:=[Ai 2]
def fY:LSO:=[Aa 3 0,A4 4 3]
def fX:LSO:=[Ai 2]
def fW:LSO:=[Aa 5 0,Ae 6 5,Ac 7 0 6,Ab 8 1 7,AE 9 16 8,Aa 2 9]
def ek:bJ:=⟨10,(.seq (.sreg fZ [])
 (.seq (.seq (.sreg fY AY)
 (.cond (tm 4) (.seq (.sreg fX [])
 .ret)
 .skip))
 (.seq (.sreg fW Bd)
 .ret))),[(.tmp 2)]⟩
attribute [push_cast] fZ fY fX fW
theorem l7:ct Try.prog (fun _ _=>1) 12=some ek.raw:=by kernel_rfl
def jA:LSO:=[Ad 2 0]
def jz:LSO:=[Aa 3 0,A4 4 3]
def jy:LSO:=[Ad 2 0]
def jx:LSO:=[Aa 5 0,Ae 6 5,Ac 7 1 6,Ab 8 1 7,o1 9 (.mlen (tm 8)),Aa 2 9]
def gy:bJ:=⟨10,(.seq (.sreg jA [])
 (.seq (.seq (.sreg jz AY)
 (.cond (tm 4) (.seq (.sreg jy [])
 .ret)
 .skip))
 (.seq (.sreg jx Bd)
 .ret))),[(.tmp 2)]⟩
attribute [push_cast] jA jz jy jx
theorem oU:ct Try.prog (fun _ _=>1) 7=some gy.raw:=by kernel_rfl
def nO:LSO:=[Ai 2]
def nN:LSO:=[Ai 3]
def nM:LSO:=[Aa 6 0,Af 7 6,Ad 8 0]
def nL:LSO:=[Ap 9 8 7]
def nK:LSO:=[An 10 2 6 8,A7 11 2 10,o1 5 (.alloc [(.str []),(.sl [] 0 (some 0))]),Az 2 5 11]
def nJ:List (af×Kd) :=
 [Ao 12 3,Al 13 0 5,Aj 14 1 13 0 0,Al 15 1 5,Aj 16 1 15 0 0,A8 17 31 16 0 0,od 18 (.build [(.str []),(.sl [] 0 (some 0))] [(0,(1,(tm 14))),(1,(1,(tm 17)))]) .pure,
 od 19 (.bslice false 2 1 [(.str []),(.sl [] 0 (some 0))] [(0,(2,(tm 18)))]) (.read 0 0)]
def ma:List af :=
 [⟨(some 20),(.app 1 2 40 [(.str []),(.sl [] 0 (some 0))] (tm 12) (tm 19)),none⟩,⟨(some 3),(.mv (tm 20)),none⟩]
def nI:LSO:=[Am 21 8 1,Aa 8 21]
def nH:LSO:=[Aa 22 3,Aa 2 22]
def m9:bJ:=⟨23,(.seq (.sreg nO [])
 (.seq (.sreg nN [])
 (.seq (.seq (.sreg nM [])
 (.block 0 (.loop (.seq (.sreg nL [])
 (.seq (.cond (tm 9) .skip
 (.exit 0))
 (.seq (.block 1 (.seq (.sreg nK AZ)
 (.dregM nJ ma Bf)))
 (.sreg nI AY)))))))
 (.seq (.sreg nH AY)
 .ret)))),[(.tmp 2)]⟩
attribute [push_cast] nO nN nM nL nK nJ ma nI nH
theorem tv:ct Try.prog (fun _ _=>1) 17=some m9.raw:=by kernel_rfl
def gV:LSO:=[Ai 4,Ai 5]
def gU:LSO:=[Aa 7 0,A4 8 7,Aa 9 8,.grp none 9 false
 [Ak 10 9 0,og 11 9 false (.nilchk (tm 10)),AF 12 9 1 11,A9 13 9 1 12,Ak 14 9 1,AN 15 9 13 14,AL 16 9 15]
 17 (tm 16)]
def gT:LSO:=[Ai 4,Ai 5]
def gS:LSO:=[Aa 18 0,Ae 19 18,Ac 20 1 19,Ab 21 1 20,Aa 22 1,A2 23 21 22,Aa 6 23]
def gR:LSO:=[Aa 24 6,Ae 25 24,Ac 26 0 25,Ab 27 1 26,AE 28 16 27,Aa 29 6,Ae 30 29,Ac 31 2 30,Ab 32 1 31,Ah 33 17 32,Aa 4 28,Aa 5 33]
def eV:bJ:=⟨34,(.seq (.sreg gV [])
 (.seq (.seq (.sreg gU Ba)
 (.cond (tm 17) (.seq (.sreg gT [])
 .ret)
 .skip))
 (.seq (.sreg gS Bb)
 (.seq (.sdreg gR [.pure,(.read 0 0),.pure,(.read 0 0),(.read 0 0),.pure,(.read 0 0),.pure,(.read 0 0)] [true,true,false,false,false,false,false,false,false,false,false,false])
 .ret)))),[(.tmp 4),(.tmp 5)]⟩
attribute [push_cast] gV gU gT gS gR
theorem nh:ct Try.prog (fun _ _=>1) 5=some eV.raw:=by kernel_rfl
def iO:LSO:=[Ad 4 0]
def iN:LSO:=[Aa 5 0,A4 6 5,Aa 7 6,.grp none 7 false
 [Ak 8 7 0,og 9 7 false (.nilchk (tm 8)),AF 10 7 1 9,A9 11 7 1 10,Ak 12 7 1,AN 13 7 11 12,AL 14 7 13]
 15 (tm 14)]
def iM:LSO:=[Ad 4 0]
def iL:LSO:=[Aa 16 0,Ae 17 16,Ac 18 1 17,Ab 19 1 18,Aa 20 1,A2 21 19 20,Ae 22 21,Ac 23 3 22,Ab 24 1 23,Aa 4 24]
def fL:bJ:=⟨25,(.seq (.sreg iO [])
 (.seq (.seq (.sreg iN Ba)
 (.cond (tm 15) (.seq (.sreg iM [])
 .ret)
 .skip))
 (.seq (.sreg iL Bf)
 .ret))),[(.tmp 4)]⟩
attribute [push_cast] iO iN iM iL
theorem nF:ct Try.prog (fun _ _=>1) 9=some fL.raw:=by kernel_rfl
def fE:LSO:=[Ai 4]
def fD:LSO:=[Aa 10 1,Ah 11 15 10,Aa 9 11,Ar 12 9,Au 13 9,Aa 5 12,Aa 6 13]
def fC:LSO:=[Aa 14 0,A4 15 14,Aa 16 15,.grp none 16 false
 [Ak 17 16 6,og 18 16 false (.bin .neq (tm 17) (iv 0))]
 19 (tm 18)]
def fB:LSO:=[Ai 4]
def fA:LSO:=[Aa 20 1,Af 21 20,Ad 22 0]
def fz:LSO:=[Ap 23 22 21]
def fy:LSO:=[Aa 24 22,Aa 7 24]
def fx:LSO:=[Aa 25 0,Aa 26 1,Aa 27 7,o1 28 (.slV 1 (tm 26) (some (tm 27)) none none),Aw 29 8 25 28,Aa 8 29]
def fw:LSO:=[Aa 30 8,A6 31 30 0]
def fu:LSO:=[Aa 32 0,Ae 33 32,Ac 34 1 33,Ab 35 1 34,Aa 36 8,A2 37 35 36,Ae 38 37,Ac 39 0 38,Ab 40 1 39,AE 41 16 40,Aa 4 41]
def eR:LSO:=[Am 42 22 1,Aa 22 42]
def eQ:LSO:=[Ai 4]
def d5:bJ:=⟨43,(.seq (.sreg fE [])
 (.seq (.seq (.sreg fD Bb)
 (.seq (.sreg fC Ba)
 (.cond (tm 19) (.seq (.sreg fB [])
 .ret)
 .skip)))
 (.seq (.seq (.sreg fA Bg)
 (.block 0 (.loop (.seq (.sreg fz [])
 (.seq (.cond (tm 23) .skip
 (.exit 0))
 (.seq (.block 1 (.seq (.sreg fy AY)
 (.seq (.sreg fx Bd)
 (.seq (.sreg fw AY)
 (.cond (tm 31) (.seq (.sreg fu Bj)
 .ret)
 .skip)))))
 (.sreg eR AY)))))))
 (.seq (.sreg eQ [])
 .ret)))),[(.tmp 4)]⟩
attribute [push_cast] fE fD fC fB fA fz fy fx fw fu eR eQ
theorem ly:ct Try.prog (fun _ _=>1) 10=some d5.raw:=by kernel_rfl
def nV:LSO:=[Ai 2]
def nU:LSO:=[o1 3 (.alloc [(.sl [] 0 (some 0))])]
def nT:LSO:=[Aa 8 0,Ah 9 58 8]
def nS:LSO:=[Aa 5 11]
def nR:LSO:=[Aa 13 5,o1 14 (.bslice false 1 1 [(.sl [] 0 (some 0))] [(0,(1,(tm 13)))]),Ah 15 19 14,Aa 12 15,Ar 16 12,Au 17 12,Aa 6 16,Aa 7 17]
def nQ:LSO:=[Ab 18 1 3,Aa 19 6,AO 20 19,AP 21 18 20,Az 1 3 21]
def nP:LSO:=[Ab 22 1 3,Aa 2 22]
def nf:bJ:=⟨23,(.seq (.sreg nV [])
 (.seq (.sreg nU [])
 (.seq (.seq (.sreg nT AY)
 (.block 0 (.rangeF (tm 9) [10,11] (.sreg nS [])
 (.block 1 (.seq (.sreg nR Bo)
 (.sreg nQ Bh))))))
 (.seq (.sreg nP AY)
 .ret)))),[(.tmp 2)]⟩
attribute [push_cast] nV nU nT nS nR nQ nP
theorem tw:ct Try.prog (fun r i=>if r=5/\i=3 then 2 else 1) 36=some nf.raw:=by kernel_rfl
def gQ:LSO:=[Ax 3 0,Ai 6]
def gP:LSO:=[Ab 12 1 3,A4 13 12,Aa 14 13,.grp none 14 false
 [A9 15 14 1 3,og 16 14 false (.nilchk (tm 15)),AF 17 14 1 16,A9 18 14 1 17,Ak 19 14 1,AN 20 14 18 19,AL 21 14 20]
 22 (tm 21),Aa 23 22,.grp none 23 false
 [Ak 24 23 2,og 25 23 false (.bin .lss (tm 24) (iv 0))]
 26 (tm 25),Aa 27 26,.grp none 27 false
 [Ak 28 27 2,og 29 27 false (.bin .gtr (tm 28) (iv 2))]
 30 (tm 29)]
def gO:LSO:=[Ai 6]
def gN:LSO:=[Ab 31 1 3,Ae 32 31,Ac 33 1 32,Ab 34 1 33,Aa 35 1,A2 36 34 35,Ae 37 36,Ac 38 1 37,Ab 39 1 38,Aa 7 39]
def gM:LSO:=[Ai 8]
def gL:LSO:=[Ab 40 1 3,Ae 41 40,Ac 42 1 41,Ab 43 1 42,o1 44 (.mrange (tm 43))]
def gK:LSO:=[o1 45 (.mnext (tm 44)),Ar 46 45]
def gJ:LSO:=[o1 47 (.mentry (tm 44)),Ar 48 47,Au 49 47,Aa 9 48,Aa 10 49]
def gI:LSO:=[Aa 50 10,Ae 51 50,Ac 52 1 51,Ab 53 1 52,Af 54 53,Aa 55 7,Af 56 55,o1 57 (.bin .sub (tm 54) (tm 56)),Aa 11 57]
def gH:LSO:=[Aa 58 11,AH 59 58 0,Aa 60 59,.grp none 60 true
 [Ag 61 60 10,og 62 60 true (.nilchk (tm 61)),og 63 60 true (.faddr 1 (tm 62)),AB 64 60 1 63,Ag 65 60 7,A5 66 60 65,og 67 60 true (.slV 1 (tm 64) none (some (tm 66)) none),
 Ag 68 60 7,AI 69 60 20 67 68]
 70 (tm 69),Aa 71 70,.grp none 71 true
 [Ag 72 71 2,A0 73 71 72 2,Ag 74 71 73,.grp (some (71,true)) 74 false
 [Ak 75 74 11,Ak 76 74 2,og 77 74 false (.bin .eql (tm 75) (tm 76))]
 78 (tm 77)]
 79 (tm 78)]
def f9:LSO:=[Aa 80 8,Aa 81 9,o1 82 (.bslice false 1 1 [(.int .i64 0)] [(0,(1,(tm 81)))]),o1 83 (.app 2 1 8 [(.int .i64 0)] (tm 80) (tm 82)),Aa 8 83]
def f8:LSO:=[Aa 84 8,o1 85 (.mkfn 22 [(tm 3)]),Aw 86 21 84 85]
def f7:LSO:=[Aa 87 8,Aa 6 87]
def aK:bJ:=⟨88,(.seq (.sreg gQ [])
 (.seq (.seq (.sreg gP Be)
 (.cond (tm 30) (.seq (.sreg gO [])
 .ret)
 .skip))
 (.seq (.sreg gN Bf)
 (.seq (.sreg gM [])
 (.seq (.seq (.sreg gL Bc)
 (.block 0 (.loop (.seq (.sreg gK AY)
 (.seq (.cond (tm 46) .skip
 (.exit 0))
 (.block 1 (.seq (.sreg gJ Bi)
 (.seq (.sreg gI Bk)
 (.seq (.sreg gH Bd)
 (.cond (tm 79) (.sreg f9 Bc)
 .skip))))))))))
 (.seq (.sreg f8 [false,false,false])
 (.seq (.sreg f7 AY)
 .ret))))))),[(.tmp 6)]⟩
attribute [push_cast] gQ gP gO gN gM gL gK gJ gI gH f9 f8 f7
theorem bD:ct Try.prog (fun r i=>if r=10/\i=3 then 2 else 1) 11=some aK.raw:=by kernel_rfl
def iK:LSO:=[As 6]
def iJ:LSO:=[Aa 7 1,Af 8 7,Aa 9 2,Af 10 9,o1 11 (.bin .eql (tm 8) (tm 10)),Aa 12 11,.grp none 12 true
 [Ag 13 12 1,Ag 14 12 2,AI 15 12 35 13 14]
 16 (tm 15),Aa 6 16]
def dq:bJ:=⟨17,(.seq (.sreg iK [])
 (.seq (.sreg iJ Be)
 .ret)),[(.tmp 6)]⟩
attribute [push_cast] iK iJ
theorem iu:ct Try.prog (fun _ _=>1) 24=some dq.raw:=by kernel_rfl
def ft:LSO:=[Ax 5 2,Ad 6 0]
def fq:LSO:=[Ac 16 2 5,Ab 17 1 16,Ah 18 15 17,Aa 15 18,Ar 19 15,Au 20 15,Aa 7 19,Aa 8 20]
def fp:LSO:=[Aa 22 0,Ac 23 1 5,Ab 24 1 23,Aa 25 0,Ae 26 25,Ac 27 0 26,Ab 28 1 27,o1 29 (.call 24 [(tm 22),(tm 24),(tm 28)]),Aa 21 29]
def fo:LSO:=[Ad 6 53]
def fm:LSO:=[Aa 31 8,A1 32 31 0,Aa 33 32,.grp none 33 false
 [AF 34 33 2 5,A9 35 33 1 34,AM 36 33 35,og 37 33 false (.bin .eql (tm 36) (iv 0))]
 38 (tm 37),Aa 30 38]
def fk:LSO:=[Ad 6 34]
def fj:LSO:=[Ac 40 2 5,Ab 41 1 40,AS 42 41 1,Ac 43 1 5,Ab 44 1 43,Aw 45 35 42 44,Aa 39 45]
def fi:LSO:=[Ad 6 53]
def fh:LSO:=[Aa 47 0,Ac 48 2 5,Ab 49 1 48,AS 50 49 1,Aw 51 8 47 50,Aq 52 51 0,Aa 46 52]
def fg:LSO:=[Ad 6 32]
def eP:LSO:=[Aa 53 0,Ac 54 2 5,Ab 55 1 54,Aw 56 8 53 55,Aa 9 56]
def eO:LSO:=[Aa 57 9,A6 58 57 0,Aa 59 58,.grp none 59 true
 [Ag 60 59 9,Ag 61 59 1,og 62 59 true (.bin .neq (tm 60) (tm 61))]
 63 (tm 62)]
def eN:LSO:=[Ad 6 68]
def eM:LSO:=[Aa 64 0,Aa 65 1,AC 66 11 64 65 2,Af 67 66,Ad 68 0]
def eL:LSO:=[Ap 69 68 67]
def eK:LSO:=[An 70 1 66 68,Ab 71 1 70,Aa 11 71]
def eJ:LSO:=[Aa 72 0,Ae 73 72,Ac 74 1 73,Ab 75 1 74,Aa 76 11,A2 77 75 76,Ae 78 77,Ac 79 0 78,Ab 80 1 79,Aa 12 80]
def eI:LSO:=[Ac 82 2 5,Ab 83 1 82,Aa 84 12,Aa 85 12,Af 86 85,Ac 87 1 5,Ab 88 1 87,Af 89 88,o1 90 (.bin .sub (tm 86) (tm 89)),
 o1 91 (.slV 1 (tm 84) none (some (tm 90)) none),Aw 92 16 83 91,Ah 93 15 92,Aa 81 93,Ar 94 81,Au 95 81,Aa 13 94,Aa 14 95]
def eH:LSO:=[Aa 96 14,A1 97 96 0]
def eG:LSO:=[Ad 6 34]
def eF:LSO:=[Am 98 68 1,Aa 68 98]
def eE:LSO:=[Ad 6 0]
def ax:bJ:=⟨99,(.seq (.sreg ft [])
 (.seq (.sreg fq Be)
 (.seq (.block 0 (.seq (.sdreg fp [.pure,.pure,(.read 0 0),.pure,(.read 0 0),.pure,(.read 0 0)] Bk)
 (.cond (tm 21) (.seq (.sreg fo [])
 .ret)
 (.seq (.sreg fm Bc)
 (.cond (tm 30) (.seq (.sreg fk [])
 .ret)
 (.seq (.sdreg fj [.pure,(.read 0 0),(.read 0 0),.pure,(.read 0 0)] Bb)
 (.cond (tm 39) (.seq (.sreg fi [])
 .ret)
 (.seq (.sreg fh Bb)
 (.cond (tm 46) (.seq (.sreg fg [])
 .ret)
 .skip)))))))))
 (.seq (.seq (.sreg eP Bc)
 (.seq (.sreg eO Ba)
 (.cond (tm 63) (.seq (.sreg eN [])
 .ret)
 .skip)))
 (.seq (.seq (.sreg eM [true,true,true,false,false])
 (.block 1 (.loop (.seq (.sreg eL [])
 (.seq (.cond (tm 69) .skip
 (.exit 1))
 (.seq (.block 2 (.seq (.sreg eK AZ)
 (.seq (.sreg eJ Bf)
 (.seq (.sdreg eI [.pure,(.read 0 0),.pure,.pure,(.read 0 0),.pure,(.read 0 0),(.read 0 0),.pure,(.read 0 0),(.read 0 0),(.read 0 0),.pure,.pure,.pure,.pure] [true,false,false,false,false,false,false,false,false,false,false,false,false,false,false,false,false])
 (.seq (.sreg eH AY)
 (.cond (tm 97) (.seq (.sreg eG [])
 .ret)
 .skip))))))
 (.sreg eF AY)))))))
 (.seq (.sreg eE [])
 .ret)))))),[(.tmp 6)]⟩
attribute [push_cast] ft fq fp fo fm fk fj fi fh fg eP eO eN eM eL eK eJ eI eH eG eF eE
theorem aU:ct Try.prog (fun _ _=>1) 25=some ax.raw:=by kernel_rfl
def jD:LSO:=[Aa 7 0,Ae 8 7,Ac 9 0 8,Ab 10 1 9,Ae 11 10,Ac 12 1 11,Ab 13 1 12,Aa 14 1,A2 15 13 14,Aa 6 15]
def jC:LSO:=[Aa 16 6,Aa 17 6,Aa 18 2,AE 19 16 18,Aa 20 2,Ah 21 36 20,Ae 22 16,Ac 23 0 22,Az 1 23 19,Ae 24 17,Ac 25 1 24,Az 1 25 21]
def jB:List (af×Kd) :=
 [Ao 26 0,Ay 27 26 0 1,Al 28 0 27,Aj 29 1 28 0 1,Ay 30 29 0 1,Al 31 2 30,Aj 32 1 31 0 1,Ao 33 6,Ay 34 33 0 0,Al 35 1 34,Aj 36 1 35 0 0,od 37 (.call 39 [(tm 36)]) .eff,
 A8 38 38 37 0 0,od 39 (.call 37 [(tm 38),(.av (.str [44]))]) (.read 0 0),Ao 40 1]
def jb:List af :=
 [⟨none,(.mset .str (tm 32) (tm 39) (tm 40)),none⟩]
def gz:bJ:=⟨41,(.seq (.sreg jD Bf)
 (.seq (.sreg jC Bp)
 (.dregM jB jb [false,false,false,false,false,false,false,false,false,false,false,false,false,false,false]))),[]⟩
attribute [push_cast] jD jC jB jb
theorem oV:ct Try.prog (fun r i=>if r=2/\i=11 then 3 else 1) 26=some gz.raw:=by kernel_rfl
def jw:LSO:=[Ax 1 0,o1 2 (.mv (.av .nilfunc))]
def jv:LSO:=[o1 3 (.mkfn 63 [(tm 1)]),Aa 2 3]
def gx:bJ:=⟨4,(.seq (.sreg jw [])
 (.seq (.sreg jv AY)
 .ret)),[(.tmp 2)]⟩
attribute [push_cast] jw jv
theorem oT:ct Try.prog (fun _ _=>1) 39=some gx.raw:=by kernel_rfl
def gG:LSO:=[Ax 2 0]
def gF:LSO:=[Ab 5 1 1,Ah 6 64 5]
def gE:LSO:=[Aa 4 8]
def gD:LSO:=[Ab 9 1 2,Aa 10 4,o1 11 (.callv (tm 9) [(tm 10)]),AD 12 11]
def eU:bJ:=⟨13,(.seq (.sreg gG [])
 (.seq (.sreg gF AY)
 (.block 0 (.rangeF (tm 6) [7,8] (.sreg gE [])
 (.block 1 (.seq (.sreg gD Ba)
 (.cond (tm 12) .ret
 .skip))))))),[]⟩
attribute [push_cast] gG gF gE gD
theorem ng:ct Try.prog (fun _ _=>1) 63=some eU.raw:=by kernel_rfl
def gc:LSO:=[Aa 7 0,Ae 8 7,Ac 9 0 8,Ab 10 1 9,Aa 11 1,AS 12 11 1,Aw 13 8 10 12,Aa 6 13]
def gb:LSO:=[Aa 14 6,A6 15 14 0]
def ga:LSO:=[Aa 16 0,Ae 17 16,Ac 18 0 17,Ab 19 1 18,Ae 20 19,Ac 21 1 20,Ab 22 1 21,Aa 23 6,A2 24 22 23,Ae 25 24,Ac 26 3 25,Ab 27 1 26,Aa 28 2,
 o1 29 (.bin .add (tm 27) (tm 28)),Ae 30 24,Ac 31 3 30,Az 1 31 29]
def cu:bJ:=⟨32,(.seq (.sdreg gc [.pure,(.read 0 0),.pure,(.read 0 0),.pure,(.read 0 0)] Be)
 (.seq (.sreg gb AY)
 (.cond (tm 15) (.sreg ga [false,false,false,false,false,false,false,false,false,false,false,false,false,false,false,false])
 .skip))),[]⟩
attribute [push_cast] gc gb ga
theorem fF:ct Try.prog (fun _ _=>1) 27=some cu.raw:=by kernel_rfl
def pW:LSO:=[As 4]
def pV:LSO:=[Aa 10 0,Ah 11 15 10,Aa 9 11,Ar 12 9,Au 13 9,Aa 5 12,Aa 6 13]
def pU:LSO:=[Aa 15 1,Ah 16 19 15,Aa 14 16,Ar 17 14,Au 18 14,Aa 7 17,Aa 8 18]
def pT:LSO:=[Aa 19 6,A1 20 19 0,Aa 21 20,.grp none 21 false
 [Ak 22 21 8,og 23 21 false (.bin .neq (tm 22) (iv 0))]
 24 (tm 23),Aa 25 24,.grp none 25 false
 [Ak 26 25 0,AM 27 25 26,Ak 28 25 1,AM 29 25 28,og 30 25 false (.bin .lss (tm 27) (tm 29))]
 31 (tm 30)]
def pS:LSO:=[As 4]
def pR:LSO:=[Aa 32 0,Aa 33 0,Af 34 33,Aa 35 1,Af 36 35,o1 37 (.bin .sub (tm 34) (tm 36)),o1 38 (.slV 1 (tm 32) (some (tm 37)) none none),
 o1 39 (.call 29 [(tm 38),(.av (.bool true))]),Aa 40 7,o1 41 (.bin .eql (tm 39) (tm 40)),Aa 4 41]
def dz:bJ:=⟨42,(.seq (.sreg pW [])
 (.seq (.sreg pV Bb)
 (.seq (.sreg pU Bl)
 (.seq (.seq (.sreg pT Bd)
 (.cond (tm 31) (.seq (.sreg pS [])
 .ret)
 .skip))
 (.seq (.sreg pR Bj)
 .ret))))),[(.tmp 4)]⟩
attribute [push_cast] pW pV pU pT pS pR
theorem fU:ct Try.prog (fun _ _=>1) 35=some dz.raw:=by kernel_rfl
def cg:LSO:=[Ax 1 0,o1 2 (.mv (.av .nilfunc))]
def ce:LSO:=[o1 3 (.mkfn 75 [(tm 1)]),Aa 2 3]
def bp:bJ:=⟨4,(.seq (.sreg cg [])
 (.seq (.sreg ce AY)
 .ret)),[(.tmp 2)]⟩
attribute [push_cast] cg ce
theorem d9:ct Try.prog (fun _ _=>1) 58=some bp.raw:=by kernel_rfl
def bV:LSO:=[Ab 4 1 1,Af 5 4,AJ 6 5 1,Aa 3 6]
def bU:LSO:=[Aa 7 3,AH 8 7 0]
def bT:LSO:=[Aa 11 0,Aa 12 3,Ab 13 1 1,Aa 14 3,An 15 1 13 14,Ab 16 1 15,o1 17 (.callv (tm 11) [(tm 12),(tm 16)]),AD 18 17]
def bS:LSO:=[Aa 9 3,AJ 10 9 1,Aa 3 10]
def bh:bJ:=⟨19,(.seq (.sreg bV Ba)
 (.block 0 (.loop (.seq (.seq (.sreg bU AY)
 (.cond (tm 8) .skip
 (.exit 0)))
 (.seq (.block 1 (.seq (.sreg bT Be)
 (.cond (tm 18) .ret
 .skip)))
 (.sreg bS AZ)))))),[]⟩
attribute [push_cast] bV bU bT bS
theorem dR:ct Try.prog (fun _ _=>1) 75=some bh.raw:=by kernel_rfl
def cF:LSO:=[Ax 1 0,o1 2 (.mv (.av .nilfunc))]
def cE:LSO:=[o1 3 (.mkfn 78 [(tm 1)]),Aa 2 3]
def br:bJ:=⟨4,(.seq (.sreg cF [])
 (.seq (.sreg cE AY)
 .ret)),[(.tmp 2)]⟩
attribute [push_cast] cF cE
theorem em:ct Try.prog (fun _ _=>1) 64=some br.raw:=by kernel_rfl
def b8:LSO:=[Ab 4 1 1,Af 5 4,AJ 6 5 1,Aa 3 6]
def b7:LSO:=[Aa 7 3,AH 8 7 0]
def bZ:LSO:=[Aa 11 0,Aa 12 3,Ab 13 1 1,Aa 14 3,An 15 1 13 14,Ab 16 1 15,o1 17 (.callv (tm 11) [(tm 12),(tm 16)]),AD 18 17]
def bY:LSO:=[Aa 9 3,AJ 10 9 1,Aa 3 10]
def bj:bJ:=⟨19,(.seq (.sreg b8 Ba)
 (.block 0 (.loop (.seq (.seq (.sreg b7 AY)
 (.cond (tm 8) .skip
 (.exit 0)))
 (.seq (.block 1 (.seq (.sreg bZ Be)
 (.cond (tm 18) .ret
 .skip)))
 (.sreg bY AZ)))))),[]⟩
attribute [push_cast] b8 b7 bZ bY
theorem d6:ct Try.prog (fun _ _=>1) 78=some bj.raw:=by kernel_rfl
def dX:LSO:=[Ai 2]
def dW:LSO:=[Aa 3 0,o1 4 (.call 62 [(.av (.sl [] 0 (some 0))),(tm 3)]),Aa 2 4]
def dr:bJ:=⟨5,(.seq (.sreg dX [])
 (.seq (.sreg dW AZ)
 .ret)),[(.tmp 2)]⟩
attribute [push_cast] dX dW
theorem jp:ct Try.prog (fun _ _=>1) 38=some dr.raw:=by kernel_rfl
def cr:LSO:=[Ax 2 0,Ai 4]
def cq:LSO:=[Aa 6 1]
def co:LSO:=[Aa 5 7]
def cn:LSO:=[Ab 8 1 2,Aa 9 5,AO 10 9,AP 11 8 10,Az 1 2 11]
def cj:LSO:=[Ab 12 1 2,Aa 4 12]
def bq:bJ:=⟨13,(.seq (.sreg cr [])
 (.seq (.seq (.sreg cq [])
 (.block 0 (.rangeF (tm 6) [7] (.sreg co [])
 (.block 1 (.sreg cn Bh)))))
 (.seq (.sreg cj AY)
 .ret))),[(.tmp 4)]⟩
attribute [push_cast] cr cq co cn cj
theorem ed:ct Try.prog (fun r i=>if r=3/\i=3 then 2 else 1) 62=some bq.raw:=by kernel_rfl
def dh:LSO:=[As 4]
def dg:LSO:=[Aa 6 0,Af 7 6,Aa 8 1,Af 9 8,o1 10 (.bin .neq (tm 7) (tm 9))]
def df:LSO:=[As 4]
def de:LSO:=[Aa 11 0,Af 12 11,Ad 13 0]
def dd:LSO:=[Ap 14 13 12]
def dc:LSO:=[Aa 15 13,Aa 5 15]
def db:LSO:=[Aa 16 0,Aa 17 5,An 18 1 16 17,Ab 19 1 18,Aa 20 1,Aa 21 5,An 22 1 20 21,Ab 23 1 22,o1 24 (.bin .neq (tm 19) (tm 23))]
def da:LSO:=[As 4]
def cZ:LSO:=[Am 25 13 1,Aa 13 25]
def cY:LSO:=[o1 4 (.mv (.av (.bool true)))]
def aV:bJ:=⟨26,(.seq (.sreg dh [])
 (.seq (.seq (.sreg dg Bc)
 (.cond (tm 10) (.seq (.sreg df [])
 .ret)
 .skip))
 (.seq (.seq (.sreg de Bg)
 (.block 0 (.loop (.seq (.sreg dd [])
 (.seq (.cond (tm 14) .skip
 (.exit 0))
 (.seq (.block 1 (.seq (.sreg dc AY)
 (.seq (.sdreg db [.pure,.pure,(.read 0 0),(.read 0 0),.pure,.pure,(.read 0 0),(.read 0 0)] Bk)
 (.cond (tm 24) (.seq (.sreg da [])
 .ret)
 .skip))))
 (.sreg cZ AY)))))))
 (.seq (.sreg cY [])
 .ret)))),[(.tmp 4)]⟩
attribute [push_cast] dh dg df de dd dc db da cZ cY
theorem cU:ct Try.prog (fun _ _=>1) 20=some aV.raw:=by kernel_rfl
attribute [push_cast] ek gy m9 eV fL d5 nf aK dq ax gz gx eU cu dz bp bh br bj dr bq aV
end Go.Proofs.Ytobihfefmlgaoaa.Av
set_option maxRecDepth 100000
namespace Go.Proofs.Ytobihfefmlgaoaa.Av
open Go
def kj:LSO:=[As 0]
def ki:LSO:=[AK 1]
def kg:LSO:=[AK 2]
def ke:LSO:=[o1 8 (.call 4 [(.av (.sl [] 0 (some 0)))]),Aa 7 8,Ar 9 7,Au 10 7,Aa 3 9,Aa 4 10]
def kc:LSO:=[Aa 12 1,o1 13 (.call 5 [(tm 12),(iv 1)]),Aa 11 13,Ar 14 11,Au 15 11,Aa 5 14,Aa 6 15]
def kb:LSO:=[o1 16 (.call 6 []),Aa 17 16,.grp none 17 true
 [Ag 18 17 4,A0 19 17 18 2]
 20 (tm 19),Aa 21 20,.grp none 21 true
 [Ag 22 21 5,A5 23 21 22,Ag 24 21 6,A5 25 21 24,AA 26 21 23 25,Ag 27 21 1,og 28 21 true (.call 7 [(tm 27)]),AA 29 21 26 28,Ag 30 21 1,
 og 31 21 true (.call 8 [(tm 30),(.av (.sl [] 0 (some 0)))]),AA 32 21 29 31,Ag 33 21 1,og 34 21 true (.call 9 [(tm 33),(iv 1)]),AA 35 21 32 34,Ag 36 21 1,
 og 37 21 true (.call 10 [(tm 36),(.av (.sl [] 0 (some 0)))]),A5 38 21 37,AA 39 21 35 38,Ag 40 21 1,og 41 21 true (.call 11 [(tm 40),(iv 1),(iv 2)]),A5 42 21 41,AA 43 21 39 42,
 Ag 44 21 1,og 45 21 true (.call 12 [(tm 44)]),A5 46 21 45,AA 47 21 43 46,A0 48 21 47 0]
 49 (tm 48),Aa 50 49,.grp none 50 true
 [Ag 51 50 1,og 52 50 true (.build [(.int .i64 0),(.sl [] 0 (some 0)),(.sl [] 0 (some 0)),(.sl [] 0 (some 0))] [(0,(1,(iv 2)))]),AI 53 50 13 51 52,A0 54 50 53 1]
 55 (tm 54),Aa 56 55,.grp none 56 true
 [Ag 57 56 2,og 58 56 true (.build [(.int .i64 0),(.sl [] 0 (some 0)),(.sl [] 0 (some 0)),(.sl [] 0 (some 0))] [(0,(1,(iv 1)))]),AI 59 56 14 57 58,A0 60 56 59 1]
 61 (tm 60),Aa 0 61]
def gC:bJ:=⟨62,(.seq (.sreg kj [])
 (.seq (.sreg ki [])
 (.seq (.sreg kg [])
 (.seq (.sreg ke Bd)
 (.seq (.sreg kc Bl)
 (.seq (.sreg kb Bf)
 .ret)))))),[(.tmp 0)]⟩
attribute [push_cast] kj ki kg ke kc kb
theorem oW:ct Try.prog (fun _ _=>1) 3=some gC.raw:=by kernel_rfl
attribute [push_cast] gC
set_option maxHeartbeats 8000000
set_option maxRecDepth 100000
abbrev Atr:=List UInt8×List (List UInt8)
theorem nr (p:Nat->Bool) (xs:List (List UInt8)):AV.refsL p (xs.map AV.str)=true:=AV.refsL_iff.2 fun a ha=>by
 obtain ⟨x,_,rfl⟩:=FF.1 ha;rfl
abbrev atA (a:Atr):List AV:=[.str a.1,.sl (a.2.map AV.str) a.2.length none]
def eW (l:List Atr):List AV:=l.flatMap atA
theorem nw (a:Atr) (l:List Atr):eW (a::l)=.str a.1 :: .sl (a.2.map AV.str) a.2.length none::eW l:=rfl
theorem Cg (l m:List Atr):eW (l++m)=eW l++eW m:=by simp [eW]
theorem Cf (l:List Atr):(eW l).length=l.length * 2:=by
 induction l with
 | nil=>rfl
 | cons a l ih=>rw [nw];simp only [FT];omega
theorem uE (p:Nat->Bool):∀ l:List Atr,AV.refsL p (eW l)=true
 | []=>rfl
 | a::l=>by rw [nw];simp [AV.refsL,AV.refs,nr,uE p l]
theorem wf (l:List (List UInt8)):AV.frzL (l.map AV.str)=l.map AV.str:=by rw [AV.frzL_eq,FR];rfl
theorem wp:∀ l:List Atr,AV.frzL (eW l)=eW l
 | []=>rfl
 | a::l=>by rw [nw];simp only [AV.frzL,AV.frz,wf,wp l]
theorem yg:∀ {l:List Atr} {k:Nat},k<l.length->((eW l).drop (k * 2)).take 2=atA (l.getD k ([],[]))
 | a::l,0,_=>rfl
 | a::l,k+1,h=>by
   have ih:=@yg l k (by simpa using h);rw [show (k+1) * 2=k * 2+1+1 by omega,nw];simpa using ih
end Go.Proofs.Ytobihfefmlgaoaa.Av
set_option maxRecDepth 100000
namespace Go.Proofs.Ytobihfefmlgaoaa.Av
open Go
def mB:LSO:=[A3 2]
def mA:LSO:=[Aa 6 0,o1 7 (.s2bO (tm 6)),Aa 3 7]
def mz:LSO:=[Aa 8 3,Af 9 8,Ad 10 0]
def mw:LSO:=[Ap 11 10 9]
def mu:LSO:=[Aa 12 10,An 13 1 8 10,Ab 14 1 13,Aa 4 12,Aa 5 14]
def mt:LSO:=[Aa 15 5,o1 16 (.bin .geq (tm 15) (.av (.int .u8 65))),Aa 17 16,.grp none 17 true
 [Ag 18 17 5,og 19 17 true (.bin .leq (tm 18) (.av (.int .u8 90)))]
 20 (tm 19)]
def mr:LSO:=[Aa 21 3,Aa 22 4,Aa 23 5,o1 24 (.bin .add (tm 23) (.av (.int .u8 32))),An 25 1 21 22,Az 1 25 24]
def mq:LSO:=[Am 26 10 1,Aa 10 26]
def mp:LSO:=[Aa 27 3,o1 28 (.b2s (tm 27)),Aa 2 28]
def lA:bJ:=⟨29,(.seq (.sreg mB [])
 (.seq (.sreg mA AZ)
 (.seq (.seq (.sreg mz [])
 (.block 0 (.loop (.seq (.sreg mw [])
 (.seq (.cond (tm 11) .skip
 (.exit 0))
 (.seq (.block 1 (.seq (.sreg mu Bi)
 (.seq (.sreg mt Ba)
 (.cond (tm 20) (.sreg mr [false,false,false,false,false])
 .skip))))
 (.sreg mq AY)))))))
 (.seq (.sreg mp AZ)
 .ret)))),[(.tmp 2)]⟩
attribute [push_cast] mB mA mz mw mu mt mr mq mp
theorem rU:ct Try.prog (fun r i=>if r=1/\i=1 then 2 else 1) 42=some lA.raw:=by kernel_rfl
def mo:LSO:=[A3 2]
def mm:LSO:=[Ai 3]
def ml:LSO:=[Aa 6 0,Ah 7 42 6,o1 8 (.s2b (tm 7)),Af 9 8,Ad 10 0]
def mj:LSO:=[Ap 11 10 9]
def mh:LSO:=[An 12 1 8 10,Ab 13 1 12,Aa 5 13]
def mg:LSO:=[Aa 14 5,o1 15 (.bin .eql (tm 14) (.av (.int .u8 32))),Aa 16 15,.grp none 16 true
 [Ag 17 16 3,A5 18 16 17,A0 19 16 18 0,Ag 20 16 19,.grp (some (16,true)) 20 false
 [Ak 21 20 3,Ak 22 20 3,AM 23 20 22,og 24 20 false (.bin .sub (tm 23) (iv 1)),og 25 20 false (.iaddr 1 (tm 21) (tm 24)),A9 26 20 1 25,
 og 27 20 false (.bin .eql (tm 26) (.av (.int .u8 32)))]
 28 (tm 27)]
 29 (tm 28)]
def mf:LSO:=[Aa 30 3,Aa 31 5,o1 32 (.bslice false 1 1 [(.int .u8 0)] [(0,(1,(tm 31)))]),AU 33 30 32,Aa 3 33]
def me:LSO:=[Am 34 10 1,Aa 10 34]
def md:LSO:=[Aa 35 3,Af 36 35,A6 37 36 0,Aa 38 37,.grp none 38 true
 [Ag 39 38 3,Ag 40 38 3,A5 41 38 40,og 42 38 true (.bin .sub (tm 41) (iv 1)),og 43 38 true (.iaddr 1 (tm 39) (tm 42)),AB 44 38 1 43,AT 45 38 44]
 46 (tm 45)]
def mc:LSO:=[Aa 47 3,Aa 48 3,Af 49 48,AJ 50 49 1,o1 51 (.slV 1 (tm 47) none (some (tm 50)) none),Aa 3 51]
def lL:LSO:=[Aa 52 3,o1 53 (.b2s (tm 52)),Aa 2 53]
def lz:bJ:=⟨54,(.seq (.sreg mo [])
 (.seq (.sreg mm [])
 (.seq (.seq (.sreg ml [true,true,true,false,false])
 (.block 0 (.loop (.seq (.sreg mj [])
 (.seq (.cond (tm 11) .skip
 (.exit 0))
 (.seq (.block 1 (.seq (.sreg mh AZ)
 (.seq (.seq (.sreg mg Ba)
 (.cond (tm 29) (.exit 1)
 .skip))
 (.sreg mf Bc))))
 (.sreg me AY)))))))
 (.seq (.seq (.sreg md Bc)
 (.cond (tm 46) (.sreg mc Bd)
 .skip))
 (.seq (.sreg lL AZ)
 .ret))))),[(.tmp 2)]⟩
attribute [push_cast] mo mm ml mj mh mg mf me md mc lL
theorem rT:ct Try.prog (fun _ _=>1) 43=some lz.raw:=by kernel_rfl
attribute [push_cast] lA
variable {L:List Blk} {K:Fw}
set_option maxHeartbeats 8000000
set_option maxRecDepth 100000
def gg (c:UInt8):UInt8:=if 65<=c.toNat/\c.toNat<=90 then c+32 else c
def az (s:List UInt8):List UInt8:=s.map gg
theorem xZ {c:UInt8} (h1:65<=c.toNat) (h2:c.toNat<=90):((gg c).toNat:Int)=(c.toNat:Int)+32:=by
 rw [gg,if_pos ⟨h1,h2⟩,UInt8.toNat_add];have:(32:UInt8).toNat=32:=rfl;omega
theorem qm {c:UInt8} (h:¬ (65<=c.toNat/\c.toNat<=90)):gg c=c:=by rw [gg,if_neg h]
theorem o8 (l:List UInt8):(u8s l).all yS=true:=by
 simp only [u8s,List.all_map,FH];intro x _;have:=x.toNat_lt;simp [yS]
theorem o7 (l:List UInt8):(u8s l).map wL=l:=by
 induction l with
 | nil=>rfl
 | cons x l ih =>
   simp only [u8s,FQ,FR] at ih ⊢;rw [ih];simp [wL]
theorem xN (l:List UInt8) (c:UInt8):u8s (l++[c])=u8s l++[.int .u8 c.toNat]:=by simp [u8s]
theorem xu {s:List UInt8} {k:Nat} (h:k<s.length):az (s.take (k+1))=az (s.take k)++[gg (s.getD k 0)]:=by
 rw [Gc h,az,FZ];simp [az,h]
theorem C7 {s:List UInt8} (hs:(s.length:Int)<=140737488351232) (h:K (.str (az s)) L):Fv 42 [.str s] L K:=by
 replace h:=hid h;refine Fu rU ?_;refine aM (fun n T' L'=>∃ (k:Nat) (v:List AV),n=s.length - k/\k<=s.length/\v=u8s (az (s.take k)++s.drop k)/\T'=[(10,.int .i64 (k:Int)),(9,.int .i64 s.length),(8,.lsl L.length 0 s.length none 1),(3,.lsl L.length 0 s.length none 1),(2,.str [])]/\L'=L++[.bytes v]) (CutS (b:=by simp)) ⟨0,_,rfl,FW _,rfl,rfl,rfl⟩ ?_;rintro _ _ _ ⟨k,v,rfl,hk,hv,rfl,rfl⟩;by_cases hlt:k<s.length
 ·have h1:(k:Int)<(s.length:Int):=by omega
  have h2:=Ft k (by omega);obtain ⟨c,hc⟩:=Fq (s.getD k 0);have hd:s.drop k=c::s.drop (k+1):=by
   rw [GZ hlt,<- hc,F4,FN hlt];rfl
  have hlk:(az (s.take k)).length=k:=by simp [az];omega
  have hv1:v=u8s (az (s.take k)) ++ .int .u8 c.toNat::u8s (s.drop (k+1)):=by rw [hv,hd];simp [u8s]
  have hl2:(u8s (az (s.take k))).length=k:=by simp [u8s,hlk]
  have hvl:v.length=s.length:=by rw [hv];simp [u8s,az];omega
  have hvk:k<v.length:=by omega
  have hvg:v.getD k .undef=.int .u8 c.toNat:=by rw [hv1];simp [F4,FJ,hl2]
  have hsucc:=xu hlt;rw [hc] at hsucc;have hnew:u8s (az (s.take (k+1))++s.drop (k+1))=u8s (az (s.take k)) ++ .int .u8 (gg c).toNat::u8s (s.drop (k+1)):=by rw [hsucc];simp [u8s]
  have hspl:∀ x,v.take k++x::v.drop (k+1)=u8s (az (s.take k))++x::u8s (s.drop (k+1)):=fun x=>by
   rw [hv1,List.take_left' hl2,List.drop_append,hl2,List.drop_eq_nil_of_le (by omega),show k+1 - k=1 by omega];rfl
  clear hv hd hlk hsucc;replace hv1:=hid hv1;replace hnew:=hid hnew;replace hspl:=hid hspl;have hc255:=c.toNat_lt;by_cases hu:65<=c.toNat/\c.toNat<=90
  ·have u1:(65:Int)<=(c.toNat:Int):=by omega
   have u2:(c.toNat:Int)<=90:=by omega
   have u3:=hid (xZ hu.1 hu.2);have u4:IntKind.u8.wrap ((c.toNat:Int)+32)=(c.toNat:Int)+32:=yt (by omega) (by omega);clear hu;refine wk ?_;refine aJ _ _ _ (by omega) (CutS (b:=by simp)) ⟨k+1,_,rfl,hlt,?_,rfl,rfl⟩;rw [hnew.out,u3.out];exact hspl.out _
  ·have u3:=hid (qm hu);have u5:(decide ((65:Int)<=(c.toNat:Int)) && decide ((c.toNat:Int)<=90))=false:=by simp;omega
   clear hu
   repeat' first
    | refine ku ?_
    | (first|refine iC (by kernel_rfl) ?_|refine eX (by kernel_rfl) ?_|refine fa ?_|refine qE ?_|refine lE (fun _=>?_)|refine dU ?_|refine iF ?_)
      refine sm ?_
    | (first|refine iy (by kernel_rfl) ?_|refine fV ?_|refine eZ ?_|refine iE ?_|refine lK (dT ?_))
      refine sl ?_
    | exact lF
    | first|apply lH|apply iz|apply lI|apply iA|apply lJ|apply iB
    | refine fe ?_
    | refine eY ?_
    | first|refine fb rfl ?_|refine fc rfl ?_|refine dA rfl ?_ ?_|refine gp rfl (fun _=>?_) (fun _=>?_)|refine gm rfl (fun _=>?_) (fun _=>?_)
    | ((first|refine dy (fun _=>?_) (fun _=>?_)|refine dN (fun _=>?_) (fun _=>?_))<;>try refine sm ?_)
    | refine And.intro trivial ?_
    | refine And.intro (by omega) ?_
    | refine dV rfl (fun _=>?_) (fun _=>?_)
    | refine And.intro ?_ ?_
   all_goals first
    | omega
    | (refine aJ _ _ _ (by omega) (CutS (b := by simp)) ⟨k + 1, _, rfl, hlt, ?_, rfl, rfl⟩
       rw [hnew.out,u3.out];exact hv1.out)
 ·have hke:k=s.length:=by omega
  subst hke;have h1:¬ (s.length:Int)<(s.length:Int):=by omega
  have hv1:v=u8s (az s):=by rw [hv];simp
  clear hv;subst hv1;have e1:=o8 (az s);have e2:=o7 (az s);have e4:(u8s (az s)).length=s.length:=by simp [u8s,az]
  have e5:(u8s (az s)).take s.length=u8s (az s):=by rw [<- e4];exact F5
  refine wk ?_;exact ah rfl h.out
theorem mW {s:List UInt8} (hs:(s.length:Int)<=100000) (h:K (.str (az s)) L):Fv 42 [.str s] L K:=C7 (by omega) h
def EI (c:UInt8):Option Nat:=if 48<=c.toNat/\c.toNat<=57 then some (c.toNat - 48) else if 97<=c.toNat/\c.toNat<=102 then some (c.toNat - 87) else if 65<=c.toNat/\c.toNat<=70 then some (c.toNat - 55) else none
def EJ (a b:UInt8):Option UInt8:=match EI a,EI b with
 | some x,some y=>some (UInt8.ofNat (16 * x+y))
 | _,_=>none
def td (b:List UInt8):Bool:=b.isEmpty || b.getLast? == some 32
def aC (b:List UInt8) (c:UInt8):List UInt8:=if c=32/\td b=true then b else b++[c]
def bi (s:List UInt8):List UInt8:=s.foldl aC []
def cT (b:List UInt8):List UInt8:=if b.getLast?=some 32 then b.dropLast else b
def ba (s:List UInt8):List UInt8:=cT (bi (az s))
theorem qh (b:List UInt8) (c:UInt8):(aC b c).length<=b.length+1:=by
 unfold aC;split<;>simp
theorem sD {s:List UInt8} {k:Nat} (h:k<s.length):bi (s.take (k+1))=aC (bi (s.take k)) (s.getD k 0):=by
 rw [Gc h,bi,List.foldl_append];simp [bi,h]
theorem kU (s:List UInt8):∀ k,(bi (s.take k)).length<=k
 | 0=>by simp [bi]
 | k+1=>by
   have ih:=kU s k;by_cases h:k<s.length
   ·rw [sD h];have:=qh (bi (s.take k)) (s.getD k 0);omega
   ·rw [Gd (by omega),<- Gd (l:=s) (i:=k) (by omega)];omega
theorem sC {s:List UInt8} (hs:(s.length:Int)<=100000) (h:K (.str (ba s)) L):Fv 43 [.str s] L K:=by
 replace h:=hid h;refine ac rT (by simp [lz]) ?_;simp only [lz,au];obtain ⟨t,ht⟩:=Fq (az s);have htl:(t.length:Int)<=100000:=by rw [<- ht];simpa [az] using hs
 have kk1:=@hid _ (fun L K=>mW hs (L:=L) (K:=K));refine wk ?_;refine iD (l:=[]) (n:=0) 3 1 rfl (GP 1).symm ?_;refine aM (fun n T' L'=>∃ (k:Nat) (b:List UInt8) (v:List AV) (m:Nat),n=t.length - k/\k<=t.length/\b=bi (t.take k)/\v=u8s b/\m=b.length/\T'=[(10,.int .i64 (k:Int)),(9,.int .i64 t.length),(8,.sl (u8s t) t.length none),(3,.gsl v m L.length 1),(2,.str [])]/\L'=L++[.spare m 1]) (CutS (b:=by simp)) ⟨0,[],[],0,rfl,FW _,rfl,rfl,rfl,rfl,rfl⟩ ?_;rintro _ _ _ ⟨k,b,v,m,rfl,hk,hb,rfl,rfl,rfl,rfl⟩;replace hb:=hid hb;by_cases hlt:k<t.length
 ·have h1:(k:Int)<(t.length:Int):=by omega
  have h2:=Ft k (by omega);have hsucc:=hid (sD hlt);obtain ⟨c,hc⟩:=Fq (t.getD k 0);have hg:(u8s t).getD k .undef=.int .u8 c.toNat:=by simp [u8s,hlt,<- hc]
  have hlk:k<(u8s t).length:=by simpa [u8s] using hlt
  rw [hc] at hsucc;have hbl:b.length<=k:=by rw [hb.out];exact kU t k
  have hstep:∀ b',b'=aC b c->b'=bi (t.take (k+1)):=fun b' e=>by rw [hsucc.out,<- hb.out];exact e
  have c32:((c.toNat:Int)=32)↔c=32:=⟨fun e=>HW.1 (by have:(32:UInt8).toNat=32:=rfl;omega),fun e=>by rw [e];rfl⟩;replace hstep:=hid hstep;replace c32:=hid c32;clear hsucc hb hc;have hub:(u8s b).length=b.length:=by simp [u8s]
  have rest:∀ b',b'=aC b c->b'.length<=b.length+1:=fun b' e=>by rw [e];exact qh b c
  clear rest;by_cases hc:(c.toNat:Int)=32
  ·rcases Hb b with hb0|⟨d,x,hb0⟩
   ·have e0:(b.length:Int)=0:=by rw [hb0];rfl
    have e1:=hid (hstep.out b (by rw [aC,if_pos ⟨c32.out.1 hc,by rw [hb0];rfl⟩]));clear hb0;refine wk ?_;exact aJ _ _ _ (by omega) (CutS (b:=by simp)) ⟨k+1,b,_,_,rfl,hlt,e1.out,rfl,rfl,rfl,rfl⟩
   ·have e0:¬ (b.length:Int)=0:=by rw [hb0];simp;omega
    have e1:IntKind.i64.wrap ((b.length:Int) - 1)=(d.length:Int):=by rw [aw (by omega) (by omega),hb0];simp
    have e2:(u8s b).getD d.length .undef=.int .u8 x.toNat:=by rw [hb0];simp [u8s,F4]
    have e3:d.length<(u8s b).length:=by rw [hb0];simp [u8s]
    have e4:(d.length:Int)<(b.length:Int):=by rw [hb0];simp;omega
    have x32:x=32↔(x.toNat:Int)=32:=⟨fun e=>by rw [e];rfl,fun e=>HW.1 (by have:(32:UInt8).toNat=32:=rfl;omega)⟩;have hend:td b=true↔x=32:=by rw [hb0];simp [td]
    replace hb0:=hid hb0;replace x32:=hid x32;replace hend:=hid hend;by_cases hx:(x.toNat:Int)=32
    ·have e5:=hid (hstep.out b (by rw [aC,if_pos ⟨c32.out.1 hc,hend.out.2 (x32.out.2 hx)⟩]));refine wk ?_;exact aJ _ _ _ (by omega) (CutS (b:=by simp)) ⟨k+1,b,_,_,rfl,hlt,e5.out,rfl,rfl,rfl,rfl⟩
    ·have e5:=hid (hstep.out (b++[c]) (by rw [aC,if_neg fun e=>hx (x32.out.1 (hend.out.1 e.2))]));refine wk ?_;exact aJ _ _ _ (by omega) (CutS (b:=by simp)) ⟨k+1,b++[c],_,_,rfl,hlt,e5.out,(by rw [xN,hc]),(by simp),rfl,rfl⟩
  ·have e1:=hid (hstep.out (b++[c]) (by rw [aC,if_neg fun e=>hc (c32.out.2 e.1)]));refine wk ?_;exact aJ _ _ _ (by omega) (CutS (b:=by simp)) ⟨k+1,b++[c],_,_,rfl,hlt,e1.out,(xN b c).symm,(by simp),rfl,rfl⟩
 ·have hke:k=t.length:=by omega
  subst hke;have h1:¬ (t.length:Int)<(t.length:Int):=by omega
  have hbl:b.length<=t.length:=by rw [hb.out];exact kU t _
  have hub:(u8s b).length=b.length:=by simp [u8s]
  have hfin:cT b=ba s:=by rw [ba,ht,hb.out,F5]
  have e1:=o8 b;have e2:=o7 b;replace hb:=hid hfin;clear hfin;rcases Hb b with hb0|⟨d,x,hb0⟩
  ·have e0:¬ (0:Int)<(b.length:Int):=by rw [hb0];simp
   have e3:=hid (show b=ba s by rw [<- hb.out,hb0];rfl);clear hb0;refine wk ?_;refine ah rfl ?_;rw [e3.out];exact h.out
  ·have e0:(0:Int)<(b.length:Int):=by rw [hb0];simp;try omega
   have e3:IntKind.i64.wrap ((b.length:Int) - 1)=(d.length:Int):=by rw [aw (by omega) (by omega),hb0];simp
   have e4:(u8s b).getD d.length .undef=.int .u8 x.toNat:=by rw [hb0];simp [u8s,F4]
   have e5:d.length<(u8s b).length:=by rw [hb0];simp [u8s]
   have e6:(d.length:Int)<(b.length:Int):=by rw [hb0];simp;omega
   have e7:(u8s b).take d.length=u8s d:=by rw [hb0];simp [u8s]
   have e10:(u8s d).length=d.length:=by simp [u8s]
   have e8:=o8 d;have e9:=o7 d;have x32:x=32↔(x.toNat:Int)=32:=⟨fun e=>by rw [e];rfl,fun e=>HW.1 (by have:(32:UInt8).toNat=32:=rfl;omega)⟩;have htr:cT b=if x=32 then d else b:=by rw [hb0];simp [cT]
   replace hb0:=hid hb0;replace htr:=hid htr;by_cases hx:(x.toNat:Int)=32
   ·have r:=hid (show d=ba s by rw [<- hb.out,htr.out,if_pos (x32.2 hx)]);replace x32:=hid x32;refine wk ?_;refine ah rfl ?_;rw [r.out];exact h.out
   ·have r:=hid (show b=ba s by rw [<- hb.out,htr.out,if_neg fun e=>hx (x32.1 e)]);replace x32:=hid x32;refine wk ?_;refine ah rfl ?_;rw [r.out];exact h.out
inductive Nd where
 | mk (tag:Int) (data:List UInt8) (kids:List Nd)
def Nd.tag:Nd->Int
 | .mk t _ _=>t
def Nd.data:Nd->List UInt8
 | .mk _ d _=>d
def Nd.kids:Nd->List Nd
 | .mk _ _ k=>k
abbrev Fi:Nd:=.mk 0 [] []
instance:Inhabited Nd:=⟨Fi⟩
end Go.Proofs.Ytobihfefmlgaoaa.Av
