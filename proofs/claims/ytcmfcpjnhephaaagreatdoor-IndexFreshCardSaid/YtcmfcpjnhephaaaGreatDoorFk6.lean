/- Joined texts of the walk, made small by a program. -/
import Derived.Test.YtcmfcpjnhephaaaGreatDoorFk4
import Derived.WalkKit
import Derived.ProofKit
import Derived.OpenShut
import Derived.JoinedCond
import Derived.SizedLaws
import Derived.Sort.Grow
import Derived.Deep.Draws
import Derived.Lib.LaidTab
import Derived.Lib.ItoaNum
import Derived.Lib.ParseIntB
import Derived.Stop.LaidErr
import Derived.Test.YtcmfcpjnhephaaaGreatDoorFk5
import Derived.Lib.LaidU8T
import Derived.Shelf.Vars
set_option linter.unusedSimpArgs false
set_option linter.unusedVariables false
namespace Go.Proofs.YtcmfcpjnhephaaaGreatDoor.Av
open Go Go.ChangeShapes Go.WideShapes Go.ChangeAt Go.RowKit
def l4 (w:World):Env:={ mem:=fun b o=>w.cell? ⟨b,o,none⟩,loc:=fun _=>none,tok:=fun _=>none }
theorem Rel.start (w:World) (hg:mJ (l4 w).mem/\nG w):Rel w ⟨fun _=>False,0⟩ (l4 w) [] w where
 mem _ _ _ h:=h
 blk _ _ h:=by simp at h
 fresh _ _:=rfl
 own _ _ _ h:=by simp at h
 inj _ _ _ _ _ _ h:=by simp at h
 tkfresh _ _:=rfl
 tkown _ _ _ _ _ h:=by simp at h
 tkloc _ _ _ _ _ _ _ _ h:=by simp at h
 tkinj _ _ _ _ _ _ _ _ _ _ h:=by simp at h
 frame _ _ _:=rfl
 size:=ZA _
 os:=rfl
 tape:=rfl
 output:=rfl
 glob:=hg.1
 gsz:=hg.2
def Rd (P:Program) (t:TypeId) {X:Type} (ec:X->List AV) (ok:X->Prop):Prop :=
 ∀ (H:Type) (enc:TypeId×Value->H) (w:World) (fuel:Nat) (cs:List Value) (x:DataW H×List MemPlace),
  DataW.trod enc P w 0 (fun _=>true) true fuel t cs=some x->∃ y,ok y/\VRL (l4 w) (ec y) cs
theorem Rd.map {P:Program} {t:TypeId} {X Y:Type} {ec:X->List AV} {ok:X->Prop} {ec':Y->List AV} {ok':Y->Prop} (h:Rd P t ec ok) (m:∀ y,ok y->∃ z,ok' z/\ec' z=ec y):Rd P t ec' ok':=fun H enc w fuel cs x hx=>by
 obtain ⟨y,h1,h2⟩:=h H enc w fuel cs x hx;obtain ⟨z,h3,h4⟩:=m y h1;exact ⟨z,h3,by rw [h4];exact h2⟩
theorem UG {P:Program} {t:TypeId} {k:IntKind} (ht:P.underlying t=some (.int k)):Rd P t (fun n:Int=>[.int k n]) (fun n=>k.min<=n/\n<=k.max):=fun H enc w fuel cs x hx=>by
 obtain ⟨n,rfl,_,hw⟩:=DataW.trod_int ht hx;simp only [Lit.wf,ZE,decide_eq_true_eq] at hw;exact ⟨n,hw,by simp [VRL,VR]⟩
theorem RV {E:Env}:∀ {l m:List AV} {b o:Nat},VRC E l b o->VRC E m b (o+l.length)->VRC E (l++m) b o
 | [],_,_,_,_,h=>by simpa using h
 | a::l,m,b,o,h,k=>by
   simp only [aaf,VRC] at h ⊢;exact ⟨h.1,RV h.2 (by rw [show o+1+l.length=o+(l.length+1) by omega];exact k)⟩
theorem Nq {X:Type} (Q:Nat->X->Prop):∀ n,(∀ i,i<n->∃ y,Q i y)->∃ ys:List X,ys.length=n/\∀ i y,ys[i]?=some y->Q i y
 | 0,_=>⟨[],rfl,by simp⟩
 | n+1,h=>by
   obtain ⟨ys,h1,h2⟩:=Nq Q n fun i hi=>h i (by omega)
   obtain ⟨y,hy⟩:=h n (by omega);refine ⟨ys++[y],by simp [h1],fun i z hz=>?_⟩;rw [aaG] at hz;split at hz
   ·exact h2 i z hz
   ·have hi:i - ys.length=0:=by
     rcases aaW (i - ys.length) with e|e
     ·exact e
     ·rw [aaM (by simp;omega)] at hz;cases hz
    rw [hi] at hz;simp at hz;subst hz;rw [show i=n by omega];exact hy
theorem P1 {E:Env} {X:Type} {ec:X->List AV} {b sz:Nat}:∀ {ys:List X} {o:Nat},(∀ i y,ys[i]?=some y->(ec y).length=sz/\VRC E (ec y) b (o+i * sz))->VRC E (ys.flatMap ec) b o
 | [],_,_=>by simp [VRC]
 | y::ys,o,h=>by
   rw [aaO];have h0:=h 0 y rfl;refine RV (by simpa using h0.2) (P1 (sz:=sz) fun i z hz=>?_);have:=h (i+1) z hz;refine ⟨this.1,?_⟩;rw [h0.1,show o+sz+i * sz=o+(i+1) * sz by rw [aau];omega];exact this.2
theorem Me {w:World} {a:Addr} {n:Nat} {cs:List Value} (h:w.cells? 0 a n=some cs):cs.length=n/\∀ i,i<n->w.cell? (a.add i)=cs[i]?:=by
 simp only [World.cells?,ZI,if_true] at h;refine ⟨by simpa using mapM_some_length h,fun i hi=>?_⟩;exact mapM_some_get h i i (by simp [hi])
theorem TA {w:World} {a:Addr} {v:Value} (h:w.cell? a=some v):a.spot=none:=by
 rcases hs:a.spot with _|s
 ·rfl
 ·simp only [World.cell?,hs,abm,if_true] at h;split at h<;>cases h
theorem Qx {P:Program} {w:World} {base:Nat} {t:TypeId} {v:Value} (hg:eV P t=some false) (h:Value.okWide P w .any base t v):v.cells.toList=[v]:=by
 unfold eV at hg;unfold Value.okWide at h;split at hg
 ·cases hg
 ·cases hg
 ·rename_i d h1 h2 hu
  rw [hu] at h;split at h
  ·rename_i e;cases e;exact absurd rfl (h1 _)
  ·rename_i e;cases e;exact absurd rfl (h2 _ _)
  ·cases v<;>try rfl
   rename_i cs
   unfold Cell.okWide at h;split at h<;>try (rename_i e1 e2;cases e2)
   unfold Cell.ok at h;split at h<;>first|(rename_i e1 e2;cases e2;done)|cases h
 ·cases hg
theorem Pe {H:Type} {enc:TypeId×Value->H} {P:Program} {f:Func} {s:ChangeSpec} {apart fresh handsOn again:Bool} {W W':World} {args:Array Value} {v:Value} {ds gs:List (DataW H)} {before pa pv:List MemPlace}
  (hW:DataW.Whole enc P f.params.toList s.vars apart W args.toList ds gs before)
  (hres:∀ (b:Nat) (sp:Nat->Bool) (hd:Bool),DataW.TrodAll enc P W' b sp hd f.resultTypes.toList (v.resultList f.resultTypes.size) (s.fn H (ds++gs)).results [])
  (hargs:∀ sp:Nat->Bool,(∀ p∈before,sp p.block=true)->DataW.TrodAll enc P W' 0 sp true f.params.toList args.toList (s.fn H (ds++gs)).args pa)
  (hvars:∀ sp:Nat->Bool,(∀ p∈before,sp p.block=true)->DataW.TrodVars enc P W' sp s.vars (s.fn H (ds++gs)).vars pv)
  (hps:before=pa++pv) (hk:W.keptBut W' (·∈before)) (hfz:∀ b o,b<W.heap.size->W'.frozen? ⟨b,o,none⟩=W.frozen? ⟨b,o,none⟩)
  (hok:∀ (j:Nat) (t:TypeId) (r:Value),f.resultTypes[j]?=some t->(v.resultList f.resultTypes.size)[j]?=some r->Value.okWide P W' .any 0 t r) :
  s.post enc P f apart fresh handsOn again W args v W':=by
 have hlt:=hW.lt;have hold:∀ p∈before,(fun b=>decide (b<W.heap.size)) p.block=true:=fun p hp=>by simpa using hlt p hp
 refine ⟨ds,gs,before,[],pa,pv,hW,hres _ _ _,hargs _ hold,hvars _ hold,World.keptBut_mono (fun p hp=>⟨hp,?_⟩) hk,fun _=>?_⟩
 ·rw [hps,ZD] at hp;exact Or.inr hp
 ·obtain ⟨_,_,_,_,_,hz,hn⟩:=hW;refine ⟨hok,_,_,([]++pa)++pv,⟨[]++pa,pv,trodAll_append (hargs _ (fun _ _=>rfl)) (hres _ _ _),hvars _ (fun _ _=>rfl),rfl,?_,?_⟩,?_⟩
  ·intro b off hp;have hp':MemPlace.cell b off∈before:=by rw [hps];simpa using hp
   rw [hfz b off (hlt _ hp')];exact hz b off hp'
  ·intro ha;have:=hn ha;rw [hps] at this;simpa using this
  ·intro p hp _;rw [hps];simpa using hp
def Gj (P:Program):Bool:=(List.range P.types.size).all fun t=>match P.underlying t with|some (.slice e)=>decide (0<P.cellsOf e)|_=>true
theorem DJ {H:Type} {enc:TypeId×Value->H} {P:Program} {W W':World} (hlaid:laidOutB P=true) (hrow:mapsRowed P=true) (hfull:Gj P=true) :
  ∀ {ts:List TypeId} {vs:List Value} {ds:List (DataW H)} {ps:List MemPlace},(∀ t∈ts,t<P.types.size)->DataW.TrodAll enc P W 0 (fun _=>true) true ts vs ds ps->(∀ p∈ps,W.sameAt W' p) ->
  ∀ sp:Nat->Bool,(∀ p∈ps,sp p.block=true)->DataW.TrodAll enc P W' 0 sp true ts vs ds ps
 | [],_,_,_,_,h,_,_,_=>by
   obtain ⟨rfl,rfl,rfl⟩:=trodAll_nil h;exact trodAll_mk0
 | t::ts,_,_,_,hts,h,hs,sp,hsp=>by
   obtain ⟨v,vs',d,ds',p,q,rfl,rfl,rfl,h1,h2⟩:=trodAll_cons h;obtain ⟨fuel,h1⟩:=h1;refine trodAll_cons_mk ⟨fuel,DataW.trod_stays (kids_rows hlaid hrow) (fun {t e} ht hu=>?_) (fun e=>by cases e) (hts t (by simp)) h1 (fun r hr=>hs r (aa4 _ hr)) (fun r hr=>hsp r (aa4 _ hr))⟩
    (DJ hlaid hrow hfull (fun u hu=>hts u (by simp [hu])) h2 (fun r hr=>hs r (abx _ hr)) sp (fun r hr=>hsp r (abx _ hr)))
   have:=ZJ.1 hfull t (List.mem_range.2 ht);rw [hu] at this;simpa using this
theorem K7 {H:Type} {enc:TypeId×Value->H} {P:Program} {w:World} {base:Nat} {spare:Nat->Bool} {held:Bool}:∀ {ts:List TypeId} {vs:List Value} {ds:List (DataW H)} {ps:List MemPlace},DataW.TrodAll enc P w base spare held ts vs ds ps->ds.length=ts.length
 | [],_,_,_,h=>by obtain ⟨_,rfl,_⟩:=trodAll_nil h;rfl
 | t::ts,_,_,_,h=>by
   obtain ⟨v,vs',d,ds',p,q,rfl,rfl,rfl,_,h2⟩:=trodAll_cons h;simp [K7 h2]
theorem MR {P:Program} {f:FuncId} {fn:Func} {s:ChangeSpec} {apart fresh handsOn again:Bool} {tb:TypeId} (hfn:P.funcs[f]?=some fn) (hbody:fn.body.isSome=true) (hname:(fn.name == "runtime.NumGoroutine")=false)
  (hlaid:laidOutB P=true) (hrow:mapsRowed P=true) (hfull:Gj P=true) (hts:fn.params.toList.all (fun t=>decide (t<P.types.size))=true) (hres:fn.resultTypes=#[tb]) (hb:P.underlying tb=some .bool) (hvars:s.vars=[])
  (hs:∀ (H:Type) (ds:List (DataW H)),ds.length=fn.params.toList.length->(s.fn H ds).results=[.lit (.bool true)]/\(s.fn H ds).args=ds/\(s.fn H ds).vars=[])
  {X:Type} {ec:X->List AV} {ok:X->Prop} (walk:∀ y,ok y->af P f (ec y) [] fun av _=>av=.bool true)
  {H:Type} (enc:TypeId×Value->H) (W:World) (args:Array Value) (ds gs:List (DataW H)) (before:List MemPlace)
  (hA:∀ p,DataW.TrodAll enc P W 0 (fun _=>true) true fn.params.toList args.toList ds p->∃ y,ok y/\VRL (l4 W) (ec y) args.toList)
  (hW:DataW.Whole enc P fn.params.toList s.vars apart W args.toList ds gs before) (hglob:mJ (l4 W).mem/\nG W) :
  Calls P f args W fun e W'=>∃ v,e=.returned v/\s.post enc P fn apart fresh handsOn again W args v W':=by
 have hW':=hW;have hlt:=hW.lt;obtain ⟨p,q,hA0,hV,rfl,hfz,hnd⟩:=hW;rw [hvars] at hV;obtain ⟨rfl,rfl⟩:=trodVars_none hV;obtain ⟨y,hy,hvr⟩:=hA p hA0;have hlen:=K7 hA0;obtain ⟨e1,e2,e3⟩:=hs H ds hlen;have hrun:(callFunc f args).run P W=.ok (.enter f args) W:=by
  simp only [callFunc,ZG,run_program,ZH,hfn,hname];cases hb:fn.body with
  | none=>simp [hb] at hbody
  | some c=>simp
 rcases walk y hy W ⟨fun _=>False,0⟩ (l4 W) W args.toList (Rel.start W hglob) hvr with ⟨_,h⟩|⟨_,_,_,_,_,h,_⟩
 ·refine h.mono fun e W' ⟨E',v,av,L',he,_,hav,hv,hR⟩=>?_
  subst hav;simp only [VR] at hv;subst hv;refine ⟨_,he,?_⟩;have hheap:∀ b,b<W.heap.size->W'.heap[b]?=W.heap[b]?:=fun b hb=>hR.frame b hb (fun h=>h)
  have hps:∀ r∈p,W.sameAt W' r:=fun r hr=>by
   have:=hlt r (by simpa using hr);cases r<;>simp only [World.sameAt,MemPlace.block] at this ⊢
   ·simp only [World.cell?];rw [hheap _ this]
   ·exact hheap _ this
  refine Pe (pa:=p) (pv:=[]) hW' (fun b sp hd=>?_) (fun sp hsp=>?_) (fun _ _=>?_) rfl ⟨hR.os,hR.output,fun i hi=>?_⟩ (fun b o hb=>?_) (fun j t r h1 h2=>?_)
  ·rw [aah,e1,hres];exact trodAll_cons_mk (shut_bool hb _) trodAll_mk0
  ·rw [aah,e2];exact DJ hlaid hrow hfull (fun t ht=>by simpa using ZJ.1 hts t ht) hA0 hps sp (fun r hr=>hsp r (by simpa using hr))
  ·rw [hvars,aah,e3];rfl
  ·rw [hheap i hi];rcases hc:W.heap[i]? with _|o
   ·trivial
   ·cases o<;>simp
  ·simp only [World.frozen?];rw [hheap b hb]
  ·exact ok_one hres rfl (okWide_bool_mk hb _) j t r h1 h2
 ·rw [show (⟨args.toList⟩:Array Value)=args from rfl,hrun] at h;cases h
open Go Go.ChangeShapes Go.WideShapes Go.ChangeAt
set_option maxHeartbeats 8000000
set_option maxRecDepth 100000
def RdZ (P:Program) (t:TypeId) {X:Type} (ec:X->List AV) (ok:X->Prop):Prop :=
 ∀ (H:Type) (enc:TypeId×Value->H) (w:World) (fuel:Nat) (cs:List Value) (x:DataW H×List MemPlace),
  DataW.trod enc P w 0 (fun _=>true) true fuel t cs=some x->(∀ n∈x.1.weights P t,n<=reachBytes)->∃ y,ok y/\VRL (l4 w) (ec y) cs
theorem Rd.z {P:Program} {t:TypeId} {X:Type} {ec:X->List AV} {ok:X->Prop} (h:Rd P t ec ok):RdZ P t ec ok:=fun H enc w fuel cs x hx _=>h H enc w fuel cs x hx
theorem Hd {P:Program} {t:TypeId} (ht:P.underlying t=some .string):RdZ P t (fun s:List UInt8=>[.str s]) (fun s=>s.length<=reachBytes):=fun H enc w fuel cs x hx hz=>by
 obtain ⟨s,rfl,rfl,hw⟩:=DataW.trod_string ht hx;exact ⟨s.data.toList,hz _ (by simp [DataW.weights]),by simp [VRL,VR]⟩
theorem v7 {H:Type} {P:Program} {e:TypeId}:∀ {l:List (DataW H)} {d:DataW H},d∈l->∀ n∈d.weights P e,n∈DataW.weightsAll P e l
 | a::l,d,h,n,hn=>by
   rw [DataW.weightsAll];rcases ZF.1 h with rfl|h
   ·exact aa4 _ hn
   ·exact abx _ (v7 h n hn)
theorem Do {P:Program} {t e:TypeId} {X:Type} {ec:X->List AV} {ok:X->Prop} (ht:P.underlying t=some (.slice e)) (he:RdZ P e ec ok) (hz':decide (0<P.cellsOf e)=true) :
  RdZ P t (fun l:List X=>[.sl (l.flatMap ec) l.length none]) (fun l=>l.length<=maxLen/\∀ y∈l,ok y):=fun H enc w fuel cs x hx hwt=>by
 have hz:0<P.cellsOf e:=of_decide_eq_true hz';rcases DataW.trod_slice ht hx with ⟨rfl,_⟩|⟨a,len,cap,elems,rest,n,_,rfl,rfl,_,hlc,hcap,hel,hget,hsp,_⟩
 ·exact ⟨[],⟨by simp,by simp⟩,by simp only [VRL,VR];exact ⟨_,_,rfl,⟨none,0,rfl,ZA _,by simp,.inl ⟨rfl,rfl,rfl⟩⟩,rfl⟩⟩
 have hspot:cap≠0->a.spot=none:=fun hc=>by
  have first:∀ r:Option (DataW H×List MemPlace),r≠none->(w.cells? 0 (a.add (0 * P.cellsOf e)) (P.cellsOf e)).bind (DataW.trod enc P w 0 (fun _=>true) true n e)=r->a.spot=none:=fun r hr h1=>by
   obtain ⟨q,rfl⟩:=Option.ne_none_iff_exists'.1 hr;rw [abF] at h1;obtain ⟨cs',h2,_⟩:=h1;obtain ⟨h6,h7⟩:=Me h2;have h8:=h7 0 hz;obtain ⟨v,hv⟩:∃ v,cs'[0]?=some v:=⟨cs'[0]'(by omega),ZR _⟩;rw [hv] at h8;have:=TA h8;simpa [Addr.add] using this
  by_cases hl:len=0
  ·obtain ⟨r1,r2⟩:=hsp rfl;exact first rest[0]? (by rw [ZR (by omega)];simp) (by simpa [hl] using r2 0 (by omega))
  ·exact first elems[0]? (by rw [ZR (by omega)];simp) (hget 0 (by omega))
 have each:∀ i,i<len->∃ y,ok y/\(ec y).length=P.cellsOf e/\a.spot=none/\VRC (l4 w) (ec y) a.block (a.off+i * P.cellsOf e):=fun i hi=>by
  have h1:=hget i hi;obtain ⟨q,hq⟩:∃ q,elems[i]?=some q:=⟨elems[i]'(by omega),ZR _⟩;rw [hq,abF] at h1;obtain ⟨cs',h2,h3⟩:=h1;obtain ⟨y,h4,h5⟩:=he H enc w n cs' q h3 (fun m hm=>hwt m (by
   simp only [DataW.weights,ht];refine aa7 _ (aa4 _ (v7 (d:=q.1) ?_ m hm));exact ZC.2 ⟨q,aad hq,rfl⟩))
  obtain ⟨h6,h7⟩:=Me h2;have hl:=h5.length;have hsp:a.spot=none:=hspot (by omega);refine ⟨y,h4,by omega,hsp,VRC.of_get fun j u hu=>?_⟩;obtain ⟨v,h8,h9⟩:=h5.get hu;refine ⟨v,?_,h9⟩;have hj:j<P.cellsOf e:=by
   have:=(Zz.1 hu).1;omega
  have h10:=h7 j hj;rw [h8] at h10;rw [<- h10];have hadd:∀ k,a.add k=⟨a.block,a.off+k,none⟩:=fun k=>by
   obtain ⟨b,o,s⟩:=a;simp only at hsp;subst hsp;exact Addr.add_mk b o k
  rw [hadd,Addr.add_mk];rfl
 obtain ⟨ys,h1,h2⟩:=Nq _ len each;refine ⟨ys,⟨by omega,fun y hy=>?_⟩,?_⟩
 ·obtain ⟨i,hi⟩:=List.getElem?_of_mem hy;exact (h2 i y hi).1
 ·simp only [VRL];refine ⟨_,[],rfl,?_,rfl⟩;simp only [VR];refine ⟨_,_,by rw [h1],by omega,by simp,?_⟩;by_cases hc:cap=0
  ·have:ys=[]:=by
    have:ys.length=0:=by omega
    simpa using this
   subst this;exact .inl ⟨rfl,hc,rfl⟩
  ·refine .inr ⟨a.block,a.off,?_,P1 fun i y hy=>⟨(h2 i y hy).2.1,(h2 i y hy).2.2.2⟩⟩;have hs:a.spot=none:=hspot hc;cases a;simp only at hs ⊢;rw [hs]
theorem nY {H:Type} {P:Program} {us:List TypeId} {gs:List (DataW H)} {n:Nat}:∀ {ts:List TypeId} {ds:List (DataW H)},n∈DataW.weightsEach P ts ds->n∈DataW.weightsEach P (ts++us) (ds++gs)
 | [],_,h=>by simp [DataW.weightsEach] at h
 | _::_,[],h=>by simp [DataW.weightsEach] at h
 | t::ts,d::ds,h=>by
   simp only [aaf,DataW.weightsEach,ZD] at h ⊢;rcases h with h|h
   ·exact .inl h
   ·exact .inr (nY h)
def Xt (P:Program) (N o:Nat) (fs:List Field) {X:Type} (ec:X->List AV) (ok:X->Prop):Prop :=
 ∀ (H:Type) (enc:TypeId×Value->H) (w:World) (n:Nat) (cs:List Value),cs.length=N ->
  (∀ f∈fs,∃ x,DataW.trod enc P w 0 (fun _=>true) true n f.type ((cs.drop f.offset).take (P.cellsOf f.type))=some x/\∀ m∈x.1.weights P f.type,m<=reachBytes)->∃ y,ok y/\VRL (l4 w) (ec y) (cs.drop o)
theorem He {P:Program} {N o:Nat} (h:o=N):Xt P N o [] (fun _:Unit=>[]) (fun _=>True):=fun H enc w n cs hl _ =>
 ⟨(),trivial,by simp [VRL,h,<- hl]⟩
theorem eO {P:Program} {N o sz:Nat} {f:Field} {fs:List Field} {X Y:Type} {ec:X->List AV} {ok:X->Prop} {ec':Y->List AV} {ok':Y->Prop} (hf:f.offset=o) (hz:P.cellsOf f.type=sz) (h:RdZ P f.type ec ok) (r:Xt P N (o+sz) fs ec' ok') :
  Xt P N o (f::fs) (fun y:X×Y=>ec y.1++ec' y.2) (fun y=>ok y.1/\ok' y.2):=fun H enc w n cs hl hx=>by
 obtain ⟨x,h1,hw⟩:=hx f (by simp);obtain ⟨y,h2,h3⟩:=h H enc w n _ x h1 hw;obtain ⟨z,h4,h5⟩:=r H enc w n cs hl fun g hg=>hx g (by simp [hg])
 refine ⟨(y,z),⟨h2,h4⟩,?_⟩;have:cs.drop o=(cs.drop f.offset).take (P.cellsOf f.type)++cs.drop (o+sz):=by
  rw [hf,hz,<- List.drop_drop,aby]
 rw [this];exact h3.append h5
theorem ri {P:Program} {t:TypeId} {fs:Array Field} {X:Type} {ec:X->List AV} {ok:X->Prop} {N:Nat} (ht:P.underlying t=some (.struct fs)) (hN:P.cellsOf t=N) (r:Xt P N 0 fs.toList ec ok):RdZ P t ec ok:=fun H enc w fuel cs x hx hwt=>by
 subst hN;obtain ⟨xs,n,_,rfl,hl,hlen,hf⟩:=DataW.trod_struct ht hx;obtain ⟨y,h1,h2⟩:=r H enc w n cs hl fun f hfm=>by
  obtain ⟨i,hi⟩:=List.getElem?_of_mem hfm;have hi':fs[i]?=some f:=by simpa using hi
  rw [hf i f hi'];have hlt:i<xs.length:=by
   rw [hlen];have:=(Zz.1 hi).1;simpa using this
  refine ⟨xs[i],ZR hlt,fun m hm=>hwt m ?_⟩;simp only [DataW.weights,ht];refine DataW.weights_mem_each (j:=i) (t:=f.type) (d:=xs[i].1) ?_ ?_ m hm
  ·rw [aag,hi];rfl
  ·rw [aag,ZR hlt];rfl
 exact ⟨y,h1,by simpa using h2⟩
def TU (P:Program) (ts:List TypeId) {X:Type} (ec:X->List AV) (ok:X->Prop):Prop :=
 ∀ (H:Type) (enc:TypeId×Value->H) (w:World) (base:Nat) (vs:List Value) (ds:List (DataW H)) (ps:List MemPlace),
  (∀ (j:Nat) t v,ts[j]?=some t->vs[j]?=some v->Value.okWide P w .any base t v) ->
  DataW.TrodAll enc P w 0 (fun _=>true) true ts vs ds ps->(∀ n∈DataW.weightsEach P ts ds,n<=reachBytes)->∃ y,ok y/\VRL (l4 w) (ec y) vs
theorem UE {P:Program}:TU P [] (fun _:Unit=>[]) (fun _=>True):=fun H enc w base vs ds ps _ h _=>by
 obtain ⟨rfl,_,_⟩:=trodAll_nil h;exact ⟨(),trivial,by simp [VRL]⟩
theorem Pa {P:Program} {t:TypeId} {ts:List TypeId} {X Y:Type} {a:X->AV} {ok:X->Prop} {ec':Y->List AV} {ok':Y->Prop} (hg:eV P t=some false) (h:RdZ P t (fun y=>[a y]) ok) (r:TU P ts ec' ok') :
  TU P (t::ts) (fun y:X×Y=>a y.1::ec' y.2) (fun y=>ok y.1/\ok' y.2):=fun H enc w base vs ds ps hok hx hwt=>by
 obtain ⟨v,vs',d,ds',p,q,rfl,rfl,rfl,h1,h2⟩:=trodAll_cons hx;obtain ⟨fuel,h1⟩:=h1;obtain ⟨y,h3,h4⟩:=h H enc w fuel _ _ h1 (fun n hn=>hwt n (by rw [DataW.weightsEach];exact aa4 _ hn));obtain ⟨z,h5,h6⟩:=r H enc w base vs' ds' q (fun j t v a b=>hok (j+1) t v a b) h2 (fun n hn=>hwt n (by rw [DataW.weightsEach];exact abx _ hn));refine ⟨(y,z),⟨h3,h5⟩,?_⟩;rw [Qx hg (hok 0 t v rfl rfl)] at h4;simp only [VRL] at h4 ⊢;obtain ⟨x,xs,e,h7,_⟩:=h4;cases e;exact ⟨v,vs',rfl,h7,h6⟩
open Go Go.ChangeShapes Go.WideShapes Go.ChangeAt
theorem RdZ.map {P:Program} {t:TypeId} {X Y:Type} {ec:X->List AV} {ok:X->Prop} {ec':Y->List AV} {ok':Y->Prop} (h:RdZ P t ec ok) (m:∀ y,ok y->∃ z,ok' z/\ec' z=ec y):RdZ P t ec' ok':=fun H enc w fuel cs x hx hb=>by
 obtain ⟨y,h1,h2⟩:=h H enc w fuel cs x hx hb;obtain ⟨z,h3,h4⟩:=m y h1;exact ⟨z,h3,by rw [h4];exact h2⟩
theorem UF {P:Program} {t:TypeId} {ts:List TypeId} {X Y:Type} {ec:X->List AV} {ok:X->Prop} {ec':Y->List AV} {ok':Y->Prop} (hg:eV P t=some true) (h:RdZ P t ec ok) (r:TU P ts ec' ok') :
  TU P (t::ts) (fun y:X×Y=>.agg (ec y.1)::ec' y.2) (fun y=>ok y.1/\ok' y.2):=fun H enc w base vs ds ps hok hx hwt=>by
 obtain ⟨v,vs',d,ds',p,q,rfl,rfl,rfl,h1,h2⟩:=trodAll_cons hx;obtain ⟨fuel,h1⟩:=h1;obtain ⟨y,h3,h4⟩:=h H enc w fuel _ _ h1 (fun n hn=>hwt n (by rw [DataW.weightsEach];exact aa4 _ hn));obtain ⟨z,h5,h6⟩:=r H enc w base vs' ds' q (fun j t v a b=>hok (j+1) t v a b) h2 (fun n hn=>hwt n (by rw [DataW.weightsEach];exact abx _ hn));refine ⟨(y,z),⟨h3,h5⟩,?_⟩;have hv:=hok 0 t v rfl rfl;unfold eV at hg;have:∃ cs,v=.agg cs:=by
  unfold Value.okWide at hv;split at hg
  all_goals rename_i hu;rw [hu] at hv
  ·obtain ⟨cs,h,_⟩:=hv;exact ⟨cs,h⟩
  ·obtain ⟨cs,h,_⟩:=hv;exact ⟨cs,h⟩
  ·cases hg
  ·cases hg
 obtain ⟨cs,rfl⟩:=this;simp only [VRL];refine ⟨_,vs',rfl,?_,h6⟩;simp only [VR];exact ⟨cs.toList,rfl,by simpa [Value.cells] using h4⟩
structure Dd (w w':World):Prop where
 heap:∀ b,b<w.heap.size->w'.heap[b]?=w.heap[b]?
 size:w.heap.size<=w'.heap.size
 os:w'.os=w.os
 tape:w'.tape=w.tape
 output:w'.output=w.output
theorem Dd.refl (w:World):Dd w w:=⟨fun _ _=>rfl,ZA _,rfl,rfl,rfl⟩
theorem Dd.of_grow (w:World) (k:Nat) (os:Array Obj):Dd w (Sort.grow (w.drewN k) os):=by
 refine ⟨fun b hb=>?_,?_,rfl,rfl,rfl⟩
 ·show (w.heap++os)[b]?=_
  exact acw hb
 ·show _<=(w.heap++os).size
  simp
theorem Rel.grown {w0:World} {S0:SB} {E:Env} {L:List Blk} {w w':World} (h:Rel w0 S0 E L w) (g:Dd w w'):Rel w0 S0 E L w':=by
 refine ⟨fun b o v hv=>?_,fun i k hk=>?_,h.fresh,h.own,h.inj,h.tkfresh,h.tkown,h.tkloc,h.tkinj,fun k hk hs=>?_,Z0 h.size g.size,g.os.trans h.os,g.tape.trans h.tape,g.output.trans h.output,h.glob,
  h.gsz.mod fun b cs ty fr hb=>⟨cs,ty,fr,by rw [g.heap b (aaE.1 hb).1];exact hb,rfl⟩⟩
 ·have:=h.mem b o v hv;simp only [World.cell?] at this ⊢;rw [g.heap b (h.mem_lt hv)];exact this
 ·cases hl:k.live
  ·refine bw.still hl rfl (fun t c n sz e ht hc=>?_) (h.blk i k hk);subst e;exact g.heap _ (h.tok_lt hk ht hc)
  ·exact bw.worldL hl (fun c hc=>g.heap _ (h.loc_lt hk hl hc)) (h.blk i k hk)
 ·rw [g.heap k (aaV hk h.size)];exact h.frame k hk hs
theorem d6 {P:Program} {f:FuncId} {fn:Func} (hf:P.funcs[f]?=some fn) (hb:fn.body.isSome=true) (hn:(fn.name == "runtime.NumGoroutine")=false) {args:List AV} {L:List Blk} {K:AV->List Blk->Prop} {r:AV}
  (hc:∀ (w0:World) (S0:SB) (E:Env) (w:World) (vs:List Value),Rel w0 S0 E L w->VRL E args vs->Calls P f ⟨vs⟩ w fun e w'=>∃ v,e=.returned v/\VR E r v/\Dd w w') (hk:K r L):af P f args L K:=fun w0 S0 E w vs hR hv=>by
 refine .inl ⟨?_,(hc w0 S0 E w vs hR hv).mono fun e w' ⟨v,h1,h2,h3⟩=>⟨E,v,r,L,h1,.refl E,hk,h2,hR.grown h3⟩⟩;simp only [callFunc,ZG,run_program,ZH,hf,hn];cases h:fn.body with
 | none=>simp [h] at hb
 | some c=>simp
theorem Rel.table {P:Program} {w0:World} {S0:SB} {E:Env} {L:List Blk} {w:World} (h:Rel w0 S0 E L w) {name:String} {g:Nat} {k:IntKind} {zs:List Int} (hg:P.globalNamed name=some g) (hp:dH g=some (zs.map (AV.int k))) (hne:zs≠[]) :
  Lib.TabIs P w name k zs:=by
 have hm:=ry hp;obtain ⟨cs,ty,fr,h1,h2⟩:=h.gsz _ hm (by simpa using hne);simp only [Z9] at h2;simp only [Lib.TabIs,World.var?,hg,aaJ,h1,ZB];apply Array.ext
 ·simp [h2]
 ·intro i hi hi';have hr:=h.glob.env hm;have hi2:i<zs.length:=by omega
  obtain ⟨v,h3,h4⟩:=hr.get (i:=i) (a:=.int k zs[i]) (by simp [hi2]);simp only [VR] at h4;subst h4;have:=h.mem _ _ _ h3;simp only [World.cell?,h1] at this;simp at this;have e:=aac hi;rw [e] at this;simpa using Option.some.inj this
theorem Rel.reblk {w0:World} {S0:SB} {E:Env} {L:List Blk} {w:World} (h:Rel w0 S0 E L w) {i:Nat} {c c':List AV} (hL:L[i]?=some (.cells c)) (hlen:c'.length=c.length)
  (hv:∀ (j:Nat) (a':AV),c'[j]?=some a'->∃ a,c[j]?=some a/\∀ v,VR E a v->VR E a' v):Rel w0 S0 E (L.set i (.cells c')) w:=by
 have hi:i<L.length:=(Zz.1 hL).1;have fix:∀ (j:Nat) (k:Blk),(L.set i (.cells c'))[j]?=some k->k.live=true->∃ k',L[j]?=some k'/\k'.live=true:=fun j k hk hl=>by
  rw [ZX] at hk;split at hk
  ·rename_i e;subst e;exact ⟨_,hL,rfl⟩
  ·exact ⟨k,hk,hl⟩
 have fixs:∀ (j n sz:Nat),(L.set i (.cells c'))[j]?=some (.spare n sz)->L[j]?=some (.spare n sz):=fun j n sz hk=>by
  rw [ZX] at hk;split at hk
  ·cases hk
  ·exact hk
 refine ⟨h.mem,fun j k hk=>?_,fun i hi=>h.fresh i (by simpa using hi),fun i k c hk hl hc=>?_,fun i j k k' c c' hi li hj lj=>?_,
  fun i hi=>h.tkfresh i (by simpa using hi),fun i n sz t d hi=>h.tkown i n sz t d (fixs i n sz hi),fun i n sz t d j k' c' hi ht hd hj hl=>?_,
  fun i n sz t d i' n' sz' t' d' hi ht hd hi'=>h.tkinj i n sz t d i' n' sz' t' d' (fixs i n sz hi) ht hd (fixs i' n' sz' hi'),h.frame,h.size,h.os,h.tape,h.output,h.glob,h.gsz⟩
 ·rw [ZX] at hk;split at hk
  ·rename_i e;subst e
   cases hk;obtain ⟨cl,cs,ty,fr,g1,g2,g3,g4,g5,g6⟩:=h.blk _ _ hL;refine ⟨cl,cs,ty,fr,g1,g2,g3,by rw [hlen];exact g4,fun j a ha=>?_,g6⟩;obtain ⟨b,hb,hbv⟩:=hv j a ha;obtain ⟨v,h1,h2⟩:=g5 j b hb;exact ⟨v,h1,hbv v h2⟩
  ·exact h.blk j k hk
 ·obtain ⟨k',h1,h2⟩:=fix i k hk hl;exact h.own i k' c h1 h2 hc
 ·obtain ⟨k1,h1,h2⟩:=fix i k hi li;obtain ⟨k2,h3,h4⟩:=fix j k' hj lj;exact h.inj i j k1 k2 c c' h1 h2 h3 h4
 ·obtain ⟨k1,h1,h2⟩:=fix j k' hj hl;exact h.tkloc i n sz t d j k1 c' (fixs i n sz hi) ht hd h1 h2
theorem VR.grow {E:Env} {l:List AV} {n i sz:Nat} {v:Value} (ht:E.tok i=some ⟨n,sz,none⟩) (h2:l.length=n * sz) (h:VR E (.sl l n (some n)) v):VR E (.gsl l n i sz) v:=by
 simp only [VR] at h ⊢;obtain ⟨p,c',q1,q2,q3,q4⟩:=h;exact ⟨p,c',q1,q2,h2,q4,⟨n,sz,none⟩,ht,ZA _,fun _=>⟨rfl,fun _=>q3 n rfl,by simp⟩⟩
theorem MI {P:Program} {N:Nat} {own:Nat->Nat->Nat} {Q:Exit->Tm->List Blk->Prop} {T:Tm} {L:List Blk} {lc:bV} (i j sz:Nat) {c l:List AV} {n:Nat} (hL:L[i]?=some (.cells c)) (hj:c[j]?=some (.sl l n (some n))) (h2:l.length=n * sz)
  (h:AW P N own lc Q T (L.set i (.cells (c.set j (.gsl l n L.length sz)))++[.spare n sz])):AW P N own lc Q T L:=fun cd hc r hr w0 S0 E a w hst=>by
 obtain ⟨r1,r2⟩:=hst.1.addtok (n:=n) (sz:=sz) (lc:=none) JH;have hi:i<L.length:=(Zz.1 hL).1;have hL':(L++[Blk.spare n sz])[i]?=some (.cells c):=by rw [ZM hi];exact hL
 have r3:=r2.reblk hL' (c':=c.set j (.gsl l n L.length sz)) (by simp) fun k a' ha=>by
  rw [ZX] at ha;split at ha
  ·rename_i e;subst e
   split at ha
   ·cases ha;exact ⟨_,hj,fun v hv=>VR.grow (by simp) h2 hv⟩
   ·cases ha
  ·exact ⟨a',ha,fun v hv=>hv⟩
 rw [aaC _ _ hi] at r3;exact wpIn_mono (h cd hc r hr w0 S0 _ a w ⟨r3,hst.2.1.mono r1,hst.2.2⟩) fun e a' w' ⟨w1,S1,E',T1,L1,b,k1,k2,k3⟩=>⟨w1,S1,E',T1,L1,b,r1.trans k1,k2,k3⟩
theorem sk {A B:Prop} (h:B) (e:Hid B->A:=by
 intro hB_;simp only [Kon,push_cast,reduceIte,Nat.reduceEqDiff,Nat.reduceAdd,Nat.reduceMul,Nat.reduceSub,Nat.reduceLT,Nat.reduceLeDiff,Int.reduceLT,Int.reduceLE,Int.reduceAdd,Int.reduceSub,Int.reduceNeg,Int.reduceToNat,Int.reduceEq,reduceCtorEq, *];exact hB_.out):A:=e (hid h)
theorem sm {A B:Prop} (h:B) (e:Hid B->A:=by
 intro hB_;simp (config:={ maxSteps:=2000000 }) only [Kon,push_cast,reduceIte,Nat.reduceEqDiff,Nat.reduceAdd,Nat.reduceMul,Nat.reduceSub,Nat.reduceLT,Nat.reduceLeDiff,Int.reduceLT,Int.reduceLE,Int.reduceAdd,Int.reduceSub,Int.reduceNeg,Int.reduceToNat,Int.reduceEq,reduceCtorEq, *];exact hB_.out):A:=e (hid h)
theorem sl {A B:Prop} (h:B) (e:Hid B->A:=by
 intro hB_;simp only [push_cast,reduceIte,Nat.reduceEqDiff,Nat.reduceAdd,Nat.reduceMul,Nat.reduceSub,Nat.reduceLT,Nat.reduceLeDiff,Int.reduceLT,Int.reduceLE,Int.reduceAdd,Int.reduceSub,Int.reduceNeg,Int.reduceToNat,Int.reduceEq,reduceCtorEq, *];exact hB_.out):A:=e (hid h)
theorem wk {A B:Prop} (h:B) (e:Hid B->A:=by
 intro hB_
 repeat' first
  | refine bb ?_
  | (first|refine aU (by kernel_rfl) ?_|refine aA (by kernel_rfl) ?_|refine aD ?_|refine bS ?_|refine bh (fun _=>?_)|refine ay ?_|refine aW ?_|refine kk1.out _ _ ?_|refine kk1.out ?_|refine kk2.out _ _ ?_|refine kk2.out ?_|refine kk3.out _ _ ?_|refine kk3.out ?_|refine kk4.out _ _ ?_|refine kk4.out ?_|refine kk5.out _ _ ?_|refine kk5.out ?_|refine kk6.out _ _ ?_|refine kk6.out ?_|refine kk7.out _ _ ?_|refine kk7.out ?_|refine bg (kk1.out _ _ ⟨rfl,rfl⟩) (kk1.out _ _ ⟨rfl,rfl⟩) ?_|refine bg (kk1.out ⟨rfl,rfl⟩) (kk1.out ⟨rfl,rfl⟩) ?_|refine bg (kk2.out _ _ ⟨rfl,rfl⟩) (kk2.out _ _ ⟨rfl,rfl⟩) ?_|refine bg (kk2.out ⟨rfl,rfl⟩) (kk2.out ⟨rfl,rfl⟩) ?_|refine aL (kk1.out _ _ ⟨rfl,rfl⟩) ?_|refine aL (kk1.out ⟨rfl,rfl⟩) ?_|refine aL (kk2.out _ _ ⟨rfl,rfl⟩) ?_|refine aL (kk2.out ⟨rfl,rfl⟩) ?_|refine aL (kk3.out _ _ ⟨rfl,rfl⟩) ?_|refine aL (kk3.out ⟨rfl,rfl⟩) ?_|refine aL (kk4.out _ _ ⟨rfl,rfl⟩) ?_|refine aL (kk4.out ⟨rfl,rfl⟩) ?_|refine aL (kk5.out _ _ ⟨rfl,rfl⟩) ?_|refine aL (kk5.out ⟨rfl,rfl⟩) ?_|refine aL (kk6.out _ _ ⟨rfl,rfl⟩) ?_|refine aL (kk6.out ⟨rfl,rfl⟩) ?_|refine aL (kk7.out _ _ ⟨rfl,rfl⟩) ?_|refine aL (kk7.out ⟨rfl,rfl⟩) ?_)
    simp (config:={ maxSteps:=2000000 }) only [Kon,push_cast,reduceIte,Nat.reduceEqDiff,Nat.reduceAdd,Nat.reduceMul,Nat.reduceSub,Nat.reduceLT,Nat.reduceLeDiff,Int.reduceLT,Int.reduceLE,Int.reduceAdd,Int.reduceSub,Int.reduceNeg,Int.reduceToNat,Int.reduceEq,reduceCtorEq, *]
  | (first|refine aP (by kernel_rfl) ?_|refine aQ ?_|refine aC ?_|refine aV ?_|refine bq (ax ?_))
    simp only [push_cast,reduceIte,Nat.reduceEqDiff,Nat.reduceAdd,Nat.reduceMul,Nat.reduceSub,Nat.reduceLT,Nat.reduceLeDiff,Int.reduceLT,Int.reduceLE,Int.reduceAdd,Int.reduceSub,Int.reduceNeg,Int.reduceToNat,Int.reduceEq,reduceCtorEq, *]
  | exact bj
  | first|apply bm|apply aR|apply bo|apply aS|apply bp|apply aT
  | refine aG ?_
  | refine aB ?_
  | first|refine aE rfl ?_|refine aF rfl ?_|refine an rfl ?_ ?_
  | ((first|refine am (fun _=>?_) (fun _=>?_)|refine aw (fun _=>?_) (fun _=>?_))<;>try simp (config:={ maxSteps:=2000000 }) only [Kon,push_cast,reduceIte,Nat.reduceEqDiff,Nat.reduceAdd,Nat.reduceMul,Nat.reduceSub,Nat.reduceLT,Nat.reduceLeDiff,Int.reduceLT,Int.reduceLE,Int.reduceAdd,Int.reduceSub,Int.reduceNeg,Int.reduceToNat,Int.reduceEq,reduceCtorEq, *])
  | refine And.intro trivial ?_
  | refine And.intro (by omega) ?_
  | refine aM rfl (fun _=>?_) (fun _=>?_)
 exact hB_.out):A:=e (hid h)
theorem Zw {P:Program} {own:Nat->Nat->Nat} {f:FuncId} {lf:br} (h:bt P own f=some lf.raw) {args:List AV} {L:List Blk} {Q:AV->List Blk->Prop} {B:Prop} (b:B) (hl:Nat.ble args.length lf.ntmps=true:=by rfl) (e:Hid B->AW P lf.ntmps own lf.code (Xx lf.res L Q) (aq 0 args) L:=by
 intro hB_;simp only [push_cast]
 repeat' first
  | refine bb ?_
  | (first|refine aU (by kernel_rfl) ?_|refine aA (by kernel_rfl) ?_|refine aD ?_|refine bS ?_|refine bh (fun _=>?_)|refine ay ?_|refine aW ?_|refine kk1.out _ _ ?_|refine kk1.out ?_|refine kk2.out _ _ ?_|refine kk2.out ?_|refine kk3.out _ _ ?_|refine kk3.out ?_|refine kk4.out _ _ ?_|refine kk4.out ?_|refine kk5.out _ _ ?_|refine kk5.out ?_|refine kk6.out _ _ ?_|refine kk6.out ?_|refine kk7.out _ _ ?_|refine kk7.out ?_|refine bg (kk1.out _ _ ⟨rfl,rfl⟩) (kk1.out _ _ ⟨rfl,rfl⟩) ?_|refine bg (kk1.out ⟨rfl,rfl⟩) (kk1.out ⟨rfl,rfl⟩) ?_|refine bg (kk2.out _ _ ⟨rfl,rfl⟩) (kk2.out _ _ ⟨rfl,rfl⟩) ?_|refine bg (kk2.out ⟨rfl,rfl⟩) (kk2.out ⟨rfl,rfl⟩) ?_|refine aL (kk1.out _ _ ⟨rfl,rfl⟩) ?_|refine aL (kk1.out ⟨rfl,rfl⟩) ?_|refine aL (kk2.out _ _ ⟨rfl,rfl⟩) ?_|refine aL (kk2.out ⟨rfl,rfl⟩) ?_|refine aL (kk3.out _ _ ⟨rfl,rfl⟩) ?_|refine aL (kk3.out ⟨rfl,rfl⟩) ?_|refine aL (kk4.out _ _ ⟨rfl,rfl⟩) ?_|refine aL (kk4.out ⟨rfl,rfl⟩) ?_|refine aL (kk5.out _ _ ⟨rfl,rfl⟩) ?_|refine aL (kk5.out ⟨rfl,rfl⟩) ?_|refine aL (kk6.out _ _ ⟨rfl,rfl⟩) ?_|refine aL (kk6.out ⟨rfl,rfl⟩) ?_|refine aL (kk7.out _ _ ⟨rfl,rfl⟩) ?_|refine aL (kk7.out ⟨rfl,rfl⟩) ?_)
    simp (config:={ maxSteps:=2000000 }) only [Kon,push_cast,reduceIte,Nat.reduceEqDiff,Nat.reduceAdd,Nat.reduceMul,Nat.reduceSub,Nat.reduceLT,Nat.reduceLeDiff,Int.reduceLT,Int.reduceLE,Int.reduceAdd,Int.reduceSub,Int.reduceNeg,Int.reduceToNat,Int.reduceEq,reduceCtorEq, *]
  | (first|refine aP (by kernel_rfl) ?_|refine aQ ?_|refine aC ?_|refine aV ?_|refine bq (ax ?_))
    simp only [push_cast,reduceIte,Nat.reduceEqDiff,Nat.reduceAdd,Nat.reduceMul,Nat.reduceSub,Nat.reduceLT,Nat.reduceLeDiff,Int.reduceLT,Int.reduceLE,Int.reduceAdd,Int.reduceSub,Int.reduceNeg,Int.reduceToNat,Int.reduceEq,reduceCtorEq, *]
  | exact bj
  | first|apply bm|apply aR|apply bo|apply aS|apply bp|apply aT
  | refine aG ?_
  | refine aB ?_
  | first|refine aE rfl ?_|refine aF rfl ?_|refine an rfl ?_ ?_
  | ((first|refine am (fun _=>?_) (fun _=>?_)|refine aw (fun _=>?_) (fun _=>?_))<;>try simp (config:={ maxSteps:=2000000 }) only [Kon,push_cast,reduceIte,Nat.reduceEqDiff,Nat.reduceAdd,Nat.reduceMul,Nat.reduceSub,Nat.reduceLT,Nat.reduceLeDiff,Int.reduceLT,Int.reduceLE,Int.reduceAdd,Int.reduceSub,Int.reduceNeg,Int.reduceToNat,Int.reduceEq,reduceCtorEq, *])
  | refine And.intro trivial ?_
  | refine And.intro (by omega) ?_
  | refine aM rfl (fun _=>?_) (fun _=>?_)
 exact hB_.out):af P f args L Q:=ad h (Nat.le_of_ble_eq_true hl) (e (hid b))
attribute [push_cast] aq
theorem u8n {n:Nat} (h:n<256):(UInt8.ofNat n).toNat=n:=by
 simp only [UInt8.toNat_ofNat'];exact Nat.mod_eq_of_lt h
theorem qW:∀ (u:Nat),∃ c r,Lib.decDigits u=c::r/\48<=c.toNat/\c.toNat<=57/\(c.toNat=48->u=0):=by
 intro u
 induction u using Nat.strongRecOn with
 | _ u ih =>
   by_cases h10:u<10
   ·refine ⟨UInt8.ofNat (48+u),[],by rw [Lib.decDigits,dif_pos h10],?_⟩;rw [u8n (by omega)];omega
   ·obtain ⟨c,r,e,h1,h2,h3⟩:=ih (u / 10) (by omega);exact ⟨c,r++[UInt8.ofNat (48+u % 10)],by rw [Lib.decDigits,dif_neg h10,e];rfl,h1,h2,fun h=>by have:=h3 h;omega⟩
theorem SM (t:List UInt8):∀ (u:Nat),u<=18446744073709551615->Lib.parseUintM 18446744073709551615 0 (Lib.decDigits u++t)=Lib.parseUintM 18446744073709551615 u t:=by
 intro u
 induction u using Nat.strongRecOn generalizing t with
 | _ u ih =>
   intro hu;by_cases h10:u<10
   ·rw [Lib.decDigits,dif_pos h10];simp only [aaf,aab];rw [Lib.parseUintM,u8n (by omega),if_pos (by omega),if_neg (by omega),if_neg (by omega)]
    congr 1;omega
   ·rw [Lib.decDigits,dif_neg h10,ZO,ih (u / 10) (by omega) _ (by omega)];simp only [aaf,aab];rw [Lib.parseUintM,u8n (by omega),if_pos (by omega),if_neg (by omega),if_neg (by omega)]
    congr 1;omega
theorem Lu {u:Nat} (hu:u<=18446744073709551615):Lib.parseUintB 64 (Lib.decDigits u)=.ok u:=by
 obtain ⟨c,r,e,_⟩:=qW u;unfold Lib.parseUintB;rw [if_neg (by rw [e];simp)];have:=SM [] u hu;rw [aah] at this;exact this
def I64 (m:Int):Prop:=-9223372036854775808<=m/\m<=9223372036854775807
theorem Qv {m:Int} (hm:I64 m):Lib.parseIntB 64 (Lib.itoa m)=.ok m:=by
 obtain ⟨h0,h1⟩:=hm;unfold Lib.itoa;by_cases hn:m<0
 ·rw [if_pos hn];simp only [Lib.parseIntB];have e45:(45:UInt8).toNat=45:=rfl;rw [if_pos (.inr e45),Lu (by omega)];simp only [e45];simp only [not_true_eq_false,false_and,if_false,true_and,if_true];rw [if_neg (by omega)]
  congr 1;omega
 ·rw [if_neg hn];obtain ⟨c,r,e,h2,h3,_⟩:=qW m.toNat;have hp:=Lu (u:=m.toNat) (by omega);rw [e] at hp ⊢;simp only [Lib.parseIntB];rw [if_neg (by omega),hp];simp only;rw [if_neg (by omega),if_neg (by omega),if_neg (by omega)]
  congr 1;omega
theorem SX (m:Int):∃ c r,Lib.itoa m=c::r/\(c.toNat=45\/48<=c.toNat/\c.toNat<=57)/\(c.toNat=48->r=[]):=by
 unfold Lib.itoa;by_cases hn:m<0
 ·rw [if_pos hn];exact ⟨45,_,rfl,.inl rfl,fun h=>by simp at h⟩
 ·rw [if_neg hn];obtain ⟨c,r,e,h2,h3,h4⟩:=qW m.toNat;refine ⟨c,r,e,.inr ⟨h2,h3⟩,fun h=>?_⟩;rw [h4 h,Lib.decDigits,dif_pos (by omega)] at e;cases e;rfl
theorem Kb {l:List UInt8} {v:Int} (h:Lib.parseIntB 64 l=.ok v):I64 v:=by
 unfold Lib.parseIntB at h;split at h
 ·cases h
 ·simp only at h;split at h
  ·cases h
  ·cases h
  ·rename_i u _
   split at h
   ·cases h
   ·rename_i h1
    split at h
    ·cases h
    ·rename_i h2
     cases h;unfold I64;by_cases e:(‹UInt8›).toNat=45
     ·simp only [e,true_and,if_true] at h2 ⊢;omega
     ·simp only [e,not_false_eq_true,true_and,if_false] at h1 ⊢;omega
def MN (l:List UInt8):Int:=match Lib.parseIntB 64 l with
 | .ok n=>n
 | .syntax=>0
 | .range=>Lib.intSat 64 l
def qH (l:List UInt8):Bool:=match Lib.parseIntB 64 l with
 | .ok n=>decide (Lib.itoa n=l)
 | _=>false
theorem UW {m:Int} (hm:I64 m):qH (Lib.itoa m)=true/\MN (Lib.itoa m)=m:=by
 simp [qH,MN,Qv hm]
theorem Ui {P:Program} {W:World} {name:String} {k:IntKind} {zs:List Int} {g:Nat} (h:Lib.TabIs P W name k zs) (hg:P.globalNamed name=some g) :
  VRC ⟨(l4 W).mem,fun _=>none,fun _=>none⟩ (zs.map (AV.int k)) g 0/\∃ cs ty fr,W.heap[g]?=some (.cells cs ty fr)/\cs.size=(zs.map (AV.int k)).length:=by
 refine ⟨VRC.of_get fun i a ha=>?_,?_⟩
 ·obtain ⟨z,hz,rfl⟩:=aag .. ▸ ha |> ZZ.1
  have hi:=(Zz.1 hz).1;refine ⟨.int k z,?_,by simp [VR]⟩;have:=h.cell hg i hi;rw [Z2,hz] at this;simpa [l4] using this
 ·simp only [Lib.TabIs,World.var?,hg,aaJ] at h;split at h
  ·rename_i cs ty fr he
   refine ⟨cs,ty,fr,he,?_⟩;rw [Option.some.inj h];simp
  ·cases h
theorem Ru {P:Program} {W:World} {name:String} {g:Nat} {tp:TypeId} {x:Value} (h:W.var? P name=some #[.iface tp x]) (hg:P.globalNamed name=some g) :
  VRC ⟨(l4 W).mem,fun _=>none,fun _=>none⟩ [.iface tp .undef] g 0/\∃ cs ty fr,W.heap[g]?=some (.cells cs ty fr)/\cs.size=[AV.iface tp .undef].length:=by
 refine ⟨VRC.of_get fun i a ha=>?_,?_⟩
 ·cases i with
  | zero =>
    simp only [aao,ZB] at ha;subst ha;have:=World.var?_cell hg h 0;exact ⟨.iface tp x,by simpa [l4] using this,by simp [VR]⟩
  | succ i=>simp at ha
 ·simp only [World.var?,hg,aaJ] at h;split at h
  ·rename_i cs ty fr he
   exact ⟨cs,ty,fr,he,by rw [Option.some.inj h];rfl⟩
  ·cases h
theorem Vu {m:Nat->Nat->Option Value} {w:World}:(∀ p∈([]:List (Nat×List AV)),VRC ⟨m,fun _=>none,fun _=>none⟩ p.2 p.1 0/\∃ cs ty fr,w.heap[p.1]?=some (.cells cs ty fr)/\cs.size=p.2.length):=fun _ h=>by cases h
theorem l8 {m:Nat->Nat->Option Value} {w:World} {g:Nat} {l:List AV} {r:List (Nat×List AV)} (h:VRC ⟨m,fun _=>none,fun _=>none⟩ l g 0/\∃ cs ty fr,w.heap[g]?=some (.cells cs ty fr)/\cs.size=l.length)
  (hr:∀ p∈r,VRC ⟨m,fun _=>none,fun _=>none⟩ p.2 p.1 0/\∃ cs ty fr,w.heap[p.1]?=some (.cells cs ty fr)/\cs.size=p.2.length) :
  ∀ p∈(g,l)::r,VRC ⟨m,fun _=>none,fun _=>none⟩ p.2 p.1 0/\∃ cs ty fr,w.heap[p.1]?=some (.cells cs ty fr)/\cs.size=p.2.length:=fun p hp=>by
 rcases ZF.1 hp with rfl|hp
 ·exact h
 ·exact hr p hp
theorem Tk {w:World} (ho:∀ g∈KV,∃ z,(l4 w).mem g 0=some (.int .i64 z)) (h:∀ p∈Du,VRC ⟨(l4 w).mem,fun _=>none,fun _=>none⟩ p.2 p.1 0/\∃ cs ty fr,w.heap[p.1]?=some (.cells cs ty fr)/\cs.size=p.2.length):mJ (l4 w).mem/\nG w :=
 ⟨⟨fun p hp=>(h p hp).1,ho⟩,fun p hp _=>(h p hp).2⟩
open Go Go.Lib
theorem Po {W:World} (h:W.ShapedOpen Tryz.prog):∀ g∈KV,∃ z,(l4 W).mem g 0=some (.int .i64 z):=fun g hg=>by
 simp only [KV,ZS] at hg;subst hg;obtain ⟨m,hm⟩:=cell_of_shapedOpen_int (zero:=#[.int .i64 0]) (t:=3) h (of_decide_eq_true (by kernel_rfl)) (by kernel_rfl) (by kernel_rfl) (by kernel_rfl) (by kernel_rfl) Tryz.underlying3;exact ⟨m,by simpa [l4] using hm⟩
theorem Xp {H:Type} {enc:TypeId×Value->H} {P:Program} {w:World} {base:Nat} {sp:Nat->Bool} {held:Bool} {fuel:Nat} {t e:TypeId} {n:Nat} {cs:List Value} {x:DataW H×List MemPlace}
  (ht:P.underlying t=some (.array n e)) (h:DataW.trod enc P w base sp held fuel t cs=some x):cs.length=P.cellsOf t:=by
 cases fuel with
 | zero=>simp [DataW.trod] at h
 | succ fuel =>
   simp only [DataW.trod,ht] at h;split at h
   ·assumption
   ·cases h
theorem Ld {P:Program} {W:World} {name:String} {d:DataW Unit} {g:Nat} {t e:TypeId} {n:Nat} (h:VarReads P W name d) (hg:P.globalNamed name=some g) (hty:(P.globals[g]?).map (·.type)=some t) (ht:P.underlying t=some (.array n e)) :
  ∃ cs ty fr,W.heap[g]?=some (.cells cs ty fr)/\cs.size=P.cellsOf t:=by
 obtain ⟨g',t',cs,fuel,p,hg',hty',hvar,hd⟩:=h;obtain rfl:=Option.some.inj (hg.symm.trans hg');obtain rfl:=Option.some.inj (hty.symm.trans hty');have hl:=Xp ht hd;simp only [World.var?,hg,aaJ] at hvar;split at hvar
 ·rename_i cs' ty fr he
  exact ⟨cs',ty,fr,he,by rw [Option.some.inj hvar];simpa using hl⟩
 ·cases hvar
theorem ma:U8Extra Tryz.prog Tryz.lays196_ren:={ n3:=by kernel_rfl,n4:=by kernel_rfl,y3:=by kernel_rfl,y4:=by kernel_rfl,c5:=by kernel_rfl,c119:=by kernel_rfl,c138:=by kernel_rfl }
theorem G2:U8Types Tryz.prog Tryz.lays196_ren:=U8Types.of196 Tryz.lays196
theorem OX {W:World} {g:Nat} {l:List AV} (h:∀ i a,l[i]?=some a->∃ k z,a=.int k z/\W.cell? ⟨g,i,none⟩=some (.int k z)):VRC ⟨(l4 W).mem,fun _=>none,fun _=>none⟩ l g 0 :=
 VRC.of_get fun i a ha=>by
  obtain ⟨k,z,rfl,hc⟩:=h i a ha;exact ⟨.int k z,by simpa [l4] using hc,by simp [VR]⟩
theorem VF {W:World} (h3:VarReads Tryz.prog W "unicode/utf8.first" firstData) (h4:VarReads Tryz.prog W "unicode/utf8.acceptRanges" acceptData) (l:List AV) (hl:dH 0=some l) :
  VRC ⟨(l4 W).mem,fun _=>none,fun _=>none⟩ l 0 0/\∃ cs ty fr,W.heap[0]?=some (.cells cs ty fr)/\cs.size=l.length:=by
 have hT:=utf8Tabs_of_readsT G2 ma h3 h4;have e:dH 0=some ((List.range 256).map fun c=>AV.int .u8 (Lib.firstT c:Int)):=by kernel_rfl
 rw [e] at hl;obtain rfl:=Option.some.inj hl;refine ⟨OX fun i a ha=>?_,?_⟩
 ·simp only [aag,ZZ] at ha;obtain ⟨c,hc,rfl⟩:=ha;have hi:i<256:=by have:=(Zz.1 hc).1;simpa using this
  have hci:c=i:=by
   have:=(Zz.1 hc).2;simpa using this.symm
  subst hci;exact ⟨_,_,rfl,hT.1 c hi⟩
 ·obtain ⟨cs,ty,fr,h1,h2⟩:=Ld h3 ma.n3 ma.y3 G2.t119;exact ⟨cs,ty,fr,h1,by rw [h2,ma.c119];simp⟩
theorem V1:∀ (n:Nat) (i:Nat) (a:AV),((List.range n).flatMap fun i=>[AV.int .u8 (Lib.accLo i:Int),AV.int .u8 (Lib.accHi i:Int)])[i]?=some a->∃ j,j<n/\((i=2 * j/\a=.int .u8 (Lib.accLo j:Int))\/(i=2 * j+1/\a=.int .u8 (Lib.accHi j:Int)))
 | 0,i,a,h=>by simp at h
 | n+1,i,a,h=>by
   have hlen:∀ n:Nat,((List.range n).flatMap fun i=>[AV.int .u8 (Lib.accLo i:Int),AV.int .u8 (Lib.accHi i:Int)]).length=2 * n:=fun n=>by
    induction n with
    | zero=>simp
    | succ n ih=>rw [List.range_succ,abO,ZQ,ih];simp;omega
   rw [List.range_succ,abO] at h;rcases ZT i (2 * n) with hi|hi
   ·rw [ZM (by rw [hlen];exact hi)] at h;obtain ⟨j,hj,hh⟩:=V1 n i a h;exact ⟨j,by omega,hh⟩
   ·rw [Z5 (by rw [hlen];exact hi),hlen] at h;refine ⟨n,by omega,?_⟩;rcases hk:i - 2 * n with _|_|k
    ·rw [hk] at h;simp at h;exact .inl ⟨by omega,h.symm⟩
    ·rw [hk] at h;simp at h;exact .inr ⟨by omega,h.symm⟩
    ·rw [hk] at h;simp at h
theorem YA {W:World} (h3:VarReads Tryz.prog W "unicode/utf8.first" firstData) (h4:VarReads Tryz.prog W "unicode/utf8.acceptRanges" acceptData) (l:List AV) (hl:dH 1=some l) :
  VRC ⟨(l4 W).mem,fun _=>none,fun _=>none⟩ l 1 0/\∃ cs ty fr,W.heap[1]?=some (.cells cs ty fr)/\cs.size=l.length:=by
 have hT:=utf8Tabs_of_readsT G2 ma h3 h4;have e:dH 1=some ((List.range 16).flatMap fun i=>[AV.int .u8 (Lib.accLo i:Int),AV.int .u8 (Lib.accHi i:Int)]):=by kernel_rfl
 rw [e] at hl;obtain rfl:=Option.some.inj hl;refine ⟨OX fun i a ha=>?_,?_⟩
 ·obtain ⟨j,hj,⟨rfl,rfl⟩|⟨rfl,rfl⟩⟩:=V1 16 i a ha
  ·exact ⟨_,_,rfl,(hT.2 j hj).1⟩
  ·exact ⟨_,_,rfl,(hT.2 j hj).2⟩
 ·obtain ⟨cs,ty,fr,h1,h2⟩:=Ld h4 ma.n4 ma.y4 G2.t139;exact ⟨cs,ty,fr,h1,by rw [h2,show Tryz.prog.cellsOf (Tryz.lays196_ren.t 139)=32 by kernel_rfl];rfl⟩
end Go.Proofs.YtcmfcpjnhephaaaGreatDoor.Av
