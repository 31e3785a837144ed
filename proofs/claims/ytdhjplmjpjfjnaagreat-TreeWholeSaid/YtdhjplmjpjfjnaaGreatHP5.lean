/- Joined texts of the walk, made small by a program. -/
import Derived.Test.YtdhjplmjpjfjnaaGreatHP4
import Derived.WalkKit
import Derived.ProofKit
import Derived.OpenShut
import Derived.JoinedCond
import Derived.SizedLaws
import Derived.Sort.Grow
import Derived.Deep.Draws
import Derived.Lib.LaidTab
set_option linter.unusedSimpArgs false
set_option linter.unusedVariables false
namespace Go.Proofs.YtdhjplmjpjfjnaaGreat.Av
open Go Go.ChangeShapes Go.WideShapes Go.ChangeAt Go.RowKit
def EH (w:World):Env:={ mem:=fun b o=>w.cell? ⟨b,o,none⟩,loc:=fun _=>none,tok:=fun _=>none }
theorem Rel.start (w:World) (hg:qv (EH w).mem∧sg w):Rel w ⟨fun _=>False,0⟩ (EH w) [] w where
 mem _ _ _ h:=h
 blk _ _ h:=by simp at h
 fresh _ _:=rfl
 own _ _ _ h:=by simp at h
 inj _ _ _ _ _ _ h:=by simp at h
 tkfresh _ _:=rfl
 tkown _ _ _ _ _ h:=by simp at h
 tkloc _ _ _ _ _ _ _ _ h:=by simp at h
 tkinj _ _ _ _ _ _ _ _ _ _ h:=by simp at h
 frame _ _ _:=rfl
 size:=Nat.le_refl _
 os:=rfl
 tape:=rfl
 output:=rfl
 glob:=hg.1
 gsz:=hg.2
def Rd (P:Program) (t:TypeId) {X:Type} (ec:X→List AV) (ok:X→Prop):Prop :=
 ∀ (H:Type) (enc:TypeId×Value→H) (w:World) (fuel:Nat) (cs:List Value) (x:DataW H×List MemPlace),
   DataW.trod enc P w 0 (fun _=>true) true fuel t cs=some x→∃ y,ok y∧VRL (EH w) (ec y) cs
theorem Rd.map {P:Program} {t:TypeId} {X Y:Type} {ec:X→List AV} {ok:X→Prop} {ec':Y→List AV} {ok':Y→Prop} (h:Rd P t ec ok) (m:∀ y,ok y→∃ z,ok' z∧ec' z=ec y):Rd P t ec' ok':=fun H enc w fuel cs x hx=>by
 obtain ⟨y,h1,h2⟩:=h H enc w fuel cs x hx
 obtain ⟨z,h3,h4⟩:=m y h1
 exact ⟨z,h3,by rw [h4];exact h2⟩
theorem Nu {P:Program} {t:TypeId} {k:IntKind} (ht:P.underlying t=some (.int k)):Rd P t (fun n:Int=>[.int k n]) (fun n=>k.min≤n∧n≤k.max):=fun H enc w fuel cs x hx=>by
 obtain ⟨n,rfl,_,hw⟩:=DataW.trod_int ht hx
 simp only [Lit.wf,Bool.and_eq_true,decide_eq_true_eq] at hw
 exact ⟨n,hw,by simp [VRL,VR]⟩
theorem IN {E:Env}:∀ {l m:List AV} {b o:Nat},VRC E l b o→VRC E m b (o+l.length)→VRC E (l++m) b o
 | [],_,_,_,_,h=>by simpa using h
 | a::l,m,b,o,h,k=>by
   simp only [List.cons_append,VRC] at h ⊢
   exact ⟨h.1,IN h.2 (by rw [show o+1+l.length=o+(l.length+1) by omega];exact k)⟩
theorem ET {X:Type} (Q:Nat→X→Prop):∀ n,(∀ i,i<n→∃ y,Q i y)→∃ ys:List X,ys.length=n∧∀ i y,ys[i]?=some y→Q i y
 | 0,_=>⟨[],rfl,by simp⟩
 | n+1,h=>by
   obtain ⟨ys,h1,h2⟩:=ET Q n fun i hi=>h i (by omega)
   obtain ⟨y,hy⟩:=h n (by omega)
   refine ⟨ys++[y],by simp [h1],fun i z hz=>?_⟩
   rw [List.getElem?_append] at hz
   split at hz
   · exact h2 i z hz
   · have hi:i - ys.length=0:=by
       rcases Nat.eq_zero_or_pos (i - ys.length) with e|e
       · exact e
       · rw [List.getElem?_eq_none (by simp;omega)] at hz;cases hz
     rw [hi] at hz;simp at hz;subst hz
     rw [show i=n by omega];exact hy
theorem Ha {E:Env} {X:Type} {ec:X→List AV} {b sz:Nat}:∀ {ys:List X} {o:Nat},(∀ i y,ys[i]?=some y→(ec y).length=sz∧VRC E (ec y) b (o+i * sz))→VRC E (ys.flatMap ec) b o
 | [],_,_=>by simp [VRC]
 | y::ys,o,h=>by
   rw [List.flatMap_cons]
   have h0:=h 0 y rfl
   refine IN (by simpa using h0.2) (Ha (sz:=sz) fun i z hz=>?_)
   have:=h (i+1) z hz
   refine ⟨this.1,?_⟩
   rw [h0.1,show o+sz+i * sz=o+(i+1) * sz by rw [Nat.add_mul];omega]
   exact this.2
theorem D4 {w:World} {a:Addr} {n:Nat} {cs:List Value} (h:w.cells? 0 a n=some cs):cs.length=n∧∀ i,i<n→w.cell? (a.add i)=cs[i]?:=by
 simp only [World.cells?,Nat.zero_le,if_true] at h
 refine ⟨by simpa using mapM_some_length h,fun i hi=>?_⟩
 exact mapM_some_get h i i (by simp [hi])
theorem JG {w:World} {a:Addr} {v:Value} (h:w.cell? a=some v):a.spot=none:=by
 rcases hs:a.spot with _|s
 · rfl
 · simp only [World.cell?,hs,Option.isSome_some,if_true] at h
   split at h<;>cases h
theorem Hz {P:Program} {w:World} {base:Nat} {t:TypeId} {v:Value} (hg:gC P t=some false) (h:Value.okWide P w .any base t v):v.cells.toList=[v]:=by
 unfold gC at hg
 unfold Value.okWide at h
 split at hg
 · cases hg
 · cases hg
 · rename_i d h1 h2 hu
   rw [hu] at h
   split at h
   · rename_i e;cases e;exact absurd rfl (h1 _)
   · rename_i e;cases e;exact absurd rfl (h2 _ _)
   · cases v<;>try rfl
     rename_i cs
     unfold Cell.okWide at h
     split at h<;>try (rename_i e1 e2;cases e2)
     unfold Cell.ok at h
     split at h<;>first|(rename_i e1 e2;cases e2;done)|cases h
 · cases hg
theorem Gt {H:Type} {enc:TypeId×Value→H} {P:Program} {f:Func} {s:ChangeSpec} {apart fresh handsOn again:Bool} {W W':World} {args:Array Value} {v:Value} {ds gs:List (DataW H)} {before pa pv:List MemPlace}
   (hW:DataW.Whole enc P f.params.toList s.vars apart W args.toList ds gs before)
   (hres:∀ (b:Nat) (sp:Nat→Bool) (hd:Bool),DataW.TrodAll enc P W' b sp hd f.resultTypes.toList (v.resultList f.resultTypes.size) (s.fn H (ds++gs)).results [])
   (hargs:∀ sp:Nat→Bool,(∀ p∈before,sp p.block=true)→DataW.TrodAll enc P W' 0 sp true f.params.toList args.toList (s.fn H (ds++gs)).args pa)
   (hvars:∀ sp:Nat→Bool,(∀ p∈before,sp p.block=true)→DataW.TrodVars enc P W' sp s.vars (s.fn H (ds++gs)).vars pv)
   (hps:before=pa++pv) (hk:W.keptBut W' (·∈before)) (hfz:∀ b o,b<W.heap.size→W'.frozen? ⟨b,o,none⟩=W.frozen? ⟨b,o,none⟩)
   (hok:∀ (j:Nat) (t:TypeId) (r:Value),f.resultTypes[j]?=some t→(v.resultList f.resultTypes.size)[j]?=some r→Value.okWide P W' .any 0 t r) :
   s.post enc P f apart fresh handsOn again W args v W':=by
 have hlt:=hW.lt
 have hold:∀ p∈before,(fun b=>decide (b<W.heap.size)) p.block=true:=fun p hp=>by simpa using hlt p hp
 refine ⟨ds,gs,before,[],pa,pv,hW,hres _ _ _,hargs _ hold,hvars _ hold,World.keptBut_mono (fun p hp=>⟨hp,?_⟩) hk,fun _=>?_⟩
 · rw [hps,List.mem_append] at hp
   exact Or.inr hp
 · obtain ⟨_,_,_,_,_,hz,hn⟩:=hW
   refine ⟨hok,_,_,([]++pa)++pv,⟨[]++pa,pv,trodAll_append (hargs _ (fun _ _=>rfl)) (hres _ _ _),hvars _ (fun _ _=>rfl),rfl,?_,?_⟩,?_⟩
   · intro b off hp
     have hp':MemPlace.cell b off∈before:=by rw [hps];simpa using hp
     rw [hfz b off (hlt _ hp')]
     exact hz b off hp'
   · intro ha
     have:=hn ha
     rw [hps] at this
     simpa using this
   · intro p hp _
     rw [hps]
     simpa using hp
def De (P:Program):Bool:=(List.range P.types.size).all fun t=>match P.underlying t with|some (.slice e)=>decide (0<P.cellsOf e)|_=>true
theorem vM {H:Type} {enc:TypeId×Value→H} {P:Program} {W W':World} (hlaid:laidOutB P=true) (hrow:mapsRowed P=true) (hfull:De P=true) :
   ∀ {ts:List TypeId} {vs:List Value} {ds:List (DataW H)} {ps:List MemPlace},(∀ t∈ts,t<P.types.size)→DataW.TrodAll enc P W 0 (fun _=>true) true ts vs ds ps→(∀ p∈ps,W.sameAt W' p) →
   ∀ sp:Nat→Bool,(∀ p∈ps,sp p.block=true)→DataW.TrodAll enc P W' 0 sp true ts vs ds ps
 | [],_,_,_,_,h,_,_,_=>by
   obtain ⟨rfl,rfl,rfl⟩:=trodAll_nil h
   exact trodAll_mk0
 | t::ts,_,_,_,hts,h,hs,sp,hsp=>by
   obtain ⟨v,vs',d,ds',p,q,rfl,rfl,rfl,h1,h2⟩:=trodAll_cons h
   obtain ⟨fuel,h1⟩:=h1
   refine trodAll_cons_mk ⟨fuel,DataW.trod_stays (kids_rows hlaid hrow) (fun {t e} ht hu=>?_) (fun e=>by cases e) (hts t (by simp)) h1 (fun r hr=>hs r (List.mem_append_left _ hr)) (fun r hr=>hsp r (List.mem_append_left _ hr))⟩
     (vM hlaid hrow hfull (fun u hu=>hts u (by simp [hu])) h2 (fun r hr=>hs r (List.mem_append_right _ hr)) sp (fun r hr=>hsp r (List.mem_append_right _ hr)))
   have:=List.all_eq_true.1 hfull t (List.mem_range.2 ht)
   rw [hu] at this
   simpa using this
theorem Dc {H:Type} {enc:TypeId×Value→H} {P:Program} {w:World} {base:Nat} {spare:Nat→Bool} {held:Bool}:∀ {ts:List TypeId} {vs:List Value} {ds:List (DataW H)} {ps:List MemPlace},DataW.TrodAll enc P w base spare held ts vs ds ps→ds.length=ts.length
 | [],_,_,_,h=>by obtain ⟨_,rfl,_⟩:=trodAll_nil h;rfl
 | t::ts,_,_,_,h=>by
   obtain ⟨v,vs',d,ds',p,q,rfl,rfl,rfl,_,h2⟩:=trodAll_cons h
   simp [Dc h2]
theorem Ey {P:Program} {f:FuncId} {fn:Func} {s:ChangeSpec} {apart fresh handsOn again:Bool} {tb:TypeId} (hfn:P.funcs[f]?=some fn) (hbody:fn.body.isSome=true) (hname:(fn.name == "runtime.NumGoroutine")=false)
   (hlaid:laidOutB P=true) (hrow:mapsRowed P=true) (hfull:De P=true) (hts:fn.params.toList.all (fun t=>decide (t<P.types.size))=true) (hres:fn.resultTypes=#[tb]) (hb:P.underlying tb=some .bool) (hvars:s.vars=[])
   (hs:∀ (H:Type) (ds:List (DataW H)),ds.length=fn.params.toList.length→(s.fn H ds).results=[.lit (.bool true)]∧(s.fn H ds).args=ds∧(s.fn H ds).vars=[])
   {X:Type} {ec:X→List AV} {ok:X→Prop} (walk:∀ y,ok y→ab P f (ec y) [] fun av _=>av=.bool true)
   {H:Type} (enc:TypeId×Value→H) (W:World) (args:Array Value) (ds gs:List (DataW H)) (before:List MemPlace)
   (hA:∀ p,DataW.TrodAll enc P W 0 (fun _=>true) true fn.params.toList args.toList ds p→∃ y,ok y∧VRL (EH W) (ec y) args.toList)
   (hW:DataW.Whole enc P fn.params.toList s.vars apart W args.toList ds gs before) (hglob:qv (EH W).mem∧sg W) :
   Calls P f args W fun e W'=>∃ v,e=.returned v∧s.post enc P fn apart fresh handsOn again W args v W':=by
 have hW':=hW
 have hlt:=hW.lt
 obtain ⟨p,q,hA0,hV,rfl,hfz,hnd⟩:=hW
 rw [hvars] at hV
 obtain ⟨rfl,rfl⟩:=trodVars_none hV
 obtain ⟨y,hy,hvr⟩:=hA p hA0
 have hlen:=Dc hA0
 obtain ⟨e1,e2,e3⟩:=hs H ds hlen
 have hrun:(callFunc f args).run P W=.ok (.enter f args) W:=by
   simp only [callFunc,Sem.run_bind,run_program,Result.andThen_ok,hfn,hname]
   cases hb:fn.body with
   | none=>simp [hb] at hbody
   | some c=>simp
 rcases walk y hy W ⟨fun _=>False,0⟩ (EH W) W args.toList (Rel.start W hglob) hvr with ⟨_,h⟩|⟨_,_,_,_,_,h,_⟩
 · refine h.mono fun e W' ⟨E',v,av,L',he,_,hav,hv,hR⟩=>?_
   subst hav
   simp only [VR] at hv
   subst hv
   refine ⟨_,he,?_⟩
   have hheap:∀ b,b<W.heap.size→W'.heap[b]?=W.heap[b]?:=fun b hb=>hR.frame b hb (fun h=>h)
   have hps:∀ r∈p,W.sameAt W' r:=fun r hr=>by
     have:=hlt r (by simpa using hr)
     cases r<;>simp only [World.sameAt,MemPlace.block] at this ⊢
     · simp only [World.cell?];rw [hheap _ this]
     · exact hheap _ this
   refine Gt (pa:=p) (pv:=[]) hW' (fun b sp hd=>?_) (fun sp hsp=>?_) (fun _ _=>?_) rfl ⟨hR.os,hR.output,fun i hi=>?_⟩ (fun b o hb=>?_) (fun j t r h1 h2=>?_)
   · rw [List.append_nil,e1,hres]
     exact trodAll_cons_mk (shut_bool hb _) trodAll_mk0
   · rw [List.append_nil,e2]
     exact vM hlaid hrow hfull (fun t ht=>by simpa using List.all_eq_true.1 hts t ht) hA0 hps sp (fun r hr=>hsp r (by simpa using hr))
   · rw [hvars,List.append_nil,e3]
     rfl
   · rw [hheap i hi]
     rcases hc:W.heap[i]? with _|o
     · trivial
     · cases o<;>simp
   · simp only [World.frozen?];rw [hheap b hb]
   · exact ok_one hres rfl (okWide_bool_mk hb _) j t r h1 h2
 · rw [show (⟨args.toList⟩:Array Value)=args from rfl,hrun] at h
   cases h
open Go Go.ChangeShapes Go.WideShapes Go.ChangeAt
set_option maxHeartbeats 8000000
set_option maxRecDepth 100000
def RdZ (P:Program) (t:TypeId) {X:Type} (ec:X→List AV) (ok:X→Prop):Prop :=
 ∀ (H:Type) (enc:TypeId×Value→H) (w:World) (fuel:Nat) (cs:List Value) (x:DataW H×List MemPlace),
   DataW.trod enc P w 0 (fun _=>true) true fuel t cs=some x→(∀ n∈x.1.weights P t,n≤reachBytes)→∃ y,ok y∧VRL (EH w) (ec y) cs
theorem Rd.z {P:Program} {t:TypeId} {X:Type} {ec:X→List AV} {ok:X→Prop} (h:Rd P t ec ok):RdZ P t ec ok:=fun H enc w fuel cs x hx _=>h H enc w fuel cs x hx
theorem C0 {P:Program} {t:TypeId} (ht:P.underlying t=some .string):RdZ P t (fun s:List UInt8=>[.str s]) (fun s=>s.length≤reachBytes):=fun H enc w fuel cs x hx hz=>by
 obtain ⟨s,rfl,rfl,hw⟩:=DataW.trod_string ht hx
 exact ⟨s.data.toList,hz _ (by simp [DataW.weights]),by simp [VRL,VR]⟩
theorem sn {H:Type} {P:Program} {e:TypeId}:∀ {l:List (DataW H)} {d:DataW H},d∈l→∀ n∈d.weights P e,n∈DataW.weightsAll P e l
 | a::l,d,h,n,hn=>by
   rw [DataW.weightsAll]
   rcases List.mem_cons.1 h with rfl|h
   · exact List.mem_append_left _ hn
   · exact List.mem_append_right _ (sn h n hn)
theorem oG {P:Program} {t e:TypeId} {X:Type} {ec:X→List AV} {ok:X→Prop} (ht:P.underlying t=some (.slice e)) (he:RdZ P e ec ok) (hz':decide (0<P.cellsOf e)=true) :
   RdZ P t (fun l:List X=>[.sl (l.flatMap ec) l.length none]) (fun l=>l.length≤maxLen∧∀ y∈l,ok y):=fun H enc w fuel cs x hx hwt=>by
 have hz:0<P.cellsOf e:=of_decide_eq_true hz'
 rcases DataW.trod_slice ht hx with ⟨rfl,_⟩|⟨a,len,cap,elems,rest,n,_,rfl,rfl,_,hlc,hcap,hel,hget,hsp,_⟩
 · exact ⟨[],⟨by simp,by simp⟩,by simp only [VRL,VR];exact ⟨_,_,rfl,⟨none,0,rfl,Nat.le_refl _,by simp,.inl ⟨rfl,rfl,rfl⟩⟩,rfl⟩⟩
 have hspot:cap≠0→a.spot=none:=fun hc=>by
   have first:∀ r:Option (DataW H×List MemPlace),r≠none→(w.cells? 0 (a.add (0 * P.cellsOf e)) (P.cellsOf e)).bind (DataW.trod enc P w 0 (fun _=>true) true n e)=r→a.spot=none:=fun r hr h1=>by
     obtain ⟨q,rfl⟩:=Option.ne_none_iff_exists'.1 hr
     rw [Option.bind_eq_some_iff] at h1
     obtain ⟨cs',h2,_⟩:=h1
     obtain ⟨h6,h7⟩:=D4 h2
     have h8:=h7 0 hz
     obtain ⟨v,hv⟩:∃ v,cs'[0]?=some v:=⟨cs'[0]'(by omega),List.getElem?_eq_getElem _⟩
     rw [hv] at h8
     have:=JG h8
     simpa [Addr.add] using this
   by_cases hl:len=0
   · obtain ⟨r1,r2⟩:=hsp rfl
     exact first rest[0]? (by rw [List.getElem?_eq_getElem (by omega)];simp) (by simpa [hl] using r2 0 (by omega))
   · exact first elems[0]? (by rw [List.getElem?_eq_getElem (by omega)];simp) (hget 0 (by omega))
 have each:∀ i,i<len→∃ y,ok y∧(ec y).length=P.cellsOf e∧a.spot=none∧VRC (EH w) (ec y) a.block (a.off+i * P.cellsOf e):=fun i hi=>by
   have h1:=hget i hi
   obtain ⟨q,hq⟩:∃ q,elems[i]?=some q:=⟨elems[i]'(by omega),List.getElem?_eq_getElem _⟩
   rw [hq,Option.bind_eq_some_iff] at h1
   obtain ⟨cs',h2,h3⟩:=h1
   obtain ⟨y,h4,h5⟩:=he H enc w n cs' q h3 (fun m hm=>hwt m (by
     simp only [DataW.weights,ht]
     refine List.mem_cons_of_mem _ (List.mem_append_left _ (sn (d:=q.1) ?_ m hm))
     exact List.mem_map.2 ⟨q,List.mem_of_getElem? hq,rfl⟩))
   obtain ⟨h6,h7⟩:=D4 h2
   have hl:=h5.length
   have hsp:a.spot=none:=hspot (by omega)
   refine ⟨y,h4,by omega,hsp,VRC.of_get fun j u hu=>?_⟩
   obtain ⟨v,h8,h9⟩:=h5.get hu
   refine ⟨v,?_,h9⟩
   have hj:j<P.cellsOf e:=by
     have:=(List.getElem?_eq_some_iff.1 hu).1
     omega
   have h10:=h7 j hj
   rw [h8] at h10
   rw [← h10]
   have hadd:∀ k,a.add k=⟨a.block,a.off+k,none⟩:=fun k=>by
     obtain ⟨b,o,s⟩:=a
     simp only at hsp;subst hsp
     exact Addr.add_mk b o k
   rw [hadd,Addr.add_mk]
   rfl
 obtain ⟨ys,h1,h2⟩:=ET _ len each
 refine ⟨ys,⟨by omega,fun y hy=>?_⟩,?_⟩
 · obtain ⟨i,hi⟩:=List.getElem?_of_mem hy
   exact (h2 i y hi).1
 · simp only [VRL]
   refine ⟨_,[],rfl,?_,rfl⟩
   simp only [VR]
   refine ⟨_,_,by rw [h1],by omega,by simp,?_⟩
   by_cases hc:cap=0
   · have:ys=[]:=by
       have:ys.length=0:=by omega
       simpa using this
     subst this
     exact .inl ⟨rfl,hc,rfl⟩
   · refine .inr ⟨a.block,a.off,?_,Ha fun i y hy=>⟨(h2 i y hy).2.1,(h2 i y hy).2.2.2⟩⟩
     have hs:a.spot=none:=hspot hc
     cases a;simp only at hs ⊢;rw [hs]
theorem oD {H:Type} {P:Program} {us:List TypeId} {gs:List (DataW H)} {n:Nat}:∀ {ts:List TypeId} {ds:List (DataW H)},n∈DataW.weightsEach P ts ds→n∈DataW.weightsEach P (ts++us) (ds++gs)
 | [],_,h=>by simp [DataW.weightsEach] at h
 | _::_,[],h=>by simp [DataW.weightsEach] at h
 | t::ts,d::ds,h=>by
   simp only [List.cons_append,DataW.weightsEach,List.mem_append] at h ⊢
   rcases h with h|h
   · exact .inl h
   · exact .inr (oD h)
def MJ (P:Program) (N o:Nat) (fs:List Field) {X:Type} (ec:X→List AV) (ok:X→Prop):Prop :=
 ∀ (H:Type) (enc:TypeId×Value→H) (w:World) (n:Nat) (cs:List Value),cs.length=N →
   (∀ f∈fs,∃ x,DataW.trod enc P w 0 (fun _=>true) true n f.type ((cs.drop f.offset).take (P.cellsOf f.type))=some x∧∀ m∈x.1.weights P f.type,m≤reachBytes)→∃ y,ok y∧VRL (EH w) (ec y) (cs.drop o)
theorem Dk {P:Program} {N o:Nat} (h:o=N):MJ P N o [] (fun _:Unit=>[]) (fun _=>True):=fun H enc w n cs hl _ =>
 ⟨(),trivial,by simp [VRL,h,← hl]⟩
theorem fK {P:Program} {N o sz:Nat} {f:Field} {fs:List Field} {X Y:Type} {ec:X→List AV} {ok:X→Prop} {ec':Y→List AV} {ok':Y→Prop} (hf:f.offset=o) (hz:P.cellsOf f.type=sz) (h:RdZ P f.type ec ok) (r:MJ P N (o+sz) fs ec' ok') :
   MJ P N o (f::fs) (fun y:X×Y=>ec y.1++ec' y.2) (fun y=>ok y.1∧ok' y.2):=fun H enc w n cs hl hx=>by
 obtain ⟨x,h1,hw⟩:=hx f (by simp)
 obtain ⟨y,h2,h3⟩:=h H enc w n _ x h1 hw
 obtain ⟨z,h4,h5⟩:=r H enc w n cs hl fun g hg=>hx g (by simp [hg])
 refine ⟨(y,z),⟨h2,h4⟩,?_⟩
 have:cs.drop o=(cs.drop f.offset).take (P.cellsOf f.type)++cs.drop (o+sz):=by
   rw [hf,hz,← List.drop_drop,List.take_append_drop]
 rw [this]
 exact h3.append h5
theorem xg {P:Program} {t:TypeId} {fs:Array Field} {X:Type} {ec:X→List AV} {ok:X→Prop} {N:Nat} (ht:P.underlying t=some (.struct fs)) (hN:P.cellsOf t=N) (r:MJ P N 0 fs.toList ec ok):RdZ P t ec ok:=fun H enc w fuel cs x hx hwt=>by
 subst hN
 obtain ⟨xs,n,_,rfl,hl,hlen,hf⟩:=DataW.trod_struct ht hx
 obtain ⟨y,h1,h2⟩:=r H enc w n cs hl fun f hfm=>by
   obtain ⟨i,hi⟩:=List.getElem?_of_mem hfm
   have hi':fs[i]?=some f:=by simpa using hi
   rw [hf i f hi']
   have hlt:i<xs.length:=by
     rw [hlen]
     have:=(List.getElem?_eq_some_iff.1 hi).1
     simpa using this
   refine ⟨xs[i],List.getElem?_eq_getElem hlt,fun m hm=>hwt m ?_⟩
   simp only [DataW.weights,ht]
   refine DataW.weights_mem_each (j:=i) (t:=f.type) (d:=xs[i].1) ?_ ?_ m hm
   · rw [List.getElem?_map,hi];rfl
   · rw [List.getElem?_map,List.getElem?_eq_getElem hlt];rfl
 exact ⟨y,h1,by simpa using h2⟩
def MK (P:Program) (ts:List TypeId) {X:Type} (ec:X→List AV) (ok:X→Prop):Prop :=
 ∀ (H:Type) (enc:TypeId×Value→H) (w:World) (base:Nat) (vs:List Value) (ds:List (DataW H)) (ps:List MemPlace),
   (∀ (j:Nat) t v,ts[j]?=some t→vs[j]?=some v→Value.okWide P w .any base t v) →
   DataW.TrodAll enc P w 0 (fun _=>true) true ts vs ds ps→(∀ n∈DataW.weightsEach P ts ds,n≤reachBytes)→∃ y,ok y∧VRL (EH w) (ec y) vs
theorem Ku {P:Program}:MK P [] (fun _:Unit=>[]) (fun _=>True):=fun H enc w base vs ds ps _ h _=>by
 obtain ⟨rfl,_,_⟩:=trodAll_nil h
 exact ⟨(),trivial,by simp [VRL]⟩
theorem Dl {P:Program} {t:TypeId} {ts:List TypeId} {X Y:Type} {a:X→AV} {ok:X→Prop} {ec':Y→List AV} {ok':Y→Prop} (hg:gC P t=some false) (h:RdZ P t (fun y=>[a y]) ok) (r:MK P ts ec' ok') :
   MK P (t::ts) (fun y:X×Y=>a y.1::ec' y.2) (fun y=>ok y.1∧ok' y.2):=fun H enc w base vs ds ps hok hx hwt=>by
 obtain ⟨v,vs',d,ds',p,q,rfl,rfl,rfl,h1,h2⟩:=trodAll_cons hx
 obtain ⟨fuel,h1⟩:=h1
 obtain ⟨y,h3,h4⟩:=h H enc w fuel _ _ h1 (fun n hn=>hwt n (by rw [DataW.weightsEach];exact List.mem_append_left _ hn))
 obtain ⟨z,h5,h6⟩:=r H enc w base vs' ds' q (fun j t v a b=>hok (j+1) t v a b) h2 (fun n hn=>hwt n (by rw [DataW.weightsEach];exact List.mem_append_right _ hn))
 refine ⟨(y,z),⟨h3,h5⟩,?_⟩
 rw [Hz hg (hok 0 t v rfl rfl)] at h4
 simp only [VRL] at h4 ⊢
 obtain ⟨x,xs,e,h7,_⟩:=h4
 cases e
 exact ⟨v,vs',rfl,h7,h6⟩
open Go Go.ChangeShapes Go.WideShapes Go.ChangeAt
theorem RdZ.map {P:Program} {t:TypeId} {X Y:Type} {ec:X→List AV} {ok:X→Prop} {ec':Y→List AV} {ok':Y→Prop} (h:RdZ P t ec ok) (m:∀ y,ok y→∃ z,ok' z∧ec' z=ec y):RdZ P t ec' ok':=fun H enc w fuel cs x hx hb=>by
 obtain ⟨y,h1,h2⟩:=h H enc w fuel cs x hx hb
 obtain ⟨z,h3,h4⟩:=m y h1
 exact ⟨z,h3,by rw [h4];exact h2⟩
theorem FX {H:Type} {enc:TypeId×Value→H} {a:Assume} {C:Checked} {os:Os} {f:FuncId} {fn:Func} {s:ChangeSpec} {conds:List PathCond} {apart fresh handsOn again:Bool}
   (own:ownKnob C.prog.godebug=none) (started:os.Started) (noInit:C.prog.inits.idxOf? f=none) (hfn:C.prog.funcs[f]?=some fn)
   (witness:∃ (w:World) (tape:Tape) (i:Input),w.os=os∧(w.forCall tape i).Shaped C.prog∧i.vars=[]∧Input.okWide C.prog (w.forCall tape i) .any w.heap.size f i ∧
     s.pre6 enc C.prog fn conds apart (w.forCall tape i).memory i.args∧a.holds C.prog (lone (Frame.enter C.prog f i.args .normal) [] (w.forCall tape i)))
   (contract:∀ (W:World) (base:Nat) (args:Array Value) (ds gs:List (DataW H)) (before:List MemPlace),
     (∀ (j:Nat) t v,fn.params[j]?=some t→args[j]?=some v→Value.okWide C.prog W .any base t v) →
     DataW.Whole enc C.prog fn.params.toList s.vars apart W args.toList ds gs before →
     (DataW.weightsEach C.prog (fn.params.toList++s.plain.varTypes C.prog) (ds++gs)).all (·≤reachBytes)=true →
     Calls C.prog f args W fun e W'=>∃ v,e=.returned v∧s.post enc C.prog fn apart fresh handsOn again W args v W') :
   ReturnsInHanded a C os f .any (s.pre6 enc C.prog fn conds apart) (s.post enc C.prog fn apart fresh handsOn again):=by
 refine returnsInHanded_of_calls own started noInit witness ?_
 intro w tape i _ _ _ hok hpre hholds
 obtain ⟨_,_,_,fn',hfn',_,_,_,_,hval⟩:=hok
 have e:fn'=fn:=Option.some.inj (hfn'.symm.trans hfn)
 subst e
 obtain ⟨⟨ds,gs,before,hw,hc⟩,hz⟩:=hpre
 have hw':=DataW.Whole.of_heap (w':=w.forCall tape i) (by rfl) hw
 refine (contract (w.forCall tape i) w.heap.size i.args ds gs before hval hw' (hz.weights hw)).mono fun e W' ⟨v,he,hp⟩=>?_
 subst he
 exact ChangeSpec.post_blind hp
structure EG (w w':World):Prop where
 heap:∀ b,b<w.heap.size→w'.heap[b]?=w.heap[b]?
 size:w.heap.size≤w'.heap.size
 os:w'.os=w.os
 tape:w'.tape=w.tape
 output:w'.output=w.output
theorem EG.refl (w:World):EG w w:=⟨fun _ _=>rfl,Nat.le_refl _,rfl,rfl,rfl⟩
theorem Rel.grown {w0:World} {S0:SB} {E:Env} {L:List Blk} {w w':World} (h:Rel w0 S0 E L w) (g:EG w w'):Rel w0 S0 E L w':=by
 refine ⟨fun b o v hv=>?_,fun i k hk=>?_,h.fresh,h.own,h.inj,h.tkfresh,h.tkown,h.tkloc,h.tkinj,fun k hk hs=>?_,Nat.le_trans h.size g.size,g.os.trans h.os,g.tape.trans h.tape,g.output.trans h.output,h.glob,
   h.gsz.mod fun b cs ty fr hb=>⟨cs,ty,fr,by rw [g.heap b (Array.getElem?_eq_some_iff.1 hb).1];exact hb,rfl⟩⟩
 · have:=h.mem b o v hv
   simp only [World.cell?] at this ⊢
   rw [g.heap b (h.mem_lt hv)];exact this
 · cases hl:k.live
   · refine aU.still hl rfl (fun t c n sz e ht hc=>?_) (h.blk i k hk)
     subst e
     exact g.heap _ (h.tok_lt hk ht hc)
   · exact aU.worldL hl (fun c hc=>g.heap _ (h.loc_lt hk hl hc)) (h.blk i k hk)
 · rw [g.heap k (Nat.lt_of_lt_of_le hk h.size)];exact h.frame k hk hs
theorem mM {P:Program} {f:FuncId} {fn:Func} (hf:P.funcs[f]?=some fn) (hb:fn.body.isSome=true) (hn:(fn.name == "runtime.NumGoroutine")=false) {args:List AV} {L:List Blk} {K:AV→List Blk→Prop} {r:AV}
   (hc:∀ (w0:World) (S0:SB) (E:Env) (w:World) (vs:List Value),Rel w0 S0 E L w→VRL E args vs→Calls P f ⟨vs⟩ w fun e w'=>∃ v,e=.returned v∧VR E r v∧EG w w') (hk:K r L):ab P f args L K:=fun w0 S0 E w vs hR hv=>by
 refine .inl ⟨?_,(hc w0 S0 E w vs hR hv).mono fun e w' ⟨v,h1,h2,h3⟩=>⟨E,v,r,L,h1,.refl E,hk,h2,hR.grown h3⟩⟩
 simp only [callFunc,Sem.run_bind,run_program,Result.andThen_ok,hf,hn]
 cases h:fn.body with
 | none=>simp [h] at hb
 | some c=>simp
theorem VR.grow {E:Env} {l:List AV} {n i sz:Nat} {v:Value} (ht:E.tok i=some ⟨n,sz,none⟩) (h2:l.length=n * sz) (h:VR E (.sl l n (some n)) v):VR E (.gsl l n i sz) v:=by
 simp only [VR] at h ⊢
 obtain ⟨p,c',q1,q2,q3,q4⟩:=h
 exact ⟨p,c',q1,q2,h2,q4,⟨n,sz,none⟩,ht,Nat.le_refl _,fun _=>⟨rfl,fun _=>q3 n rfl,by simp⟩⟩
theorem sk {A B:Prop} (h:B) (e:Hid B→A:=by
   intro hB_
   simp only [Kon,push_cast,reduceIte,Nat.reduceEqDiff,Nat.reduceAdd,Nat.reduceMul,Nat.reduceSub,Nat.reduceLT,Nat.reduceLeDiff,Int.reduceLT,Int.reduceLE,Int.reduceAdd,Int.reduceSub,Int.reduceNeg,Int.reduceToNat,Int.reduceEq,reduceCtorEq, *]
   exact hB_.out):A:=e (hid h)
theorem sm {A B:Prop} (h:B) (e:Hid B→A:=by
   intro hB_
   simp (config:={ maxSteps:=2000000 }) only [Kon,push_cast,reduceIte,Nat.reduceEqDiff,Nat.reduceAdd,Nat.reduceMul,Nat.reduceSub,Nat.reduceLT,Nat.reduceLeDiff,Int.reduceLT,Int.reduceLE,Int.reduceAdd,Int.reduceSub,Int.reduceNeg,Int.reduceToNat,Int.reduceEq,reduceCtorEq, *]
   exact hB_.out):A:=e (hid h)
theorem sl {A B:Prop} (h:B) (e:Hid B→A:=by
   intro hB_
   simp only [push_cast,reduceIte,Nat.reduceEqDiff,Nat.reduceAdd,Nat.reduceMul,Nat.reduceSub,Nat.reduceLT,Nat.reduceLeDiff,Int.reduceLT,Int.reduceLE,Int.reduceAdd,Int.reduceSub,Int.reduceNeg,Int.reduceToNat,Int.reduceEq,reduceCtorEq, *]
   exact hB_.out):A:=e (hid h)
theorem wk {A B:Prop} (h:B) (e:Hid B→A:=by
   intro hB_
   repeat' first
     | refine dT ?_
     | (first|refine cA (by kernel_rfl) ?_|refine bM (by kernel_rfl) ?_|refine bN ?_|refine fN ?_|refine ez (fun _=>?_)|refine bv ?_|refine cC ?_|refine kk1.out _ _ ?_|refine kk1.out ?_|refine kk2.out _ _ ?_|refine kk2.out ?_|refine kk3.out _ _ ?_|refine kk3.out ?_|refine kk4.out _ _ ?_|refine kk4.out ?_|refine kk5.out _ _ ?_|refine kk5.out ?_|refine kk6.out _ _ ?_|refine kk6.out ?_|refine kk7.out _ _ ?_|refine kk7.out ?_|refine eE (kk1.out _ _ ⟨rfl,rfl⟩) (kk1.out _ _ ⟨rfl,rfl⟩) ?_|refine eE (kk1.out ⟨rfl,rfl⟩) (kk1.out ⟨rfl,rfl⟩) ?_|refine eE (kk2.out _ _ ⟨rfl,rfl⟩) (kk2.out _ _ ⟨rfl,rfl⟩) ?_|refine eE (kk2.out ⟨rfl,rfl⟩) (kk2.out ⟨rfl,rfl⟩) ?_|refine bF (kk1.out _ _ ⟨rfl,rfl⟩) ?_|refine bF (kk1.out ⟨rfl,rfl⟩) ?_|refine bF (kk2.out _ _ ⟨rfl,rfl⟩) ?_|refine bF (kk2.out ⟨rfl,rfl⟩) ?_|refine bF (kk3.out _ _ ⟨rfl,rfl⟩) ?_|refine bF (kk3.out ⟨rfl,rfl⟩) ?_|refine bF (kk4.out _ _ ⟨rfl,rfl⟩) ?_|refine bF (kk4.out ⟨rfl,rfl⟩) ?_|refine bF (kk5.out _ _ ⟨rfl,rfl⟩) ?_|refine bF (kk5.out ⟨rfl,rfl⟩) ?_|refine bF (kk6.out _ _ ⟨rfl,rfl⟩) ?_|refine bF (kk6.out ⟨rfl,rfl⟩) ?_|refine bF (kk7.out _ _ ⟨rfl,rfl⟩) ?_|refine bF (kk7.out ⟨rfl,rfl⟩) ?_)
       simp (config:={ maxSteps:=2000000 }) only [Kon,push_cast,reduceIte,Nat.reduceEqDiff,Nat.reduceAdd,Nat.reduceMul,Nat.reduceSub,Nat.reduceLT,Nat.reduceLeDiff,Int.reduceLT,Int.reduceLE,Int.reduceAdd,Int.reduceSub,Int.reduceNeg,Int.reduceToNat,Int.reduceEq,reduceCtorEq, *]
     | (first|refine ct (by kernel_rfl) ?_|refine co ?_|refine cB ?_|refine eF (bu ?_))
       simp only [push_cast,reduceIte,Nat.reduceEqDiff,Nat.reduceAdd,Nat.reduceMul,Nat.reduceSub,Nat.reduceLT,Nat.reduceLeDiff,Int.reduceLT,Int.reduceLE,Int.reduceAdd,Int.reduceSub,Int.reduceNeg,Int.reduceToNat,Int.reduceEq,reduceCtorEq, *]
     | exact eA
     | first|apply eB|apply cu|apply eC|apply cv|apply eD|apply cw
     | refine bQ ?_
     | first|refine bO rfl ?_|refine bP rfl ?_|refine aX rfl ?_ ?_
     | ((first|refine aW (fun _=>?_) (fun _=>?_)|refine br (fun _=>?_) (fun _=>?_))<;>try simp (config:={ maxSteps:=2000000 }) only [Kon,push_cast,reduceIte,Nat.reduceEqDiff,Nat.reduceAdd,Nat.reduceMul,Nat.reduceSub,Nat.reduceLT,Nat.reduceLeDiff,Int.reduceLT,Int.reduceLE,Int.reduceAdd,Int.reduceSub,Int.reduceNeg,Int.reduceToNat,Int.reduceEq,reduceCtorEq, *])
     | refine And.intro trivial ?_
     | refine And.intro (by omega) ?_
     | refine bR rfl (fun _=>?_) (fun _=>?_)
   exact hB_.out):A:=e (hid h)
end Go.Proofs.YtdhjplmjpjfjnaaGreat.Av
