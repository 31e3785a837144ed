/- Joined texts of the walk, made small by a program. -/
import Derived.Test.YtgpnbkdcdmfgcaaGreatXP4
import Derived.Sort.Grow
import Derived.Deep.Draws
import Derived.Lib.LaidTab
import Derived.WalkKit
import Derived.ProofKit
import Derived.OpenShut
import Derived.JoinedCond
import Derived.SizedLaws
set_option linter.unusedSimpArgs false
set_option linter.unusedVariables false
namespace Go.Proofs.YtgpnbkdcdmfgcaaGreat.Av
open Go
theorem sk {A B:Prop} (h:B) (e:Hid B→A:=by
   intro hB_
   simp only [Kon,push_cast,reduceIte,Nat.reduceEqDiff,Nat.reduceAdd,Nat.reduceMul,Nat.reduceSub,Nat.reduceLT,Nat.reduceLeDiff,Int.reduceLT,Int.reduceLE,Int.reduceAdd,Int.reduceSub,Int.reduceNeg,Int.reduceToNat,Int.reduceEq,reduceCtorEq, *]
   exact hB_.out):A:=e (hid h)
theorem sm {A B:Prop} (h:B) (e:Hid B→A:=by
   intro hB_
   simp (config:={ maxSteps:=2000000 }) only [Kon,push_cast,reduceIte,Nat.reduceEqDiff,Nat.reduceAdd,Nat.reduceMul,Nat.reduceSub,Nat.reduceLT,Nat.reduceLeDiff,Int.reduceLT,Int.reduceLE,Int.reduceAdd,Int.reduceSub,Int.reduceNeg,Int.reduceToNat,Int.reduceEq,reduceCtorEq, *]
   exact hB_.out):A:=e (hid h)
theorem sl {A B:Prop} (h:B) (e:Hid B→A:=by
   intro hB_
   simp only [push_cast,reduceIte,Nat.reduceEqDiff,Nat.reduceAdd,Nat.reduceMul,Nat.reduceSub,Nat.reduceLT,Nat.reduceLeDiff,Int.reduceLT,Int.reduceLE,Int.reduceAdd,Int.reduceSub,Int.reduceNeg,Int.reduceToNat,Int.reduceEq,reduceCtorEq, *]
   exact hB_.out):A:=e (hid h)
theorem wk {A B:Prop} (h:B) (e:Hid B→A:=by
   intro hB_
   repeat' first
     | refine cc ?_
     | (first|refine bs (by kernel_rfl) ?_|refine aT (by kernel_rfl) ?_|refine aU ?_|refine dw ?_|refine bY (fun _=>?_)|refine aF ?_|refine bv ?_|refine kk1.out _ _ ?_|refine kk1.out ?_|refine kk2.out _ _ ?_|refine kk2.out ?_|refine kk3.out _ _ ?_|refine kk3.out ?_|refine kk4.out _ _ ?_|refine kk4.out ?_|refine kk5.out _ _ ?_|refine kk5.out ?_|refine kk6.out _ _ ?_|refine kk6.out ?_|refine kk7.out _ _ ?_|refine kk7.out ?_|refine bz (kk1.out _ _ ⟨rfl,rfl⟩) (kk1.out _ _ ⟨rfl,rfl⟩) ?_|refine bz (kk1.out ⟨rfl,rfl⟩) (kk1.out ⟨rfl,rfl⟩) ?_|refine bz (kk2.out _ _ ⟨rfl,rfl⟩) (kk2.out _ _ ⟨rfl,rfl⟩) ?_|refine bz (kk2.out ⟨rfl,rfl⟩) (kk2.out ⟨rfl,rfl⟩) ?_|refine aD (kk1.out _ _ ⟨rfl,rfl⟩) ?_|refine aD (kk1.out ⟨rfl,rfl⟩) ?_|refine aD (kk2.out _ _ ⟨rfl,rfl⟩) ?_|refine aD (kk2.out ⟨rfl,rfl⟩) ?_|refine aD (kk3.out _ _ ⟨rfl,rfl⟩) ?_|refine aD (kk3.out ⟨rfl,rfl⟩) ?_|refine aD (kk4.out _ _ ⟨rfl,rfl⟩) ?_|refine aD (kk4.out ⟨rfl,rfl⟩) ?_|refine aD (kk5.out _ _ ⟨rfl,rfl⟩) ?_|refine aD (kk5.out ⟨rfl,rfl⟩) ?_|refine aD (kk6.out _ _ ⟨rfl,rfl⟩) ?_|refine aD (kk6.out ⟨rfl,rfl⟩) ?_|refine aD (kk7.out _ _ ⟨rfl,rfl⟩) ?_|refine aD (kk7.out ⟨rfl,rfl⟩) ?_)
       simp (config:={ maxSteps:=2000000 }) only [Kon,push_cast,reduceIte,Nat.reduceEqDiff,Nat.reduceAdd,Nat.reduceMul,Nat.reduceSub,Nat.reduceLT,Nat.reduceLeDiff,Int.reduceLT,Int.reduceLE,Int.reduceAdd,Int.reduceSub,Int.reduceNeg,Int.reduceToNat,Int.reduceEq,reduceCtorEq, *]
     | (first|refine bo (by kernel_rfl) ?_|refine bt ?_|refine bu ?_|refine ce (aE ?_))
       simp only [push_cast,reduceIte,Nat.reduceEqDiff,Nat.reduceAdd,Nat.reduceMul,Nat.reduceSub,Nat.reduceLT,Nat.reduceLeDiff,Int.reduceLT,Int.reduceLE,Int.reduceAdd,Int.reduceSub,Int.reduceNeg,Int.reduceToNat,Int.reduceEq,reduceCtorEq, *]
     | exact bZ
     | first|apply b9|apply bp|apply ca|apply bq|apply cb|apply br
     | refine aX ?_
     | first|refine aV rfl ?_|refine aW rfl ?_|refine aA rfl ?_ ?_
     | ((first|refine ay (fun _=>?_) (fun _=>?_)|refine aC (fun _=>?_) (fun _=>?_))<;>try simp (config:={ maxSteps:=2000000 }) only [Kon,push_cast,reduceIte,Nat.reduceEqDiff,Nat.reduceAdd,Nat.reduceMul,Nat.reduceSub,Nat.reduceLT,Nat.reduceLeDiff,Int.reduceLT,Int.reduceLE,Int.reduceAdd,Int.reduceSub,Int.reduceNeg,Int.reduceToNat,Int.reduceEq,reduceCtorEq, *])
     | refine And.intro trivial ?_
     | refine And.intro (by omega) ?_
     | refine aY rfl (fun _=>?_) (fun _=>?_)
   exact hB_.out):A:=e (hid h)
structure E8 (w w':World):Prop where
 heap:∀ b,b<w.heap.size→w'.heap[b]?=w.heap[b]?
 size:w.heap.size≤w'.heap.size
 os:w'.os=w.os
 tape:w'.tape=w.tape
 output:w'.output=w.output
theorem E8.refl (w:World):E8 w w:=⟨fun _ _=>rfl,Nat.le_refl _,rfl,rfl,rfl⟩
theorem Rel.grown {w0:World} {S0:Nat→Prop} {E:Env} {L:List Blk} {w w':World} (h:Rel w0 S0 E L w) (g:E8 w w'):Rel w0 S0 E L w':=by
 refine ⟨fun b o v hv=>?_,fun i k hk=>?_,h.fresh,h.own,h.inj,h.tkfresh,h.tkown,h.tkloc,h.tkinj,fun k hk hs=>?_,Nat.le_trans h.size g.size,g.os.trans h.os,g.tape.trans h.tape,g.output.trans h.output,h.glob,
   h.gsz.mod fun b cs ty fr hb=>⟨cs,ty,fr,by rw [g.heap b (Array.getElem?_eq_some_iff.1 hb).1];exact hb,rfl⟩⟩
 · have:=h.mem b o v hv
   simp only [World.cell?] at this ⊢
   rw [g.heap b (h.mem_lt hv)];exact this
 · cases hl:k.live
   · refine aO.still hl rfl (fun t c n sz e ht hc=>?_) (h.blk i k hk)
     subst e
     exact g.heap _ (h.tok_lt hk ht hc)
   · exact aO.worldL hl (fun c hc=>g.heap _ (h.loc_lt hk hl hc)) (h.blk i k hk)
 · rw [g.heap k (Nat.lt_of_lt_of_le hk h.size)];exact h.frame k hk hs
theorem iL {P:Program} {f:FuncId} {fn:Func} (hf:P.funcs[f]?=some fn) (hb:fn.body.isSome=true) (hn:(fn.name == "runtime.NumGoroutine")=false) {args:List AV} {L:List Blk} {K:AV→List Blk→Prop} {r:AV}
   (hc:∀ (w0:World) (S0:Nat→Prop) (E:Env) (w:World) (vs:List Value),Rel w0 S0 E L w→VRL E args vs→Calls P f ⟨vs⟩ w fun e w'=>∃ v,e=.returned v∧VR E r v∧E8 w w') (hk:K r L):ad P f args L K:=fun w0 S0 E w vs hR hv=>by
 refine .inl ⟨?_,(hc w0 S0 E w vs hR hv).mono fun e w' ⟨v,h1,h2,h3⟩=>⟨E,v,r,L,h1,.refl E,hk,h2,hR.grown h3⟩⟩
 simp only [callFunc,Sem.run_bind,run_program,Result.andThen_ok,hf,hn]
 cases h:fn.body with
 | none=>simp [h] at hb
 | some c=>simp
theorem Kc {P:Program} {N:Nat} {own:Nat→Nat→Nat} {Q:Exit→Tm→List Blk→Prop} {T:Tm} {L X:List Blk} {lc:bE} (t sz k:Nat) (hk:X.length=k) {l:List AV} {n:Nat} (h1:am T t=some (.sl l n (some n))) (h2:l.length=n * sz) (h:AW P N own lc Q ((t,.gsl l n (L.length+k) sz)::T) (L++(X++[.spare n sz]))):AW P N own lc Q T (L++X):=by
 refine cj t sz h1 h2 ?_
 rw [List.length_append,hk,List.append_assoc];exact h
theorem Rel.reblk {w0:World} {S0:Nat→Prop} {E:Env} {L:List Blk} {w:World} (h:Rel w0 S0 E L w) {i:Nat} {c c':List AV} (hL:L[i]?=some (.cells c)) (hlen:c'.length=c.length)
   (hv:∀ (j:Nat) (a':AV),c'[j]?=some a'→∃ a,c[j]?=some a∧∀ v,VR E a v→VR E a' v):Rel w0 S0 E (L.set i (.cells c')) w:=by
 have hi:i<L.length:=(List.getElem?_eq_some_iff.1 hL).1
 have fix:∀ (j:Nat) (k:Blk),(L.set i (.cells c'))[j]?=some k→k.live=true→∃ k',L[j]?=some k'∧k'.live=true:=fun j k hk hl=>by
   rw [List.getElem?_set] at hk
   split at hk
   · rename_i e;subst e;exact ⟨_,hL,rfl⟩
   · exact ⟨k,hk,hl⟩
 have fixs:∀ (j n sz:Nat),(L.set i (.cells c'))[j]?=some (.spare n sz)→L[j]?=some (.spare n sz):=fun j n sz hk=>by
   rw [List.getElem?_set] at hk
   split at hk
   · cases hk
   · exact hk
 refine ⟨h.mem,fun j k hk=>?_,fun i hi=>h.fresh i (by simpa using hi),fun i k c hk hl hc=>?_,fun i j k k' c c' hi li hj lj=>?_,
   fun i hi=>h.tkfresh i (by simpa using hi),fun i n sz t d hi=>h.tkown i n sz t d (fixs i n sz hi),fun i n sz t d j k' c' hi ht hd hj hl=>?_,
   fun i n sz t d i' n' sz' t' d' hi ht hd hi'=>h.tkinj i n sz t d i' n' sz' t' d' (fixs i n sz hi) ht hd (fixs i' n' sz' hi'),h.frame,h.size,h.os,h.tape,h.output,h.glob,h.gsz⟩
 · rw [List.getElem?_set] at hk
   split at hk
   · rename_i e;subst e
     cases hk
     obtain ⟨cl,cs,ty,fr,g1,g2,g3,g4,g5,g6⟩:=h.blk _ _ hL
     refine ⟨cl,cs,ty,fr,g1,g2,g3,by rw [hlen];exact g4,fun j a ha=>?_,g6⟩
     obtain ⟨b,hb,hbv⟩:=hv j a ha
     obtain ⟨v,h1,h2⟩:=g5 j b hb
     exact ⟨v,h1,hbv v h2⟩
   · exact h.blk j k hk
 · obtain ⟨k',h1,h2⟩:=fix i k hk hl
   exact h.own i k' c h1 h2 hc
 · obtain ⟨k1,h1,h2⟩:=fix i k hi li
   obtain ⟨k2,h3,h4⟩:=fix j k' hj lj
   exact h.inj i j k1 k2 c c' h1 h2 h3 h4
 · obtain ⟨k1,h1,h2⟩:=fix j k' hj hl
   exact h.tkloc i n sz t d j k1 c' (fixs i n sz hi) ht hd h1 h2
theorem VR.grow {E:Env} {l:List AV} {n i sz:Nat} {v:Value} (ht:E.tok i=some ⟨n,sz,none⟩) (h2:l.length=n * sz) (h:VR E (.sl l n (some n)) v):VR E (.gsl l n i sz) v:=by
 simp only [VR] at h ⊢
 obtain ⟨p,c',q1,q2,q3,q4⟩:=h
 exact ⟨p,c',q1,q2,h2,q4,⟨n,sz,none⟩,ht,Nat.le_refl _,fun _=>⟨rfl,fun _=>q3 n rfl,by simp⟩⟩
theorem fo {P:Program} {N:Nat} {own:Nat→Nat→Nat} {Q:Exit→Tm→List Blk→Prop} {T:Tm} {L:List Blk} {lc:bE} (i j sz:Nat) {c l:List AV} {n:Nat} (hL:L[i]?=some (.cells c)) (hj:c[j]?=some (.sl l n (some n))) (h2:l.length=n * sz)
   (h:AW P N own lc Q T (L.set i (.cells (c.set j (.gsl l n L.length sz)))++[.spare n sz])):AW P N own lc Q T L:=fun cd hc w0 S0 E a w hst=>by
 obtain ⟨r1,r2⟩:=hst.1.addtok (n:=n) (sz:=sz) (lc:=none) A5
 have hi:i<L.length:=(List.getElem?_eq_some_iff.1 hL).1
 have hL':(L++[Blk.spare n sz])[i]?=some (.cells c):=by rw [List.getElem?_append_left hi];exact hL
 have r3:=r2.reblk hL' (c':=c.set j (.gsl l n L.length sz)) (by simp) fun k a' ha=>by
   rw [List.getElem?_set] at ha
   split at ha
   · rename_i e;subst e
     split at ha
     · cases ha
       exact ⟨_,hj,fun v hv=>VR.grow (by simp) h2 hv⟩
     · cases ha
   · exact ⟨a',ha,fun v hv=>hv⟩
 rw [List.set_append_left _ _ hi] at r3
 exact wp_mono (h cd hc w0 S0 _ a w ⟨r3,hst.2.1.mono r1,hst.2.2⟩) fun e a' w' ⟨E',T1,L1,k1,k2,k3⟩=>⟨E',T1,L1,r1.trans k1,k2,k3⟩
open Go Go.ChangeShapes Go.WideShapes Go.ChangeAt Go.RowKit
def F3 (w:World):Env:={ mem:=fun b o=>w.cell? ⟨b,o,none⟩,loc:=fun _=>none,tok:=fun _=>none }
theorem Rel.start (w:World) (hg:nG (F3 w).mem∧rn w):Rel w (fun _=>False) (F3 w) [] w where
 mem _ _ _ h:=h
 blk _ _ h:=by simp at h
 fresh _ _:=rfl
 own _ _ _ h:=by simp at h
 inj _ _ _ _ _ _ h:=by simp at h
 tkfresh _ _:=rfl
 tkown _ _ _ _ _ h:=by simp at h
 tkloc _ _ _ _ _ _ _ _ h:=by simp at h
 tkinj _ _ _ _ _ _ _ _ _ _ h:=by simp at h
 frame _ _ _:=rfl
 size:=Nat.le_refl _
 os:=rfl
 tape:=rfl
 output:=rfl
 glob:=hg.1
 gsz:=hg.2
def Rd (P:Program) (t:TypeId) {X:Type} (ec:X→List AV) (ok:X→Prop):Prop :=
 ∀ (H:Type) (enc:TypeId×Value→H) (w:World) (fuel:Nat) (cs:List Value) (x:DataW H×List MemPlace),
   DataW.trod enc P w 0 (fun _=>true) true fuel t cs=some x→∃ y,ok y∧VRL (F3 w) (ec y) cs
theorem Rd.map {P:Program} {t:TypeId} {X Y:Type} {ec:X→List AV} {ok:X→Prop} {ec':Y→List AV} {ok':Y→Prop} (h:Rd P t ec ok) (m:∀ y,ok y→∃ z,ok' z∧ec' z=ec y):Rd P t ec' ok':=fun H enc w fuel cs x hx=>by
 obtain ⟨y,h1,h2⟩:=h H enc w fuel cs x hx
 obtain ⟨z,h3,h4⟩:=m y h1
 exact ⟨z,h3,by rw [h4];exact h2⟩
theorem Gp {P:Program} {w:World} {base:Nat} {t:TypeId} {v:Value} (hg:fg P t=some false) (h:Value.okWide P w .any base t v):v.cells.toList=[v]:=by
 unfold fg at hg
 unfold Value.okWide at h
 split at hg
 · cases hg
 · cases hg
 · rename_i d h1 h2 hu
   rw [hu] at h
   split at h
   · rename_i e;cases e;exact absurd rfl (h1 _)
   · rename_i e;cases e;exact absurd rfl (h2 _ _)
   · cases v<;>try rfl
     rename_i cs
     unfold Cell.okWide at h
     split at h<;>try (rename_i e1 e2;cases e2)
     unfold Cell.ok at h
     split at h<;>first|(rename_i e1 e2;cases e2;done)|cases h
 · cases hg
theorem Fo {H:Type} {enc:TypeId×Value→H} {P:Program} {f:Func} {s:ChangeSpec} {apart fresh handsOn again:Bool} {W W':World} {args:Array Value} {v:Value} {ds gs:List (DataW H)} {before pa pv:List MemPlace}
   (hW:DataW.Whole enc P f.params.toList s.vars apart W args.toList ds gs before)
   (hres:∀ (b:Nat) (sp:Nat→Bool) (hd:Bool),DataW.TrodAll enc P W' b sp hd f.resultTypes.toList (v.resultList f.resultTypes.size) (s.fn H (ds++gs)).results [])
   (hargs:∀ sp:Nat→Bool,(∀ p∈before,sp p.block=true)→DataW.TrodAll enc P W' 0 sp true f.params.toList args.toList (s.fn H (ds++gs)).args pa)
   (hvars:∀ sp:Nat→Bool,(∀ p∈before,sp p.block=true)→DataW.TrodVars enc P W' sp s.vars (s.fn H (ds++gs)).vars pv)
   (hps:before=pa++pv) (hk:W.keptBut W' (·∈before)) (hfz:∀ b o,b<W.heap.size→W'.frozen? ⟨b,o,none⟩=W.frozen? ⟨b,o,none⟩)
   (hok:∀ (j:Nat) (t:TypeId) (r:Value),f.resultTypes[j]?=some t→(v.resultList f.resultTypes.size)[j]?=some r→Value.okWide P W' .any 0 t r) :
   s.post enc P f apart fresh handsOn again W args v W':=by
 have hlt:=hW.lt
 have hold:∀ p∈before,(fun b=>decide (b<W.heap.size)) p.block=true:=fun p hp=>by simpa using hlt p hp
 refine ⟨ds,gs,before,[],pa,pv,hW,hres _ _ _,hargs _ hold,hvars _ hold,World.keptBut_mono (fun p hp=>⟨hp,?_⟩) hk,fun _=>?_⟩
 · rw [hps,List.mem_append] at hp
   exact Or.inr hp
 · obtain ⟨_,_,_,_,_,hz,hn⟩:=hW
   refine ⟨hok,_,_,([]++pa)++pv,⟨[]++pa,pv,trodAll_append (hargs _ (fun _ _=>rfl)) (hres _ _ _),hvars _ (fun _ _=>rfl),rfl,?_,?_⟩,?_⟩
   · intro b off hp
     have hp':MemPlace.cell b off∈before:=by rw [hps];simpa using hp
     rw [hfz b off (hlt _ hp')]
     exact hz b off hp'
   · intro ha
     have:=hn ha
     rw [hps] at this
     simpa using this
   · intro p hp _
     rw [hps]
     simpa using hp
def CD (P:Program):Bool:=(List.range P.types.size).all fun t=>match P.underlying t with|some (.slice e)=>decide (0<P.cellsOf e)|_=>true
theorem vB {H:Type} {enc:TypeId×Value→H} {P:Program} {W W':World} (hlaid:laidOutB P=true) (hrow:mapsRowed P=true) (hfull:CD P=true) :
   ∀ {ts:List TypeId} {vs:List Value} {ds:List (DataW H)} {ps:List MemPlace},(∀ t∈ts,t<P.types.size)→DataW.TrodAll enc P W 0 (fun _=>true) true ts vs ds ps→(∀ p∈ps,W.sameAt W' p) →
   ∀ sp:Nat→Bool,(∀ p∈ps,sp p.block=true)→DataW.TrodAll enc P W' 0 sp true ts vs ds ps
 | [],_,_,_,_,h,_,_,_=>by
   obtain ⟨rfl,rfl,rfl⟩:=trodAll_nil h
   exact trodAll_mk0
 | t::ts,_,_,_,hts,h,hs,sp,hsp=>by
   obtain ⟨v,vs',d,ds',p,q,rfl,rfl,rfl,h1,h2⟩:=trodAll_cons h
   obtain ⟨fuel,h1⟩:=h1
   refine trodAll_cons_mk ⟨fuel,DataW.trod_stays (kids_rows hlaid hrow) (fun {t e} ht hu=>?_) (fun e=>by cases e) (hts t (by simp)) h1 (fun r hr=>hs r (List.mem_append_left _ hr)) (fun r hr=>hsp r (List.mem_append_left _ hr))⟩
     (vB hlaid hrow hfull (fun u hu=>hts u (by simp [hu])) h2 (fun r hr=>hs r (List.mem_append_right _ hr)) sp (fun r hr=>hsp r (List.mem_append_right _ hr)))
   have:=List.all_eq_true.1 hfull t (List.mem_range.2 ht)
   rw [hu] at this
   simpa using this
theorem CA {H:Type} {enc:TypeId×Value→H} {P:Program} {w:World} {base:Nat} {spare:Nat→Bool} {held:Bool}:∀ {ts:List TypeId} {vs:List Value} {ds:List (DataW H)} {ps:List MemPlace},DataW.TrodAll enc P w base spare held ts vs ds ps→ds.length=ts.length
 | [],_,_,_,h=>by obtain ⟨_,rfl,_⟩:=trodAll_nil h;rfl
 | t::ts,_,_,_,h=>by
   obtain ⟨v,vs',d,ds',p,q,rfl,rfl,rfl,_,h2⟩:=trodAll_cons h
   simp [CA h2]
theorem DG {P:Program} {f:FuncId} {fn:Func} {s:ChangeSpec} {apart fresh handsOn again:Bool} {tb:TypeId} (hfn:P.funcs[f]?=some fn) (hbody:fn.body.isSome=true) (hname:(fn.name == "runtime.NumGoroutine")=false)
   (hlaid:laidOutB P=true) (hrow:mapsRowed P=true) (hfull:CD P=true) (hts:fn.params.toList.all (fun t=>decide (t<P.types.size))=true) (hres:fn.resultTypes=#[tb]) (hb:P.underlying tb=some .bool) (hvars:s.vars=[])
   (hs:∀ (H:Type) (ds:List (DataW H)),ds.length=fn.params.toList.length→(s.fn H ds).results=[.lit (.bool true)]∧(s.fn H ds).args=ds∧(s.fn H ds).vars=[])
   {X:Type} {ec:X→List AV} {ok:X→Prop} (walk:∀ y,ok y→ad P f (ec y) [] fun av _=>av=.bool true)
   {H:Type} (enc:TypeId×Value→H) (W:World) (args:Array Value) (ds gs:List (DataW H)) (before:List MemPlace)
   (hA:∀ p,DataW.TrodAll enc P W 0 (fun _=>true) true fn.params.toList args.toList ds p→∃ y,ok y∧VRL (F3 W) (ec y) args.toList)
   (hW:DataW.Whole enc P fn.params.toList s.vars apart W args.toList ds gs before) (hglob:nG (F3 W).mem∧rn W) :
   Calls P f args W fun e W'=>∃ v,e=.returned v∧s.post enc P fn apart fresh handsOn again W args v W':=by
 have hW':=hW
 have hlt:=hW.lt
 obtain ⟨p,q,hA0,hV,rfl,hfz,hnd⟩:=hW
 rw [hvars] at hV
 obtain ⟨rfl,rfl⟩:=trodVars_none hV
 obtain ⟨y,hy,hvr⟩:=hA p hA0
 have hlen:=CA hA0
 obtain ⟨e1,e2,e3⟩:=hs H ds hlen
 have hrun:(callFunc f args).run P W=.ok (.enter f args) W:=by
   simp only [callFunc,Sem.run_bind,run_program,Result.andThen_ok,hfn,hname]
   cases hb:fn.body with
   | none=>simp [hb] at hbody
   | some c=>simp
 rcases walk y hy W (fun _=>False) (F3 W) W args.toList (Rel.start W hglob) hvr with ⟨_,h⟩|⟨_,_,_,_,_,h,_⟩
 · refine h.mono fun e W' ⟨E',v,av,L',he,_,hav,hv,hR⟩=>?_
   subst hav
   simp only [VR] at hv
   subst hv
   refine ⟨_,he,?_⟩
   have hheap:∀ b,b<W.heap.size→W'.heap[b]?=W.heap[b]?:=fun b hb=>hR.frame b hb (fun h=>h)
   have hps:∀ r∈p,W.sameAt W' r:=fun r hr=>by
     have:=hlt r (by simpa using hr)
     cases r<;>simp only [World.sameAt,MemPlace.block] at this ⊢
     · simp only [World.cell?];rw [hheap _ this]
     · exact hheap _ this
   refine Fo (pa:=p) (pv:=[]) hW' (fun b sp hd=>?_) (fun sp hsp=>?_) (fun _ _=>?_) rfl ⟨hR.os,hR.output,fun i hi=>?_⟩ (fun b o hb=>?_) (fun j t r h1 h2=>?_)
   · rw [List.append_nil,e1,hres]
     exact trodAll_cons_mk (shut_bool hb _) trodAll_mk0
   · rw [List.append_nil,e2]
     exact vB hlaid hrow hfull (fun t ht=>by simpa using List.all_eq_true.1 hts t ht) hA0 hps sp (fun r hr=>hsp r (by simpa using hr))
   · rw [hvars,List.append_nil,e3]
     rfl
   · rw [hheap i hi]
     rcases hc:W.heap[i]? with _|o
     · trivial
     · cases o<;>simp
   · simp only [World.frozen?];rw [hheap b hb]
   · exact ok_one hres rfl (okWide_bool_mk hb _) j t r h1 h2
 · rw [show (⟨args.toList⟩:Array Value)=args from rfl,hrun] at h
   cases h
open Go Go.ChangeShapes Go.WideShapes Go.ChangeAt
set_option maxHeartbeats 8000000
set_option maxRecDepth 100000
def RdZ (P:Program) (t:TypeId) {X:Type} (ec:X→List AV) (ok:X→Prop):Prop :=
 ∀ (H:Type) (enc:TypeId×Value→H) (w:World) (fuel:Nat) (cs:List Value) (x:DataW H×List MemPlace),
   DataW.trod enc P w 0 (fun _=>true) true fuel t cs=some x→(∀ n∈x.1.weights P t,n≤reachBytes)→∃ y,ok y∧VRL (F3 w) (ec y) cs
theorem Rd.z {P:Program} {t:TypeId} {X:Type} {ec:X→List AV} {ok:X→Prop} (h:Rd P t ec ok):RdZ P t ec ok:=fun H enc w fuel cs x hx _=>h H enc w fuel cs x hx
theorem KL {P:Program} {t:TypeId} (ht:P.underlying t=some .string):RdZ P t (fun s:List UInt8=>[.str s]) (fun s=>s.length≤reachBytes):=fun H enc w fuel cs x hx hz=>by
 obtain ⟨s,rfl,rfl,hw⟩:=DataW.trod_string ht hx
 exact ⟨s.data.toList,hz _ (by simp [DataW.weights]),by simp [VRL,VR]⟩
theorem ka {H:Type} {P:Program} {us:List TypeId} {gs:List (DataW H)} {n:Nat}:∀ {ts:List TypeId} {ds:List (DataW H)},n∈DataW.weightsEach P ts ds→n∈DataW.weightsEach P (ts++us) (ds++gs)
 | [],_,h=>by simp [DataW.weightsEach] at h
 | _::_,[],h=>by simp [DataW.weightsEach] at h
 | t::ts,d::ds,h=>by
   simp only [List.cons_append,DataW.weightsEach,List.mem_append] at h ⊢
   rcases h with h|h
   · exact .inl h
   · exact .inr (ka h)
def Le (P:Program) (ts:List TypeId) {X:Type} (ec:X→List AV) (ok:X→Prop):Prop :=
 ∀ (H:Type) (enc:TypeId×Value→H) (w:World) (base:Nat) (vs:List Value) (ds:List (DataW H)) (ps:List MemPlace),
   (∀ (j:Nat) t v,ts[j]?=some t→vs[j]?=some v→Value.okWide P w .any base t v) →
   DataW.TrodAll enc P w 0 (fun _=>true) true ts vs ds ps→(∀ n∈DataW.weightsEach P ts ds,n≤reachBytes)→∃ y,ok y∧VRL (F3 w) (ec y) vs
theorem Ji {P:Program}:Le P [] (fun _:Unit=>[]) (fun _=>True):=fun H enc w base vs ds ps _ h _=>by
 obtain ⟨rfl,_,_⟩:=trodAll_nil h
 exact ⟨(),trivial,by simp [VRL]⟩
theorem Jh {P:Program} {t:TypeId} {ts:List TypeId} {X Y:Type} {a:X→AV} {ok:X→Prop} {ec':Y→List AV} {ok':Y→Prop} (hg:fg P t=some false) (h:RdZ P t (fun y=>[a y]) ok) (r:Le P ts ec' ok') :
   Le P (t::ts) (fun y:X×Y=>a y.1::ec' y.2) (fun y=>ok y.1∧ok' y.2):=fun H enc w base vs ds ps hok hx hwt=>by
 obtain ⟨v,vs',d,ds',p,q,rfl,rfl,rfl,h1,h2⟩:=trodAll_cons hx
 obtain ⟨fuel,h1⟩:=h1
 obtain ⟨y,h3,h4⟩:=h H enc w fuel _ _ h1 (fun n hn=>hwt n (by rw [DataW.weightsEach];exact List.mem_append_left _ hn))
 obtain ⟨z,h5,h6⟩:=r H enc w base vs' ds' q (fun j t v a b=>hok (j+1) t v a b) h2 (fun n hn=>hwt n (by rw [DataW.weightsEach];exact List.mem_append_right _ hn))
 refine ⟨(y,z),⟨h3,h5⟩,?_⟩
 rw [Gp hg (hok 0 t v rfl rfl)] at h4
 simp only [VRL] at h4 ⊢
 obtain ⟨x,xs,e,h7,_⟩:=h4
 cases e
 exact ⟨v,vs',rfl,h7,h6⟩
open Go Go.ChangeShapes Go.WideShapes Go.ChangeAt
set_option maxHeartbeats 8000000
set_option maxRecDepth 100000
theorem RdZ.map {P:Program} {t:TypeId} {X Y:Type} {ec:X→List AV} {ok:X→Prop} {ec':Y→List AV} {ok':Y→Prop} (h:RdZ P t ec ok) (m:∀ y,ok y→∃ z,ok' z∧ec' z=ec y):RdZ P t ec' ok':=fun H enc w fuel cs x hx hb=>by
 obtain ⟨y,h1,h2⟩:=h H enc w fuel cs x hx hb
 obtain ⟨z,h3,h4⟩:=m y h1
 exact ⟨z,h3,by rw [h4];exact h2⟩
theorem ET {H:Type} {enc:TypeId×Value→H} {a:Assume} {C:Checked} {os:Os} {f:FuncId} {fn:Func} {s:ChangeSpec} {conds:List PathCond} {apart fresh handsOn again:Bool}
   (own:ownKnob C.prog.godebug=none) (started:os.Started) (noInit:C.prog.inits.idxOf? f=none) (hfn:C.prog.funcs[f]?=some fn)
   (witness:∃ (w:World) (tape:Tape) (i:Input),w.os=os∧(w.forCall tape i).Shaped C.prog∧i.vars=[]∧Input.okWide C.prog (w.forCall tape i) .any w.heap.size f i ∧
     s.pre6 enc C.prog fn conds apart (w.forCall tape i).memory i.args∧a.holds C.prog (lone (Frame.enter C.prog f i.args .normal) [] (w.forCall tape i)))
   (contract:∀ (W:World) (base:Nat) (args:Array Value) (ds gs:List (DataW H)) (before:List MemPlace),
     (∀ (j:Nat) t v,fn.params[j]?=some t→args[j]?=some v→Value.okWide C.prog W .any base t v) →
     DataW.Whole enc C.prog fn.params.toList s.vars apart W args.toList ds gs before →
     (DataW.weightsEach C.prog (fn.params.toList++s.plain.varTypes C.prog) (ds++gs)).all (·≤reachBytes)=true →
     Calls C.prog f args W fun e W'=>∃ v,e=.returned v∧s.post enc C.prog fn apart fresh handsOn again W args v W') :
   ReturnsInHanded a C os f .any (s.pre6 enc C.prog fn conds apart) (s.post enc C.prog fn apart fresh handsOn again):=by
 refine returnsInHanded_of_calls own started noInit witness ?_
 intro w tape i _ _ _ hok hpre hholds
 obtain ⟨_,_,_,fn',hfn',_,_,_,_,hval⟩:=hok
 have e:fn'=fn:=Option.some.inj (hfn'.symm.trans hfn)
 subst e
 obtain ⟨⟨ds,gs,before,hw,hc⟩,hz⟩:=hpre
 have hw':=DataW.Whole.of_heap (w':=w.forCall tape i) (by rfl) hw
 refine (contract (w.forCall tape i) w.heap.size i.args ds gs before hval hw' (hz.weights hw)).mono fun e W' ⟨v,he,hp⟩=>?_
 subst he
 exact ChangeSpec.post_blind hp
end Go.Proofs.YtgpnbkdcdmfgcaaGreat.Av
