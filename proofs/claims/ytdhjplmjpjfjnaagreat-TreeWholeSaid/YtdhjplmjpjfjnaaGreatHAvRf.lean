/- Joined texts of the walk, made small by a program. -/
import Derived.Test.YtdhjplmjpjfjnaaGreatHP4
import Derived.Test.YtdhjplmjpjfjnaaGreatHP5
set_option linter.unusedSimpArgs false
set_option linter.unusedVariables false
namespace Go.Proofs.YtdhjplmjpjfjnaaGreat.Av
open Go
section
variable {P:Program} {w0:World} {S0:SB} {N:Nat} {own:Nat→Nat→Nat} {Q:Exit→Tm→List Blk→Prop} {T:Tm} {L:List Blk}
theorem HJ {c:Code} {g:Opd} {ps:List Nat} {x y:aS} (hc:aF P N own c=some (.rangeF g ps x y)) :
   ∃ g0 ps0 ca cb,c=.rangeFunc g0 ps0 ca cb∧aY g0=some g∧ps0.toList=ps∧aF P N own ca=some x∧aF P N own cb=some y∧x.hasRF=false∧y.hasRF=false∧∀ p∈ps,p<N:=by
 cases c
 case rangeFunc g0 ps0 ca cb =>
   simp only [aF] at hc
   split at hc<;>try cases hc
   rename_i g1 x1 y1 h1 h2 h3
   split at hc<;>cases hc
   rename_i hb
   simp only [Bool.and_eq_true,Bool.not_eq_true',Array.all_eq_true_iff_forall_mem,decide_eq_true_eq] at hb
   exact ⟨g0,ps0,ca,cb,rfl,h1,rfl,h2,h3,hb.1.1,hb.1.2,fun p hp=>hb.2 p (by simpa using hp)⟩
 case region id ops draw =>
   cases draw<;>simp only [aF] at hc
   all_goals
     (repeat' split at hc)
     all_goals (first|(cases hc;done)|(simp only [Option.map_eq_some_iff] at hc;obtain ⟨_,_,hc⟩:=hc;cases hc;done)|(simp only [Option.bind_eq_some_iff] at hc;obtain ⟨_,_,hc⟩:=hc;split at hc<;>cases hc;done))
 all_goals
   simp only [aF] at hc
   (repeat' split at hc)
   all_goals (first|(cases hc;done)|(simp only [Option.map_eq_some_iff] at hc;obtain ⟨_,_,hc⟩:=hc;cases hc;done))
def xc:List Nat→List AV→Tm→Tm
 | p::ps,a::as',T=>xc ps as' ((p,a)::T)
 | _,_,T=>T
theorem Ee {E:Env}:∀ (ps:List Nat) (as':List AV) (vs:List Value) (T:Tm) (tm:Array Value),ps.length=as'.length→VRL E as' vs→(∀ p∈ps,p<tm.size)→(∀ t v,aq T t=some v→VR E v (tm.getD t undef)) →
   ∀ t v,aq (xc ps as' T) t=some v→VR E v (((ps.zip vs).foldl (fun tm (p:Nat×Value)=>tm.setIfInBounds p.1 p.2) tm).getD t undef)
 | [],[],vs,T,tm,_,_,_,h,t,v,ht=>by simpa [xc] using h t v (by simpa [xc] using ht)
 | [],_::_,_,_,_,hl,_,_,_,_,_,_=>by simp at hl
 | _::_,[],_,_,_,hl,_,_,_,_,_,_=>by simp at hl
 | p::ps,a::as',vs,T,tm,hl,hv,hp,h,t,v,ht=>by
   simp only [VRL] at hv
   obtain ⟨x,xs,rfl,h1,h2⟩:=hv
   simp only [List.zip_cons_cons,List.foldl_cons]
   have hps:=hp p (by simp)
   refine Ee ps as' xs ((p,a)::T) (tm.setIfInBounds p x) (by simpa using hl) h2 (fun q hq=>by simpa using hp q (by simp [hq])) (fun t' v' ht'=>?_) t v (by simpa [xc] using ht)
   simp only [aq] at ht'
   split at ht'
   · rename_i e;subst e;cases ht'
     simpa [Array.getD_eq_getD_getElem?,hps] using h1
   · rename_i e
     have:=h t' v' ht'
     simpa [Array.getD_eq_getD_getElem?,Array.getElem?_setIfInBounds,e] using this
theorem H1 (l:List (Nat×Value)):∀ tm:Array Value,(l.foldl (fun tm (p:Nat×Value)=>tm.setIfInBounds p.1 p.2) tm).size=tm.size:=by
 induction l with
 | nil=>intro tm;rfl
 | cons a l ih=>intro tm;rw [List.foldl_cons,ih];simp
def O3 (i:Nat) (b0 b1:Blk) (K:AV→List Blk→Prop) (e:Exit) (T:Tm) (L:List Blk):Prop:=e=.normal∧L[i]?=some b0∧K (.bool true) (L.set i b1)
theorem F5 {i:Nat} {fn:FuncId} {ps:List Nat} {ca cb:Code} {args:List AV} {K:AV→List Blk→Prop} {x y:aS} (hL:L[i]?=some (.lrec T N fn ps ca cb false)) (hx:aF P N own ca=some x.raw) (hy:aF P N own cb=some y.raw) (hfx:x.hasRF=false) (hfy:y.hasRF=false)
   (hlen:ps.length=args.length) (hps:∀ p∈ps,p<N)
   (h:AW P N own x (Hd (fun T1 L1=>L1[i]?=some (.lrec T N fn ps ca cb false)∧AW P N own y (O3 i (.lrec T N fn ps ca cb true) (.lrec T N fn ps ca cb false) K) T1 (L1.set i (.lrec T N fn ps ca cb true))) (fun _ _ _=>False)) (xc ps args T) L):EJ P i args L K:=by
 intro w0 S0 E w vs hR hv c hc
 have hB:=hR.blk i _ hL
 simp only [aU,Bool.false_eq_true,if_false] at hB
 obtain ⟨c',D,tm,h1,h2,h3,h4,h5⟩:=hB
 rw [hc] at h1;cases h1
 have hvl:=hv.length
 have hyd:=run_yield (P:=P) (args:=⟨vs⟩) h2 (by simp [hvl,hlen])
 refine ⟨fn,_,ca,cb,hyd,roundIn_of_wpIn (F:=dS none) (n:=0) trivial ?_⟩
 have hst:St w ⟨zx E L,w.heap.size⟩ N E (xc ps args T) L { tmps:=((⟨ps⟩:Array Tmp).zip ⟨vs⟩).foldl (fun tmps (t,a)=>tmps.setIfInBounds t a) tm,defers:=[] } w:=by
   have e:((⟨ps⟩:Array Tmp).zip ⟨vs⟩).foldl (fun tmps (t,a)=>tmps.setIfInBounds t a) tm=(ps.zip vs).foldl (fun tm (p:Nat×Value)=>tm.setIfInBounds p.1 p.2) tm:=by
     rw [← Array.foldl_toList]
     simp [Array.toList_zip]
   refine ⟨hR.enter _,fun t v ht=>?_,?_,Hf.nil (Nat.le_refl _)⟩
   · simp only [e]
     exact Ee ps args vs T tm hlen hv (fun p hp=>by rw [h4];exact hps p hp) h5 t v ht
   · simp only [e]
     rw [H1];exact h4
 refine wpIn_mono (h ca hx (some c.blk) (fun e=>by rw [hfx] at e;cases e) w _ E _ w hst) fun e a1 wA ⟨w1,S1,E1,T1,L1,b1,le1,q1,st1⟩=>?_
 cases e
 case normal =>
   obtain ⟨hL1,hAW⟩:=q1
   have hc1:=le1.loc _ _ hc
   have hB1:=st1.1.blk i _ hL1
   simp only [aU,Bool.false_eq_true,if_false] at hB1
   obtain ⟨c1,D1,tm1,k1,k2,k3,k4,k5⟩:=hB1
   rw [hc1] at k1;cases k1
   have hlt1:c.blk<wA.heap.size:=(Array.getElem?_eq_some_iff.1 k2).1
   refine ⟨_,run_beginRound k2 rfl,?_⟩
   have st2:St w1 S1 N E1 T1 (L1.set i (.lrec T N fn ps ca cb true)) a1 (wA.putObj c.blk (.loop { state:=.busy,pending:=none,fn:=fn,tmps:=tm1,params:=⟨ps⟩,assign:=ca,body:=cb,defers:=D1 })):=by
     refine ⟨st1.1.turn hL1 rfl hc1 (by simp) (fun b hb=>World.putObj_heap_other hb) rfl rfl rfl ⟨c,D1,tm1,hc1,by rw [World.putObj_heap_same hlt1];rfl,k3,k4,k5⟩ (fun _ _ e=>by cases e),st1.2⟩
   refine wpIn_mono (hAW cb hy (some c.blk) (fun e=>by rw [hfy] at e;cases e) w1 S1 E1 a1 _ st2) fun e a2 w4 ⟨w3,S3,E3,T2,L2,b3,le3,q3,st3⟩=>?_
   obtain ⟨rfl,hL2,hK⟩:=q3
   have hc3:=le3.loc _ _ hc1
   have hB3:=st3.1.blk i _ hL2
   simp only [aU,if_true] at hB3
   obtain ⟨c3,D3,tm3,m1,m2,m3,m4,m5⟩:=hB3
   rw [hc3] at m1;cases m1
   have hlt3:c.blk<w4.heap.size:=(Array.getElem?_eq_some_iff.1 m2).1
   refine ⟨_,_,run_endRound none m2,E3,_,.bool true,_,rfl,le1.trans le3,hK,rfl,hR.back ((b1.trans b3).rel ?_)⟩
   exact st3.1.turn hL2 rfl hc3 (by simp) (fun b hb=>World.putObj_heap_other hb) rfl rfl rfl ⟨c,D3,tm3,hc3,by rw [World.putObj_heap_same hlt3];simp,m3,m4,m5⟩ (fun _ _ e=>by cases e)
 all_goals exact q1
theorem z7 {g:Opd} {ps:List Nat} {x y:aS} {f:FuncId} {caps:List AV} (he:∀ args w,(callFunc f args).run P w=.ok (.enter f args) w) (hg:evX T g=some (.func f caps))
   (h:∀ fn ca cb,aF P N own ca=some x.raw→aF P N own cb=some y.raw→x.hasRF=false→y.hasRF=false→(∀ p∈ps,p<N) →
     ab P f (.yld L.length::caps) (L++[.lrec T N fn ps ca cb false]) fun _ L'=>L'[L.length]?=some (.lrec T N fn ps ca cb false)∧Q .normal T (L'.set L.length .dead)) :
   AW P N own (.rangeF g ps x y) Q T L:=fun c hc r hr w0 S0 E a w hst=>by
 obtain ⟨g0,ps0,ca,cb,rfl,hg0,hps0,hca,hcb,hfx,hfy,hps⟩:=HJ hc
 rw [aS.hasRF_raw] at hfx hfy
 have hrn:r=none:=hr rfl
 subst hrn
 obtain ⟨hR,hT,hN,hMk⟩:=hst
 have hgv:=af hg0 hg hT
 simp only [VR] at hgv
 obtain ⟨lb,hgv,hlb⟩:=hgv
 refine wpIn_rangeFunc fun fn _=>?_
 have ha:∀ (v:World) (o:Obj),(v.alloc o)={ v with heap:=v.heap.push o }:=fun _ _=>rfl
 have hR0:Rel w0 S0 E L { w with heap:=w.heap.push (.deferred (some [])) }:=hR.grown ⟨fun b hb=>by
   show (w.heap.push _)[b]?=_
   rw [Array.getElem?_push_lt hb,← Array.getElem?_eq_getElem hb],by simp,rfl,rfl,rfl⟩
 obtain ⟨rec,hrec⟩:∃ rec:Loop,rec={ state:=.ready,pending:=none,fn,tmps:=a.tmps,params:=ps0,assign:=ca,body:=cb,defers:=w.heap.size }:=⟨_,rfl⟩
 obtain ⟨E1,hE1⟩:∃ E1:Env,E1={ E with loc:=fun i=>if i=L.length then some ⟨w.heap.size+1,0,0⟩ else E.loc i }:=⟨_,rfl⟩
 have hl1:E1.loc L.length=some ⟨w.heap.size+1,0,0⟩:=by rw [hE1];simp
 have leE:E.le E1:=⟨fun _ _ _ x=>by rw [hE1];exact x,fun i c x=>by
   rw [hE1]
   show (if i=L.length then _ else E.loc i)=_
   rw [if_neg (fun e=>by rw [hR.fresh i (by omega)] at x;cases x)];exact x,fun i t x=>⟨t,by rw [hE1];exact x,.inl rfl⟩⟩
 obtain ⟨le1,hR1⟩:=hR0.push (.loop rec) (.lrec T N fn ps ca cb false) ⟨w.heap.size+1,0,0⟩ (by simp) rfl (by
   rw [← hE1]
   refine ⟨⟨w.heap.size+1,0,0⟩,w.heap.size,a.tmps,hl1,?_,rfl,hN,fun t v hv=>VR.mono leE _ _ (hT t v hv)⟩
   show ((w.heap.push _).push _)[w.heap.size+1]?=_
   rw [Array.getElem?_push,if_pos (by simp),hrec,← hps0];rfl)
 rw [← hE1] at le1 hR1
 obtain ⟨W1,hW1⟩:∃ W1:World,W1={ ({ w with heap:=w.heap.push (.deferred (some [])) }:World) with heap:=(w.heap.push (.deferred (some []))).push (.loop rec) }:=⟨_,rfl⟩
 rw [← hW1] at hR1
 have hWs:W1.heap.size=w.heap.size+2:=by rw [hW1];simp
 have hWl:W1.heap[w.heap.size+1]?=some (.loop rec):=by
   rw [hW1]
   show ((w.heap.push _).push _)[w.heap.size+1]?=_
   rw [Array.getElem?_push,if_pos (by simp)]
 have hWd:W1.heap[w.heap.size]?=some (.deferred (some [])):=by
   rw [hW1]
   show ((w.heap.push _).push _)[w.heap.size]?=_
   rw [Array.getElem?_push_lt (by simp)];simp
 have hcall:=h fn ca cb hca hcb hfx hfy hps W1 ⟨zx E1 (L++[.lrec T N fn ps ca cb false]),S0.B⟩ E1 W1 (.func (.yield (w.heap.size+1)) #[] #[]::lb) (hR1.enter _) ⟨_,lb,rfl,⟨_,hl1,rfl⟩,VRL.mono le1 _ _ hlb⟩
 have hnoD:¬ zx E1 (L++[.lrec T N fn ps ca cb false]) w.heap.size:=by
   rintro (⟨i,k,c,h1,h2,h3,h4⟩|⟨i,n,sz,t,k,h1,h2,h3,h4⟩)
   · by_cases hi:i=L.length
     · subst hi;rw [hl1] at h3;cases h3;simp at h4
     · have hi':i<L.length:=by have:=(List.getElem?_eq_some_iff.1 h1).1;simp at this;omega
       rw [List.getElem?_append_left hi'] at h1
       have h3':E.loc i=some c:=by rw [hE1] at h3;simpa [hi] using h3
       obtain ⟨c',o,g1,g2⟩:=(hR.blk i k h1).loc h2
       rw [h3'] at g1;cases g1
       rw [h4] at g2
       have:=(Array.getElem?_eq_some_iff.1 g2).1
       omega
   · have hi':i<L.length:=by
       rcases Nat.lt_or_ge i L.length with h5|h5
       · exact h5
       · rw [List.getElem?_append_right h5] at h1
         rcases Nat.eq_zero_or_pos (i - L.length) with h6|h6
         · rw [h6] at h1;cases h1
         · rw [List.getElem?_eq_none (by simp;omega)] at h1;cases h1
     rw [List.getElem?_append_left hi'] at h1
     have hb:=hR.blk i _ h1
     simp only [aU] at hb
     obtain ⟨t',g1,_,_,g2⟩:=hb
     have h2':E.tok i=some t:=by rw [hE1] at h2;exact h2
     rw [h2'] at g1;cases g1
     obtain ⟨cs,ty,fr,g3,_⟩:=g2 k h3
     rw [h4] at g3
     have:=(Array.getElem?_eq_some_iff.1 g3).1
     omega
 refine ⟨w.heap.size+1,[mkD w.heap.size],W1,{ target:=.fn (.func f) ⟨lb⟩,args:=#[.func (.yield (w.heap.size+1)) #[] #[]] },W1,f,#[.func (.yield (w.heap.size+1)) #[] #[]]++⟨lb⟩,W1,?_,?_,fun _ _=>trivial,?_,fun e=>(by cases e),?_⟩
 · have:=run_enterLoop_outer (P:=P) (w:=w) fn a.tmps ps0 ca cb
   rw [ha,ha] at this
   rw [hW1,hrec];exact this
 · simp only [resolve,hgv]
   simp [go_sem]
 · simp [invoke,go_sem,he]
 · rcases hcall with ⟨_,hcalls⟩|⟨_,_,_,_,_,hv2,_⟩
   · refine D5 none _ ?_
     have e:(#[Value.func (.yield (w.heap.size+1)) #[] #[]]++(⟨lb⟩:Array Value))=⟨.func (.yield (w.heap.size+1)) #[] #[]::lb⟩:=by apply Array.ext';simp
     rw [e]
     refine hcalls.mono fun en w3 ⟨E3,v,av,L3,e1,le3,⟨hL3,hQ⟩,_,hR3⟩=>?_
     subst e1
     have hl3:=le3.loc _ _ hl1
     have hB3:=hR3.blk _ _ hL3
     simp only [aU,Bool.false_eq_true,if_false] at hB3
     obtain ⟨c3,D3,tm3,m1,m2,m3,m4,m5⟩:=hB3
     rw [hl3] at m1;cases m1
     have hlt3:w.heap.size+1<w3.heap.size:=(Array.getElem?_eq_some_iff.1 m2).1
     have hR4:=hR3.turn hL3 rfl hl3 (k':=.dead) (w':=w3.putObj (w.heap.size+1) (.loop { state:=.exhausted,pending:=none,fn:=fn,tmps:=tm3,params:=⟨ps⟩,assign:=ca,body:=cb,defers:=D3 })) (by simp) (fun b hb=>World.putObj_heap_other hb) rfl rfl rfl trivial (fun _ _ e=>by cases e)
     have hbs:Bs w0 S0 W1 ⟨zx E1 (L++[.lrec T N fn ps ca cb false]),S0.B⟩:=hR1.bs
     refine ⟨none,_,run_endLoop m2 (by simp),W1,⟨zx E1 (L++[.lrec T N fn ps ca cb false]),S0.B⟩,E3,T,_,hbs,le1.trans le3,hQ,hR4,(hT.mono le1).mono le3,hN,?_⟩
     have hM:=hMk.bs hbs
     refine ⟨hM.1,List.nodup_cons.2 ⟨fun hm=>?_,hM.2.1⟩,fun d hd=>?_⟩
     · obtain ⟨D,g1,_,g2,_⟩:=hMk.2.2 _ hm
       have:w.heap.size=D:=by injection g1 with g1 _;injection g1
       have:=hR.size
       omega
     · rcases List.mem_cons.1 hd with rfl|hd
       · exact ⟨_,rfl,by have:=hMk.1;have:=hR.size;show S0.B≤_;omega,by omega,hnoD,hWd⟩
       · exact hM.2.2 d hd
   · rw [he] at hv2;cases hv2
end
end Go.Proofs.YtdhjplmjpjfjnaaGreat.Av
