/- Joined texts of the walk, made small by a program. -/
import Derived.Test.YtobihfefmlgaoaaMk4
import Derived.Test.YtobihfefmlgaoaaMk5
import Derived.Test.YtobihfefmlgaoaaMk9
import Derived.Shelf.Strings.Builder1
import Derived.Shelf.Strings.Builder2
import Derived.Shelf.Strings.OnBuilder
import Derived.Shelf.Small.Bits
import Derived.Shelf.Small.Strs
import Derived.Shelf.Strings.BuilderF
import Derived.Shelf.Strings.BuilderK
import Derived.Shelf.Strings.Builder2Cap
import Derived.Shelf.Strconv.Itoa0
import Derived.Shelf.Strings.Search1
import Derived.Shelf.Sort.Plain
import Derived.Shelf.Strings.BuilderCap
import Derived.Shelf.Slices.Equal
import Derived.Ground.Names2Prog
import Derived.Shelf.Slices.Clone
import Derived.Shelf.Slices.In.SortNone
import Derived.Shelf.Slices.Empties2
import Derived.Ground.SlgnProg
import Derived.Shelf.SlicesE.Clone
import Derived.Ground.SlsfProg
import Derived.Shelf.SlSortCmp.Insertion
import Derived.Shelf.SlSortCmp.SiftDown1
import Derived.Shelf.SlSortCmp.HeapSort1
import Derived.Shelf.SlSortCmp.Insertion1
import Derived.Shelf.SlSortCmp.Median1
import Derived.Shelf.SlSortCmp.Pivot1
import Derived.Shelf.SlSortCmp.ReverseRange1
import Derived.Shelf.SlSortCmp.PartialInsertion1
import Derived.Shelf.SlSortCmp.PartitionEqual1
import Derived.Shelf.SlSortCmp.Partition1
import Derived.Shelf.SlSortCmp.Pdq1
import Derived.Shelf.SlSortCmp.Whole1
import Derived.Shelf.SlSortCmp.NoneTotal
import Derived.Test.YtobihfefmlgaoaaProg
import Derived.Test.YtobihfefmlgaoaaMk7
import Derived.WalkKit
import Derived.WalkLawsBesides
import Derived.Deep.QuietTactic
import Derived.Deep.LoopGhost
import Derived.BigQuiet
import Derived.Lib.Walk
set_option linter.unusedSimpArgs false
set_option linter.unusedVariables false
namespace Go.Proofs.Ytobihfefmlgaoaa.Av
open Go
section
variable {P:Program} {w0:World} {S0:SB} {N:Nat} {own:Nat->Nat->Nat} {Q:Exit->Tm->List Blk->Prop} {T:Tm} {L:List Blk}
theorem w8 {c:Code} {g:Opd} {ps:List Nat} {x y:aP} (hc:aB P N own c=some (.rangeF g ps x y)) :
  ∃ g0 ps0 ca cb,c=.rangeFunc g0 ps0 ca cb/\aR g0=some g/\ps0.toList=ps/\aB P N own ca=some x/\aB P N own cb=some y/\x.hasRF=false/\y.hasRF=false/\∀ p∈ps,p<N:=by
 cases c
 case rangeFunc g0 ps0 ca cb =>
  simp only [aB] at hc;split at hc<;>try cases hc
  rename_i g1 x1 y1 h1 h2 h3
  split at hc<;>cases hc
  rename_i hb
  simp only [FG,F6,Array.all_eq_true_iff_forall_mem,decide_eq_true_eq] at hb;exact ⟨g0,ps0,ca,cb,rfl,h1,rfl,h2,h3,hb.1.1,hb.1.2,fun p hp=>hb.2 p (by simpa using hp)⟩
 case region id ops draw =>
  cases draw<;>simp only [aB] at hc
  all_goals
   (repeat' split at hc)
   all_goals (first|(cases hc;done)|(simp only [FY] at hc;obtain ⟨_,_,hc⟩:=hc;cases hc;done)|(simp only [Hx] at hc;obtain ⟨_,_,hc⟩:=hc;split at hc<;>cases hc;done))
 all_goals
  simp only [aB] at hc
  (repeat' split at hc)
  all_goals (first|(cases hc;done)|(simp only [FY] at hc;obtain ⟨_,_,hc⟩:=hc;cases hc;done))
def oE:List Nat->List AV->Tm->Tm
 | p::ps,a::as',T=>oE ps as' ((p,a)::T)
 | _,_,T=>T
theorem tC {E:Env}:∀ (ps:List Nat) (as':List AV) (vs:List Value) (T:Tm) (tm:Array Value),ps.length=as'.length->VRL E as' vs->(∀ p∈ps,p<tm.size)->(∀ t v,aj T t=some v->VR E v (tm.getD t undef)) ->
  ∀ t v,aj (oE ps as' T) t=some v->VR E v (((ps.zip vs).foldl (fun tm (p:Nat×Value)=>tm.setIfInBounds p.1 p.2) tm).getD t undef)
 | [],[],vs,T,tm,_,_,_,h,t,v,ht=>by simpa [oE] using h t v (by simpa [oE] using ht)
 | [],_::_,_,_,_,hl,_,_,_,_,_,_=>by simp at hl
 | _::_,[],_,_,_,hl,_,_,_,_,_,_=>by simp at hl
 | p::ps,a::as',vs,T,tm,hl,hv,hp,h,t,v,ht=>by
   simp only [VRL] at hv;obtain ⟨x,xs,rfl,h1,h2⟩:=hv;simp only [HN,G4];have hps:=hp p (by simp);refine tC ps as' xs ((p,a)::T) (tm.setIfInBounds p x) (by simpa using hl) h2 (fun q hq=>by simpa using hp q (by simp [hq])) (fun t' v' ht'=>?_) t v (by simpa [oE] using ht);simp only [aj] at ht';split at ht'
   ·rename_i e;subst e;cases ht'
    simpa [Ga,hps] using h1
   ·rename_i e
    have:=h t' v' ht';simpa [Ga,Hf,e] using this
theorem xt (l:List (Nat×Value)):∀ tm:Array Value,(l.foldl (fun tm (p:Nat×Value)=>tm.setIfInBounds p.1 p.2) tm).size=tm.size:=by
 induction l with
 | nil=>intro tm;rfl
 | cons a l ih=>intro tm;rw [G4,ih];simp
def Fp (i:Nat) (b0 b1:Blk) (K:AV->List Blk->Prop) (e:Exit) (T:Tm) (L:List Blk):Prop:=e=.normal/\L[i]?=some b0/\K (.bool true) (L.set i b1)
theorem vq {i:Nat} {fn:FuncId} {ps:List Nat} {ca cb:Code} {args:List AV} {K:AV->List Blk->Prop} {x y:aP} (hL:L[i]?=some (.lrec T N fn ps ca cb false)) (hx:aB P N own ca=some x.raw) (hy:aB P N own cb=some y.raw) (hfx:x.hasRF=false) (hfy:y.hasRF=false)
  (hlen:ps.length=args.length) (hps:∀ p∈ps,p<N)
  (h:AW P N own x (yl (fun T1 L1=>L1[i]?=some (.lrec T N fn ps ca cb false)/\AW P N own y (Fp i (.lrec T N fn ps ca cb true) (.lrec T N fn ps ca cb false) K) T1 (L1.set i (.lrec T N fn ps ca cb true))) (fun _ _ _=>False)) (oE ps args T) L):tZ P i args L K:=by
 intro w0 S0 E w vs hR hv c hc;have hB:=hR.blk i _ hL;simp only [aL,FI,if_false] at hB;obtain ⟨c',D,tm,h1,h2,h3,h4,h5⟩:=hB;rw [hc] at h1;cases h1;have hvl:=hv.length;have hyd:=run_yield (P:=P) (args:=⟨vs⟩) h2 (by simp [hvl,hlen]);refine ⟨fn,_,ca,cb,hyd,roundIn_of_wpIn (F:=dt none) (n:=0) trivial ?_⟩;have hst:St w ⟨qD E L,w.heap.size⟩ N E (oE ps args T) L { tmps:=((⟨ps⟩:Array Tmp).zip ⟨vs⟩).foldl (fun tmps (t,a)=>tmps.setIfInBounds t a) tm,defers:=[] } w:=by
  have e:((⟨ps⟩:Array Tmp).zip ⟨vs⟩).foldl (fun tmps (t,a)=>tmps.setIfInBounds t a) tm=(ps.zip vs).foldl (fun tm (p:Nat×Value)=>tm.setIfInBounds p.1 p.2) tm:=by
   rw [<- Array.foldl_toList];simp [Array.toList_zip]
  refine ⟨hR.enter _,fun t v ht=>?_,?_,wy.nil (Fz _)⟩
  ·simp only [e];exact tC ps args vs T tm hlen hv (fun p hp=>by rw [h4];exact hps p hp) h5 t v ht
  ·simp only [e];rw [xt];exact h4
 refine wpIn_mono (h ca hx (some c.blk) (fun e=>by rw [hfx] at e;cases e) w _ E _ w hst) fun e a1 wA ⟨w1,S1,E1,T1,L1,b1,le1,q1,st1⟩=>?_
 cases e
 case normal =>
  obtain ⟨hL1,hAW⟩:=q1;have hc1:=le1.loc _ _ hc;have hB1:=st1.1.blk i _ hL1;simp only [aL,FI,if_false] at hB1;obtain ⟨c1,D1,tm1,k1,k2,k3,k4,k5⟩:=hB1;rw [hc1] at k1;cases k1;have hlt1:c.blk<wA.heap.size:=(F1.1 k2).1;refine ⟨_,run_beginRound k2 rfl,?_⟩;have st2:St w1 S1 N E1 T1 (L1.set i (.lrec T N fn ps ca cb true)) a1 (wA.putObj c.blk (.loop { state:=.busy,pending:=none,fn:=fn,tmps:=tm1,params:=⟨ps⟩,assign:=ca,body:=cb,defers:=D1 })):=by
   refine ⟨st1.1.turn hL1 rfl hc1 (by simp) (fun b hb=>HB hb) rfl rfl rfl ⟨c,D1,tm1,hc1,by rw [World.putObj_heap_same hlt1];rfl,k3,k4,k5⟩ (fun _ _ e=>by cases e),st1.2⟩
  refine wpIn_mono (hAW cb hy (some c.blk) (fun e=>by rw [hfy] at e;cases e) w1 S1 E1 a1 _ st2) fun e a2 w4 ⟨w3,S3,E3,T2,L2,b3,le3,q3,st3⟩=>?_
  obtain ⟨rfl,hL2,hK⟩:=q3;have hc3:=le3.loc _ _ hc1;have hB3:=st3.1.blk i _ hL2;simp only [aL,if_true] at hB3;obtain ⟨c3,D3,tm3,m1,m2,m3,m4,m5⟩:=hB3;rw [hc3] at m1;cases m1;have hlt3:c.blk<w4.heap.size:=(F1.1 m2).1;refine ⟨_,_,run_endRound none m2,E3,_,.bool true,_,rfl,le1.trans le3,hK,rfl,hR.back ((b1.trans b3).rel ?_)⟩;exact st3.1.turn hL2 rfl hc3 (by simp) (fun b hb=>HB hb) rfl rfl rfl ⟨c,D3,tm3,hc3,by rw [World.putObj_heap_same hlt3];simp,m3,m4,m5⟩ (fun _ _ e=>by cases e)
 all_goals exact q1
theorem qY {g:Opd} {ps:List Nat} {x y:aP} {f:FuncId} {caps:List AV} (he:∀ args w,(callFunc f args).run P w=.ok (.enter f args) w) (hg:evX T g=some (.func f caps))
  (h:∀ fn ca cb,aB P N own ca=some x.raw->aB P N own cb=some y.raw->x.hasRF=false->y.hasRF=false->(∀ p∈ps,p<N) ->
   ae P f (.yld L.length::caps) (L++[.lrec T N fn ps ca cb false]) fun _ L'=>L'[L.length]?=some (.lrec T N fn ps ca cb false)/\Q .normal T (L'.set L.length .dead)) :
  AW P N own (.rangeF g ps x y) Q T L:=fun c hc r hr w0 S0 E a w hst=>by
 obtain ⟨g0,ps0,ca,cb,rfl,hg0,hps0,hca,hcb,hfx,hfy,hps⟩:=w8 hc;rw [aP.hasRF_raw] at hfx hfy;have hrn:r=none:=hr rfl;subst hrn;obtain ⟨hR,hT,hN,hMk⟩:=hst;have hgv:=aa hg0 hg hT;simp only [VR] at hgv;obtain ⟨lb,hgv,hlb⟩:=hgv;refine wpIn_rangeFunc fun fn _=>?_
 have ha:∀ (v:World) (o:Obj),(v.alloc o)={ v with heap:=v.heap.push o }:=fun _ _=>rfl
 have hR0:Rel w0 S0 E L { w with heap:=w.heap.push (.deferred (some [])) }:=hR.grown ⟨fun b hb=>by
  show (w.heap.push _)[b]?=_
  rw [Gj hb,<- F2 hb],by simp,rfl,rfl,rfl⟩
 obtain ⟨rec,hrec⟩:∃ rec:Loop,rec={ state:=.ready,pending:=none,fn,tmps:=a.tmps,params:=ps0,assign:=ca,body:=cb,defers:=w.heap.size }:=⟨_,rfl⟩;obtain ⟨E1,hE1⟩:∃ E1:Env,E1={ E with loc:=fun i=>if i=L.length then some ⟨w.heap.size+1,0,0⟩ else E.loc i }:=⟨_,rfl⟩;have hl1:E1.loc L.length=some ⟨w.heap.size+1,0,0⟩:=by rw [hE1];simp
 have leE:E.le E1:=⟨fun _ _ _ x=>by rw [hE1];exact x,fun i c x=>by
  rw [hE1];show (if i=L.length then _ else E.loc i)=_
  rw [if_neg (fun e=>by rw [hR.fresh i (by omega)] at x;cases x)];exact x,fun i t x=>⟨t,by rw [hE1];exact x,.inl rfl⟩⟩
 obtain ⟨le1,hR1⟩:=hR0.push (.loop rec) (.lrec T N fn ps ca cb false) ⟨w.heap.size+1,0,0⟩ (by simp) rfl (by
  rw [<- hE1];refine ⟨⟨w.heap.size+1,0,0⟩,w.heap.size,a.tmps,hl1,?_,rfl,hN,fun t v hv=>VR.mono leE _ _ (hT t v hv)⟩;show ((w.heap.push _).push _)[w.heap.size+1]?=_
  rw [HL,if_pos (by simp),hrec,<- hps0];rfl)
 rw [<- hE1] at le1 hR1;obtain ⟨W1,hW1⟩:∃ W1:World,W1={ ({ w with heap:=w.heap.push (.deferred (some [])) }:World) with heap:=(w.heap.push (.deferred (some []))).push (.loop rec) }:=⟨_,rfl⟩;rw [<- hW1] at hR1;have hWs:W1.heap.size=w.heap.size+2:=by rw [hW1];simp
 have hWl:W1.heap[w.heap.size+1]?=some (.loop rec):=by
  rw [hW1];show ((w.heap.push _).push _)[w.heap.size+1]?=_
  rw [HL,if_pos (by simp)]
 have hWd:W1.heap[w.heap.size]?=some (.deferred (some [])):=by
  rw [hW1];show ((w.heap.push _).push _)[w.heap.size]?=_
  rw [Gj (by simp)];simp
 have hcall:=h fn ca cb hca hcb hfx hfy hps W1 ⟨qD E1 (L++[.lrec T N fn ps ca cb false]),S0.B⟩ E1 W1 (.func (.yield (w.heap.size+1)) #[] #[]::lb) (hR1.enter _) ⟨_,lb,rfl,⟨_,hl1,rfl⟩,VRL.mono le1 _ _ hlb⟩;have hnoD:¬ qD E1 (L++[.lrec T N fn ps ca cb false]) w.heap.size:=by
  rintro (⟨i,k,c,h1,h2,h3,h4⟩|⟨i,n,sz,t,k,h1,h2,h3,h4⟩)
  ·by_cases hi:i=L.length
   ·subst hi;rw [hl1] at h3;cases h3;simp at h4
   ·have hi':i<L.length:=by have:=(Fx.1 h1).1;simp at this;omega
    rw [FC hi'] at h1;have h3':E.loc i=some c:=by rw [hE1] at h3;simpa [hi] using h3
    obtain ⟨c',o,g1,g2⟩:=(hR.blk i k h1).loc h2;rw [h3'] at g1;cases g1;rw [h4] at g2;have:=(F1.1 g2).1;omega
  ·have hi':i<L.length:=by
    rcases FV i L.length with h5|h5
    ·exact h5
    ·rw [FJ h5] at h1;rcases Gr (i - L.length) with h6|h6
     ·rw [h6] at h1;cases h1
     ·rw [GF (by simp;omega)] at h1;cases h1
   rw [FC hi'] at h1;have hb:=hR.blk i _ h1;simp only [aL] at hb;obtain ⟨t',g1,_,_,g2⟩:=hb;have h2':E.tok i=some t:=by rw [hE1] at h2;exact h2
   rw [h2'] at g1;cases g1;obtain ⟨cs,ty,fr,g3,_⟩:=g2 k h3;rw [h4] at g3;have:=(F1.1 g3).1;omega
 refine ⟨w.heap.size+1,[mkD w.heap.size],W1,{ target:=.fn (.func f) ⟨lb⟩,args:=#[.func (.yield (w.heap.size+1)) #[] #[]] },W1,f,#[.func (.yield (w.heap.size+1)) #[] #[]]++⟨lb⟩,W1,?_,?_,fun _ _=>trivial,?_,fun e=>(by cases e),?_⟩
 ·have:=run_enterLoop_outer (P:=P) (w:=w) fn a.tmps ps0 ca cb;rw [ha,ha] at this;rw [hW1,hrec];exact this
 ·simp only [resolve,hgv];simp [go_sem]
 ·simp [invoke,go_sem,he]
 ·rcases hcall with ⟨_,hcalls⟩|⟨_,_,_,_,_,hv2,_⟩
  ·refine tu none _ ?_;have e:(#[Value.func (.yield (w.heap.size+1)) #[] #[]]++(⟨lb⟩:Array Value))=⟨.func (.yield (w.heap.size+1)) #[] #[]::lb⟩:=by apply Array.ext';simp
   rw [e];refine hcalls.mono fun en w3 ⟨E3,v,av,L3,e1,le3,⟨hL3,hQ⟩,_,hR3⟩=>?_
   subst e1;have hl3:=le3.loc _ _ hl1;have hB3:=hR3.blk _ _ hL3;simp only [aL,FI,if_false] at hB3;obtain ⟨c3,D3,tm3,m1,m2,m3,m4,m5⟩:=hB3;rw [hl3] at m1;cases m1;have hlt3:w.heap.size+1<w3.heap.size:=(F1.1 m2).1;have hR4:=hR3.turn hL3 rfl hl3 (k':=.dead) (w':=w3.putObj (w.heap.size+1) (.loop { state:=.exhausted,pending:=none,fn:=fn,tmps:=tm3,params:=⟨ps⟩,assign:=ca,body:=cb,defers:=D3 })) (by simp) (fun b hb=>HB hb) rfl rfl rfl trivial (fun _ _ e=>by cases e);have hbs:Bs w0 S0 W1 ⟨qD E1 (L++[.lrec T N fn ps ca cb false]),S0.B⟩:=hR1.bs;refine ⟨none,_,run_endLoop m2 (by simp),W1,⟨qD E1 (L++[.lrec T N fn ps ca cb false]),S0.B⟩,E3,T,_,hbs,le1.trans le3,hQ,hR4,(hT.mono le1).mono le3,hN,?_⟩;have hM:=hMk.bs hbs;refine ⟨hM.1,Gv.2 ⟨fun hm=>?_,hM.2.1⟩,fun d hd=>?_⟩
   ·obtain ⟨D,g1,_,g2,_⟩:=hMk.2.2 _ hm;have:w.heap.size=D:=by injection g1 with g1 _;injection g1
    have:=hR.size;omega
   ·rcases FX.1 hd with rfl|hd
    ·exact ⟨_,rfl,by have:=hMk.1;have:=hR.size;show S0.B<=_;omega,by omega,hnoD,hWd⟩
    ·exact hM.2.2 d hd
  ·rw [he] at hv2;cases hv2
end
variable {L:List Blk} {K:Fw}
set_option maxHeartbeats 8000000
set_option maxRecDepth 100000
theorem Dl {rows:List AV} {cap:Option Nat} {i j:Nat} (hn:rows.length<=1100000) {Inv:Nat->List Blk->Prop} {L:List Blk} {K:Fw}
  (hj:∀ k L',Inv k L'->L'[j]?=some (.cells [.sl rows rows.length cap])/\L.length<=L'.length) (h0:Inv rows.length L)
  (hs:∀ k L' (Q:AV->List Blk->Prop),k<rows.length->Inv (k+1) L'->(∀ L'',Inv k L''->Q (.bool true) L'')->tZ Try.prog i [.int .i64 (k:Int),rows.getD k .undef] L' Q)
  (hK:∀ L',Inv 0 L'->Fin L (.tup []) L' K) :
  Fv 75 [.yld i,.ptr j 0] L K:=by
 have e0:=(hj _ _ h0).1;have g0:IntKind.i64.wrap ((rows.length:Int) - 1)=(rows.length:Int) - 1:=aw (by omega) (by omega);replace hj:=hid hj;replace hs:=hid hs;replace hK:=hid hK;replace h0:=hid h0;refine Fu dR ?_;refine aM (fun n T' L'=>∃ (k:Nat) (x:Int),n=k/\k<=rows.length/\Hid (Inv k L')/\x=(k:Int) - 1/\T'=[(3,.int .i64 x),(0,.yld i),(1,.ptr j 0)]) (CutS (b:=Fz _)) ⟨rows.length,_,rfl,Fz _,h0,rfl,rfl⟩ ?_;rintro k _ L' ⟨_,x,rfl,hk,hI,hx,rfl⟩;have e1:=(hj.out _ _ hI.out).1;have e2:=(hj.out _ _ hI.out).2;cases k with
 | zero =>
   have hx':x=-1:=by omega
   subst hx';clear hx;refine wk ?_;exact ⟨.inl rfl,True,[],rfl,trivial,hK.out _ hI.out⟩
 | succ k =>
   have hx':x=(k:Int):=by omega
   subst hx';clear hx;have g1:(0:Int)<=(k:Int):=by omega
   have g2:IntKind.i64.wrap ((k:Int) - 1)=(k:Int) - 1:=aw (by omega) (by omega);have g3:(k:Int)<(rows.length:Int):=by omega
   have g4:k<rows.length:=hk;refine wk ?_;rw [tL];refine hs.out k L' _ g4 hI.out fun L'' h''=>?_
   have e3:=(hj.out _ _ h'').1;have e4:=(hj.out _ _ h'').2;replace h'':=hid h'';clear hI e1 e2;refine sk ?_;refine wk ?_;exact aJ _ _ _ (by omega) (CutL (b:=by omega)) ⟨k,_,rfl,by omega,hid h''.out,rfl,rfl⟩
theorem Dk {rows:List AV} {cap:Option Nat} {i j:Nat} (hn:rows.length<=1100000) {Inv:Nat->List Blk->Prop} {L:List Blk} {K:Fw}
  (hj:∀ k L',Inv k L'->L'[j]?=some (.cells [.sl rows rows.length cap])/\L.length<=L'.length) (h0:Inv rows.length L)
  (hs:∀ k L' (Q:AV->List Blk->Prop),k<rows.length->Inv (k+1) L'->(∀ L'',Inv k L''->Q (.bool true) L'')->tZ Try.prog i [.int .i64 (k:Int),rows.getD k .undef] L' Q)
  (hK:∀ L',Inv 0 L'->Fin L (.tup []) L' K) :
  Fv 78 [.yld i,.ptr j 0] L K:=by
 have e0:=(hj _ _ h0).1;have g0:IntKind.i64.wrap ((rows.length:Int) - 1)=(rows.length:Int) - 1:=aw (by omega) (by omega);replace hj:=hid hj;replace hs:=hid hs;replace hK:=hid hK;replace h0:=hid h0;refine Fu d6 ?_;refine aM (fun n T' L'=>∃ (k:Nat) (x:Int),n=k/\k<=rows.length/\Hid (Inv k L')/\x=(k:Int) - 1/\T'=[(3,.int .i64 x),(0,.yld i),(1,.ptr j 0)]) (CutS (b:=Fz _)) ⟨rows.length,_,rfl,Fz _,h0,rfl,rfl⟩ ?_;rintro k _ L' ⟨_,x,rfl,hk,hI,hx,rfl⟩;have e1:=(hj.out _ _ hI.out).1;have e2:=(hj.out _ _ hI.out).2;cases k with
 | zero =>
   have hx':x=-1:=by omega
   subst hx';clear hx;refine wk ?_;exact ⟨.inl rfl,True,[],rfl,trivial,hK.out _ hI.out⟩
 | succ k =>
   have hx':x=(k:Int):=by omega
   subst hx';clear hx;have g1:(0:Int)<=(k:Int):=by omega
   have g2:IntKind.i64.wrap ((k:Int) - 1)=(k:Int) - 1:=aw (by omega) (by omega);have g3:(k:Int)<(rows.length:Int):=by omega
   have g4:k<rows.length:=hk;refine wk ?_;rw [tL];refine hs.out k L' _ g4 hI.out fun L'' h''=>?_
   have e3:=(hj.out _ _ h'').1;have e4:=(hj.out _ _ h'').2;replace h'':=hid h'';clear hI e1 e2;refine sk ?_;refine wk ?_;exact aJ _ _ _ (by omega) (CutL (b:=by omega)) ⟨k,_,rfl,by omega,hid h''.out,rfl,rfl⟩
theorem EW {rows:List AV} {n:Nat} {cap:Option Nat} (h:K (.func 75 [.ptr L.length 0]) (L++[.cells [.sl rows n cap]])) :
  Fv 58 [.sl rows n cap] L K:=by
 replace h:=hid h;refine Fu d9 ?_;exact aq h.out
theorem EV {rows:List AV} {n:Nat} {cap:Option Nat} (h:K (.func 78 [.ptr L.length 0]) (L++[.cells [.sl rows n cap]])) :
  Fv 64 [.sl rows n cap] L K:=by
 replace h:=hid h;refine Fu em ?_;exact aq h.out
theorem OkD.one {d:List Rdn} (h:OkD d) {r:Rdn} (hr:r∈d):OkD [r]:=by
 obtain ⟨a,b,rfl⟩:=List.append_of_mem hr;have h':OkD (r::b):=OkD.app h;rw [ql] at h' ⊢;obtain ⟨h1,h2,h3,h4⟩:=h';refine ⟨by simp,fun x hx=>h2 x (by rw [FM.1 hx];simp),?_,F3 ?_ h4⟩
 ·unfold oD at h3 ⊢;rw [List.any_cons,HC] at h3;rw [List.any_cons,h3.1];rfl
 ·have e1:=gj ([r].map (bG false)) 44;have e2:=gj ((r::b).map (bG false)) 44;rw [if_neg (by simp)] at e1 e2;simp only [FQ,GD,G1,List.sum_nil,FT,Gu] at e1 e2;unfold aE;simp only [FQ,GD];omega
theorem D0 {d:List Rdn} {cap:Option Nat} (hd:OkD d) (h:K (.sl (am (NK d).reverse) d.length none) L) :
  Fv 36 [.sl (d.map aI) d.length cap] L K:=by
 have hlen:=hd.len;replace h:=hid h;have kk1:Hid (∀ {L:List Blk} {K:Fw},K (.func 75 [.ptr L.length 0]) (L++[.cells [.sl (d.map aI) d.length cap]])->Fv 58 [.sl (d.map aI) d.length cap] L K):=@hid _ (by intro L K q;exact EW q);refine Fu tw ?_;have hl:∀ (a b c x y:Blk) (Z:List Blk),(L++([a,b,c]++Z))[(L++[x,y]).length]?=some c:=fun a b c x y Z=>by
  rw [FJ (by simp)];simp
 have hrl:(d.map aI).length=d.length:=FS _;refine qY (f:=75) (caps:=[.ptr (L.length+1) 0]) (fun args w=>rfl) rfl (fun fn ca cb hca hcb hfx hfy hps=>?_);refine Dl (rows:=d.map aI) (cap:=cap) (Inv:=fun k L'=>∃ (v:AV) (Z:List Blk),L'=L++([.cells [v],.cells [.sl (d.map aI) d.length cap],.lrec [(9,.func 75 [.ptr (L.length+1) 0]),(3,.ptr L.length 0),(2,.sl [] 0 (some 0)),(0,.sl (d.map aI) d.length cap)] 23 fn [10,11] ca cb false]++Z)/\((k=d.length/\v=.sl [] 0 (some 0))\/∃ m,v=.lsl (L.length+3+m) 0 (d.length - k) none 1/\Z[m]?=some (.cells (am ((NK d).reverse.take (d.length - k)))))) (by omega) ?_ ?_ ?_ ?_
 ·rintro k L' ⟨v,Z,rfl,_⟩;refine ⟨?_,by simp⟩;rw [hrl,FJ (by omega)];simp
 ·exact ⟨.sl [] 0 (some 0),[],by simp,.inl ⟨hrl,rfl⟩⟩
 ·rintro k L' Q hk ⟨v,Z,rfl,hv⟩ hQ;rw [hrl] at hk;obtain ⟨r,hr⟩:=Fq (d.getD k []);have er:(d.map aI).getD k .undef=.sl (bE r) r.length none:=by rw [oI hk,hr]
  have hrm:r∈d:=by rw [<- hr];simp [hk]
  have ho1:=hd.one hrm;have etk:(NK d).reverse.take (d.length - k)=(NK d).reverse.take (d.length - (k+1))++[bG true r]:=by
   rw [show d.length - k=d.length - (k+1)+1 by omega,Gc (by rw [Gx,aZ];omega)]
   congr 2
   rw [List.getElem_reverse];simp only [NK,List.getElem_map,FS]
   congr 1
   rw [<- hr];simp only [F4];rw [FN hk];simp only [Gf]
   congr 1;omega
  obtain ⟨s,hs⟩:=Fq (bG true r);rw [hs] at etk;have kk2:Hid (∀ {c:Option Nat} {L:List Blk} {K:Fw},K (.tup [.str s,.int .i64 0]) L->Fv 19 [.sl [.sl (bE r) r.length none] 1 c] L K):=@hid _ (by
   intro c L K q;refine qM (d:=[r]) ho1.m.b.1 ho1.m.b.2 ?_;rw [iw ho1,show aE true [r]=s from by simp [aE,Lib.join,hs]];exact q)
  rw [er];refine vq (hl _ _ _ _ _ _) hca hcb hfx hfy rfl hps ?_;simp only [oE];replace hQ:=hid hQ;replace etk:=hid etk;clear hr hrm ho1 hs er hca hcb hfx hfy hps kk1 hl h;have hset:∀ (a b c c':Blk) (Z:List Blk),(L++a::b::c::Z).set (L.length+2) c'=L++([a,b,c']++Z):=fun a b c c' Z=>by
   rw [Gb _ _ (by omega),show L.length+2 - L.length=2 by omega];rfl
  have hget:∀ (a b c:Blk) (Z:List Blk),(L++a::b::c::Z)[L.length+2]?=some c:=fun a b c Z=>by
   rw [FJ (by omega),show L.length+2 - L.length=2 by omega];rfl
  replace hset:=hid hset;replace hget:=hid hget;rcases hv with ⟨hk0,rfl⟩|⟨m,rfl,hZ⟩
  ·refine wk ?_;refine ⟨rfl,hget.out _ _ _ _,?_⟩;rw [hset.out];refine hQ.out _ ⟨_,Z++[.cells [.str s]],rfl,.inr ⟨Z.length,?_,?_⟩⟩
   ·rw [show d.length - k=1 by omega,show L.length+(Z.length+1+1+1)=L.length+3+Z.length by omega]
   ·rw [etk.out,show d.length - (k+1)=0 by omega];simp
  ·obtain ⟨j,hj⟩:=Fq (d.length - (k+1));obtain ⟨C,hC⟩:=Fq (am ((NK d).reverse.take (d.length - (k+1))));have hCl:C.length=j:=by rw [<- hC,FS,GC,Gx,aZ];omega
   have hCt:List.take j C=C:=Gd (by omega);rw [hC] at hZ;rw [hj];have hm:m<Z.length:=(Fx.1 hZ).1;have hLZ:∀ (a b c:Blk),(L++a::b::c::Z)[L.length+3+m]?=some (.cells C):=fun a b c=>by
    rw [FJ (by omega),show L.length+3+m - L.length=m+1+1+1 by omega];simpa using hZ
   have hj2:j<=32:=by omega
   have hds:∀ (a b c:Blk),(L++a::b::c::Z).set (L.length+3+m) .dead=L++a::b::c::Z.set m .dead:=fun a b c=>by
    rw [Gb _ _ (by omega),show L.length+3+m - L.length=m+1+1+1 by omega];rfl
   refine wk ?_;refine ⟨rfl,hget.out _ _ _ _,?_⟩;rw [hset.out];refine hQ.out _ ⟨_,Z.set m .dead++[.cells (C++[.str s])],rfl,.inr ⟨Z.length,?_,?_⟩⟩
   ·rw [show d.length - k=j+1 by omega,show L.length+(Z.length+1+1+1)=L.length+3+Z.length by omega]
   ·rw [etk.out,<- hC,FJ (by simp)];simp
 ·have hls:∀ (a b c c' x y:Blk) (Z:List Blk),(L++([a,b,c]++Z)).set (L++[x,y]).length c'=L++a::b::c'::Z:=fun a b c c' x y Z=>by
   rw [Gb _ _ (by simp),show (L++[x,y]).length - L.length=2 by simp];rfl
  rintro L' ⟨v,Z,rfl,hv⟩;refine aq ⟨hl _ _ _ _ _ _,?_⟩;rw [hls];clear hls hl hca hcb hfx hfy hps kk1;rcases hv with ⟨h0,rfl⟩|⟨m,rfl,hZ⟩
  ·have hnil:d=[]:=F8.1 h0.symm;subst hnil;clear h0 hlen hrl hd;refine wk ?_;refine cQ ?_;rw [show (AV.sl [] 0 (some 0)).frz=.sl (am (NK []).reverse) ([]:List Rdn).length none from rfl];exact ah rfl h.out
  ·rw [Ho,Gd (by rw [Gx,aZ];omega)] at hZ;rw [Ho];obtain ⟨C,hC⟩:=Fq (am (NK d).reverse);have hCl:C.length=d.length:=by rw [<- hC,FS,Gx,aZ]
   rw [hC] at hZ h;have hLZ:∀ (a b c:Blk),(L++a::b::c::Z)[L.length+3+m]?=some (.cells C):=fun a b c=>by
    rw [FJ (by omega),show L.length+3+m - L.length=m+1+1+1 by omega];simpa using hZ
   refine wk ?_;refine nn (i:=L.length+3+m) (l:=C) (hLZ _ _ _) ?_;rw [show (AV.lsl (L.length+3+m) 0 d.length none 1).snap (L.length+3+m) C=.sl C d.length none from by simp [AV.snap,<- hCl],Gb _ _ (by omega)];exact ah (by rw [<- hC];simp only [AV.refs];exact nr _ _) h.out
theorem EU {rows:List AV} {cap:Option Nat} {i j:Nat} (hn:rows.length<=1100000) {Inv:Nat->List Blk->List Blk->Prop} {L:List Blk} {K:Fw}
  (hp:∀ k A Z,Inv k A Z->A.length=L.length/\A[j]?=some (.cells [.sl rows rows.length cap])) (h0:Inv rows.length L [])
  (hs:∀ k A Z X (Q:AV->List Blk->Prop),k<rows.length->X.length=3->Inv (k+1) A Z->(∀ A' Z',Inv k A' Z'->Q (.bool true) (A'++(X++Z')))->tZ Try.prog i [rows.getD k .undef] (A++(X++Z)) Q)
  (hK:∀ A Z,Inv 0 A Z->∀ X,X.length=3->Fin L (.tup []) (A++(X++Z)) K) :
  Fv 63 [.yld i,.ptr j 0] L K:=by
 have hL:=(hp _ _ _ h0).2;have hjl:j<L.length:=(Fx.1 hL).1;have hLx:∀ x:Blk,(L++[x])[j]?=some (.cells [.sl rows rows.length cap]):=fun x=>by rw [FC hjl];exact hL
 have kk1:Hid (∀ {L:List Blk} {K:Fw},K (.func 78 [.ptr L.length 0]) (L++[.cells [.sl rows rows.length cap]])->Fv 64 [.sl rows rows.length cap] L K):=@hid _ (by intro L K q;exact EV q);replace hp:=hid hp;replace h0:=hid h0;replace hs:=hid hs;replace hK:=hid hK;refine Fu ng ?_;refine qY (f:=78) (caps:=[.ptr (L.length+1) 0]) (fun args w=>rfl) rfl (fun fn ca cb hca hcb hfx hfy hps=>?_);have hl:∀ (A:List Blk) (hA:A.length=L.length) (a b c x y:Blk) (Z:List Blk),(A++([a,b,c]++Z))[(L++[x,y]).length]?=some c:=fun A hA a b c x y Z=>by
  rw [FJ (by simp [hA])];simp [hA]
 have hls:∀ (A:List Blk) (hA:A.length=L.length) (a b c c' x y:Blk) (Z:List Blk),(A++([a,b,c]++Z)).set (L++[x,y]).length c'=A++([a,b,c']++Z):=fun A hA a b c c' x y Z=>by
  rw [Gb _ _ (by simp [hA]),show (L++[x,y]).length - A.length=2 by simp [hA]];rfl
 refine Dk (rows:=rows) (cap:=cap) hn (Inv:=fun k L'=>∃ A Z,L'=A++([.cells [.yld i],.cells [.sl rows rows.length cap],.lrec [(6,.func 78 [.ptr (L.length+1) 0]),(2,.ptr L.length 0),(0,.yld i),(1,.ptr j 0)] 13 fn [7,8] ca cb false]++Z)/\Inv k A Z) ?_ ?_ ?_ ?_
 ·rintro k L' ⟨A,Z,rfl,hI⟩;have hA:=(hp.out _ _ _ hI).1;refine ⟨?_,by simp [hA]⟩;rw [FJ (by omega),hA];simp
 ·exact ⟨L,[],by simp,h0.out⟩
 ·rintro k L' Q hk ⟨A,Z,rfl,hI⟩ hQ;have hA:=(hp.out _ _ _ hI).1;refine vq (hl A hA _ _ _ _ _ _) hca hcb hfx hfy rfl hps ?_;simp only [oE];replace hQ:=hid hQ;replace hI:=hid hI;have hset:∀ (A:List Blk) (hA:A.length=L.length) (a b c c':Blk) (Z:List Blk),(A++a::b::c::Z).set (L.length+2) c'=A++a::b::c'::Z:=fun A hA a b c c' Z=>by
   rw [Gb _ _ (by omega),show L.length+2 - A.length=2 by omega];rfl
  have hget:∀ (A:List Blk) (hA:A.length=L.length) (a b c:Blk) (Z:List Blk),(A++a::b::c::Z)[L.length+2]?=some c:=fun A hA a b c Z=>by
   rw [FJ (by omega),show L.length+2 - A.length=2 by omega];rfl
  have hg0:∀ (a:Blk) (Z:List Blk),(A++a::Z)[L.length]?=some a:=fun a Z=>by
   rw [FJ (by omega),show L.length - A.length=0 by omega];rfl
  replace hset:=hid hset;replace hget:=hid hget;clear hca hcb hfx hfy hps kk1 hl hls hL hLx;refine wk ?_;refine ⟨hget.out _ hA _ _ _ _,?_⟩;rw [hset.out _ hA];refine wk ?_;rw [tL];refine hs.out k A Z [.cells [.yld i],.cells [.sl rows rows.length cap],.lrec [(6,.func 78 [.ptr (L.length+1) 0]),(2,.ptr L.length 0),(0,.yld i),(1,.ptr j 0)] 13 fn [7,8] ca cb true] _ hk rfl hI.out fun A' Z' hI'=>?_
  have hA':=(hp.out _ _ _ hI').1;have hg1:∀ (a:Blk) (Z:List Blk),(A'++a::Z)[L.length]?=some a:=fun a Z=>by
   rw [FJ (by omega),show L.length - A'.length=0 by omega];rfl
  replace hI':=hid hI';clear hg0 hI hA;refine sk ?_;refine wk ?_;refine ⟨rfl,hget.out _ hA' _ _ _ _,?_⟩;rw [hset.out _ hA'];exact hQ.out _ ⟨A',Z',rfl,hI'.out⟩
 ·rintro L' ⟨A,Z,rfl,hI⟩;have hA:=(hp.out _ _ _ hI).1;refine aq ⟨hl A hA _ _ _ _ _ _,?_⟩;rw [hls A hA];clear hl hls hca hcb hfx hfy hps kk1;exact ⟨.inl rfl,True,[],rfl,trivial,hK.out A Z hI _ rfl⟩
theorem vD {p:Pth} {k:Nat} (hk:k<p.length):p.reverse.take (p.length - k)=p.reverse.take (p.length - (k+1))++[p.getD k []]:=by
 rw [show p.length - k=p.length - (k+1)+1 by omega,Gc (by rw [Gx];omega)]
 congr 2
 rw [List.getElem_reverse];simp only [F4];rw [FN hk];simp only [Gf]
 congr 1;omega
theorem E5 {p:Pth} {cap:Option Nat} {j:Nat} (hn:p.length<=1000) {L:List Blk} (hj:L[j]?=some (.cells [.sl (am p) p.length cap])) {K:Fw} (h:K (.sl (am p.reverse) p.length none) L) :
  Fv 62 [.sl [] 0 (some 0),.func 63 [.ptr j 0]] L K:=by
 replace h:=hid h;have hjl:j<L.length:=(Fx.1 hj).1;refine Fu ed ?_;refine qY (f:=63) (caps:=[.ptr j 0]) (fun args w=>rfl) rfl (fun fn ca cb hca hcb hfx hfy hps=>?_);have hl:∀ (a c x:Blk) (Z:List Blk),(L++[a,c]++Z)[(L++[x]).length]?=some c:=fun a c x Z=>by
  rw [FO,FJ (by simp)];simp
 refine EU (rows:=am p) (cap:=cap) (by simp;omega) (Inv:=fun k A Z=>∃ v:AV,A=L++[.cells [v],.lrec [(6,.func 63 [.ptr j 0]),(4,.sl [] 0 (some 0)),(2,.ptr L.length 0),(0,.sl [] 0 (some 0)),(1,.func 63 [.ptr j 0])] 13 fn [7] ca cb false]/\((k=p.length/\v=.sl [] 0 (some 0))\/∃ m,v=.lsl (L.length+5+m) 0 (p.length - k) none 1/\Z[m]?=some (.cells (am (p.reverse.take (p.length - k)))))) ?_ ?_ ?_ ?_
 ·rintro k A Z ⟨v,rfl,_⟩;refine ⟨by simp,?_⟩;rw [FC hjl];simpa using hj
 ·exact ⟨_,by simp,.inl ⟨by simp,rfl⟩⟩
 ·rintro k A Z X Q hk hX ⟨v,rfl,hv⟩ hQ;rw [FS] at hk;obtain ⟨x0,x1,x2,rfl⟩:∃ a b c,X=[a,b,c]:=by
   match X,hX with
   | [a,b,c],_=>exact ⟨a,b,c,rfl⟩
  obtain ⟨s,hs⟩:=Fq (p.getD k []);have er:(am p).getD k .undef=.str s:=by rw [<- hs];simp [hk]
  have etk:=vD hk;rw [hs] at etk;rw [er];refine vq (hl _ _ _ _) hca hcb hfx hfy rfl hps ?_;simp only [oE];replace hQ:=hid hQ;replace etk:=hid etk;clear hs er hca hcb hfx hfy hps hl h hj;have hset:∀ (a c c':Blk) (Z:List Blk),(L++a::c::Z).set (L.length+1) c'=L++([a,c']++Z):=fun a c c' Z=>by
   rw [Gb _ _ (by omega),show L.length+1 - L.length=1 by omega];rfl
  have hget:∀ (a c:Blk) (Z:List Blk),(L++a::c::Z)[L.length+1]?=some c:=fun a c Z=>by
   rw [FJ (by omega),show L.length+1 - L.length=1 by omega];rfl
  replace hset:=hid hset;replace hget:=hid hget;rcases hv with ⟨hk0,rfl⟩|⟨m,rfl,hZ⟩
  ·refine wk ?_;refine ⟨rfl,hget.out _ _ _,?_⟩;rw [hset.out];have:=hQ.out _ (Z++[.cells [.str s]]) ⟨_,rfl,.inr ⟨Z.length,rfl,by rw [etk.out,show p.length - (k+1)=0 by omega];simp⟩⟩;rw [show L.length+(Z.length+1+1+1+1+1)=L.length+5+Z.length by omega];rw [show p.length - k=1 by omega] at this;rw [FO] at this;exact this
  ·obtain ⟨d,hd⟩:=Fq (p.length - (k+1));obtain ⟨C,hC⟩:=Fq (am (p.reverse.take (p.length - (k+1))));have hCl:C.length=d:=by rw [<- hC,FS,GC,Gx];omega
   have hCt:List.take d C=C:=Gd (by omega);rw [hC] at hZ;rw [hd];have hm:m<Z.length:=(Fx.1 hZ).1;have hLZ:∀ (a b c e f:Blk),(L++a::b::c::e::f::Z)[L.length+5+m]?=some (.cells C):=fun a b c e f=>by
    rw [FJ (by omega),show L.length+5+m - L.length=m+1+1+1+1+1 by omega];simpa using hZ
   have hd2:d<=1000:=by omega
   have hds:∀ (a b c e f:Blk),(L++a::b::c::e::f::Z).set (L.length+5+m) .dead=L++a::b::c::e::f::Z.set m .dead:=fun a b c e f=>by
    rw [Gb _ _ (by omega),show L.length+5+m - L.length=m+1+1+1+1+1 by omega];rfl
   refine wk ?_;refine ⟨rfl,hget.out _ _ _,?_⟩;rw [hset.out];have:=hQ.out _ (Z.set m .dead++[.cells (C++[.str s])]) ⟨_,rfl,.inr ⟨Z.length,rfl,by rw [etk.out,<- hC,FJ (by simp)];simp⟩⟩;rw [show L.length+(Z.length+1+1+1+1+1)=L.length+5+Z.length by omega];rw [show p.length - k=d+1 by omega] at this;rw [FO] at this;exact this
 ·rintro A Z ⟨v,rfl,hv⟩ X hX;obtain ⟨x0,x1,x2,rfl⟩:∃ a b c,X=[a,b,c]:=by
   match X,hX with
   | [a,b,c],_=>exact ⟨a,b,c,rfl⟩
  have hls:∀ (a c c' x:Blk) (Z:List Blk),(L++[a,c]++Z).set (L++[x]).length c'=L++a::c'::Z:=fun a c c' x Z=>by
   rw [FO,Gb _ _ (by simp),show (L++[x]).length - L.length=1 by simp];rfl
  refine aq ⟨hl _ _ _ _,?_⟩;rw [hls];clear hls hl hca hcb hfx hfy hps hX hj;rcases hv with ⟨h0,rfl⟩|⟨m,rfl,hZ⟩
  ·have hnil:p=[]:=F8.1 h0.symm;subst hnil;clear h0 hn;refine wk ?_;refine cQ ?_;rw [show (AV.sl [] 0 (some 0)).frz=.sl (am ([]:Pth).reverse) ([]:Pth).length none from rfl];exact ah rfl h.out
  ·rw [Ho,Gd (by rw [Gx];omega)] at hZ;rw [Ho];obtain ⟨C,hC⟩:=Fq (am p.reverse);have hCl:C.length=p.length:=by rw [<- hC,FS,Gx]
   rw [hC] at hZ h;have hLZ:∀ (a b c e f:Blk),(L++a::b::c::e::f::Z)[L.length+5+m]?=some (.cells C):=fun a b c e f=>by
    rw [FJ (by omega),show L.length+5+m - L.length=m+1+1+1+1+1 by omega];simpa using hZ
   refine wk ?_;refine nn (i:=L.length+5+m) (l:=C) (hLZ _ _ _ _ _) ?_;rw [show (AV.lsl (L.length+5+m) 0 p.length none 1).snap (L.length+5+m) C=.sl C p.length none from by simp [AV.snap,<- hCl],Gb _ _ (by omega)];exact ah (by rw [<- hC];simp only [AV.refs];exact nr _ _) h.out
theorem Ef {p:Pth} {cap:Option Nat} {j:Nat} (hn:p.length<=1000) {L:List Blk} (hj:L[j]?=some (.cells [.sl (am p) p.length cap])) {K:Fw} (h:K (.sl (am p.reverse) p.length none) L) :
  Fv 38 [.func 63 [.ptr j 0]] L K:=by
 have kk1:Hid (∀ {K:Fw},K (.sl (am p.reverse) p.length none) L->Fv 62 [.sl [] 0 (some 0),.func 63 [.ptr j 0]] L K):=@hid _ (by intro K q;exact E5 hn hj q);replace h:=hid h;refine Fu jp ?_;exact aq h.out
theorem ET {rows:List AV} {n:Nat} {cap:Option Nat} (h:K (.func 63 [.ptr L.length 0]) (L++[.cells [.sl rows n cap]])) :
  Fv 39 [.sl rows n cap] L K:=by
 replace h:=hid h;refine Fu oT ?_;exact aq h.out
theorem C0 {d:List Rdn} {cap:Option Nat} (hd:OkD d) (h:K (.str (aE true d)) L) :
  Fv 37 [.sl (am (NK d)) d.length cap,.str [44]] L K:=by
 obtain ⟨q1,q2⟩:=uM hd;have hrl:∀ r∈d,(bG true r).length<=200000:=fun r hr=>pg (q2 r hr).1 (fun a ha=>((q2 r hr).2 a ha).1) (fun a ha=>((q2 r hr).2 a ha).2)
 have htl:=o9 (by omega) hrl;have e:aE true d=Lib.join (NK d) [44]:=rfl;rw [e] at h htl;rw [show d.length=(NK d).length from (aZ d).symm];exact qq (by rw [aZ];omega) (by omega) h
theorem zN {L:List Blk} {it iv mn mi nb:Nat} {s lst a0 a2 a3:AV} {es:List (AV×AV×Nat)} {rs:List TKy} {ck ci j n1:Nat} {l1:List AV} {c1 cap:Option Nat} {id:Int} {d:List Rdn} (hd:OkD d)
  (hit:L[it]?=some (.cells [.ptr iv 0])) (hiv:L[iv]?=some (.cells [s,.lmap mn,.lmap mi,lst])) (hmn:L[mn]?=some (.map es ck)) (hf:bt (.int .i64 id) es 0=some (some (j,.ptr nb 0)))
  (hnb:L[nb]?=some (.cells [a0,.sl l1 n1 c1,a2,a3])) (hmi:L[mi]?=some (.map (rs.map kyA) ci)) (hk:bt (.str (aE true d)) (rs.map kyA) 0=some none) {K:Fw}
  (h:K (.tup []) ((L.set nb (.cells [dnA d,.sl (am (NK d).reverse) d.length none,a2,a3])).set mi (.map ((rs++[(aE true d,id,ci)]).map kyA) (ci+1))++[.cells [.sl (am (NK d).reverse) d.length none]])) :
  Fv 26 [.ptr it 0,.int .i64 id,.sl (d.map aI) d.length cap] L K:=by
 have hkf:aN .int (.int .i64 id)=true:=rfl;have hd32:=hd.len;have hni:nb≠iv:=fun e=>by rw [e,hiv] at hnb;simp at hnb
 have hnt:nb≠it:=fun e=>by rw [e,hit] at hnb;simp at hnb
 have hnm:nb≠mn:=fun e=>by rw [e,hmn] at hnb;simp at hnb
 have hnx:nb≠mi:=fun e=>by rw [e,hmi] at hnb;simp at hnb
 have hnl:nb<L.length:=(Fx.1 hnb).1;have ht1:∀ b,(L.set nb b)[it]?=some (.cells [.ptr iv 0]):=fun b=>by rw [FL hnt];exact hit
 have hv1:∀ b,(L.set nb b)[iv]?=some (.cells [s,.lmap mn,.lmap mi,lst]):=fun b=>by rw [FL hni];exact hiv
 have hm1:∀ b,(L.set nb b)[mi]?=some (.map (rs.map kyA) ci):=fun b=>by rw [FL hnx];exact hmi
 have hn1:∀ b,(L.set nb b)[nb]?=some b:=fun b=>by simp [hnl]
 have hss:∀ b c,(L.set nb b).set nb c=L.set nb c:=fun b c=>List.set_set ..
 have kk1:Hid (∀ {L:List Blk} {c:Option Nat} {K:Fw},K (dnA d) L->Fv 16 [.sl (d.map aI) d.length cap,.sl [] 0 c] L K):=@hid _ (by intro L c K q;exact BG hd.m.b.1 hd.m.b.2 q);have kk2:Hid (Ctr Try.prog 36 [.sl (d.map aI) d.length cap] (.sl (am (NK d).reverse) d.length none)):=@hid _ (by intro L K q;exact D0 hd q);replace h:=hid h;refine Fu oV ?_;have hil:iv<L.length:=(Fx.1 hiv).1;have htl:it<L.length:=(Fx.1 hit).1;have hml:mi<L.length:=(Fx.1 hmi).1;have ht2:∀ b X,(L.set nb b++[X])[it]?=some (.cells [.ptr iv 0]):=fun b X=>by rw [FC (by simpa using htl)];exact ht1 b
 have hv2:∀ b X,(L.set nb b++[X])[iv]?=some (.cells [s,.lmap mn,.lmap mi,lst]):=fun b X=>by rw [FC (by simpa using hil)];exact hv1 b
 have hm2:∀ b X,(L.set nb b++[X])[mi]?=some (.map (rs.map kyA) ci):=fun b X=>by rw [FC (by simpa using hml)];exact hm1 b
 have hx2:∀ b X Y,(L.set nb b++[X]).set mi Y=(L.set nb b).set mi Y++[X]:=fun b X Y=>by rw [Hs _ _ (by simpa using hml)]
 have kk3:Hid (∀ {K:Fw},K (.sl (am (NK d)) d.length none) ((L.set nb (.cells [dnA d,.sl (am (NK d).reverse) d.length none,a2,a3]))++[.cells [.sl (am (NK d).reverse) d.length none]])->Fv 38 [.func 63 [.ptr (L.set nb (.cells [dnA d,.sl (am (NK d).reverse) d.length none,a2,a3])).length 0]] ((L.set nb (.cells [dnA d,.sl (am (NK d).reverse) d.length none,a2,a3]))++[.cells [.sl (am (NK d).reverse) d.length none]]) K):=@hid _ (by
  intro K q;have hl:(NK d).reverse.length=d.length:=by rw [Gx,aZ]
  have:=Ef (p:=(NK d).reverse) (cap:=none) (j:=(L.set nb (.cells [dnA d,.sl (am (NK d).reverse) d.length none,a2,a3])).length) (L:=(L.set nb (.cells [dnA d,.sl (am (NK d).reverse) d.length none,a2,a3]))++[.cells [.sl (am (NK d).reverse) d.length none]]) (by omega) (by rw [FJ (Fz _),hl];simp) (K:=K);rw [List.reverse_reverse,hl] at this;exact this q)
 have kk4:Hid (Ctr Try.prog 37 [.sl (am (NK d)) d.length none,.str [44]] (.str (aE true d))):=@hid _ (by intro L K q;exact C0 hd q);have hkf2:aN .str (.str (aE true d))=true:=rfl;obtain ⟨tk,htk⟩:=Fq (aE true d);rw [htk] at kk4 hk hkf2 h;obtain ⟨pp,hpp⟩:=Fq (am (NK d).reverse);rw [hpp] at kk3 h ⊢;have hee:(rs++[(tk,id,ci)]).map kyA=rs.map kyA++[(.str tk,.int .i64 id,ci)]:=by rw [FZ];rfl
 rw [hee] at h;clear kk1 kk2 hit hiv hmn hf hnb hmi htk hpp hee;refine ⟨_,_,(show Fv 39 [.sl pp d.length none] _ _ from ET ⟨rfl,rfl⟩),?_⟩;refine sk ?_;refine wk ?_;exact ⟨.inl rfl,True,[],rfl,trivial,aq h.out⟩
def bv (kd:Int->Int) (x:aA):List AV:=[dnA x.nm,.sl (am (pth x)) x.nm.length none,atR x.av,.int .i64 (kd x.id)]
structure aT (L:List Blk) (iv mn mi:Nat) (nb bn:Int->Nat) (ck ci:Nat) (rs:List TKy) (suf:List Rdn) (last:Int) (l lk:List aA) (kd:Int->Int):Prop where
 v:L[iv]?=some (.cells [dnA suf,.lmap mn,.lmap mi,.int .i64 last])
 n:L[mn]?=some (.map (l.map (dp nb bn)) ck)
 i:L[mi]?=some (.map (rs.map kyA) ci)
 nd:∀ x∈l,L[nb x.id]?=some (.cells (bv kd x))
 inj:∀ x∈l,∀ y∈l,nb x.id=nb y.id->x.id=y.id
 keys:(rs.map (·.1)).Nodup
 mem:∀ k id,(∃ b,(k,id,b)∈rs)↔∃ x∈lk,aE true x.nm=k/\x.id=id
 bnd:(l.map fun x=>bn x.id).Nodup
 blt:∀ x∈l,bn x.id<ck
theorem TOk.kidsE {suf:List Rdn} {last:Int} {l:List aA} (h:TOk suf last l) {x:aA} (hx:x∈l):dY l x.id=aG (b9 l) (NK x.nm):=by unfold dY;rw [h.ent hx]
theorem a6.toK {L:List Blk} {iv mn mi:Nat} {nb bn:Int->Nat} {ck ci:Nat} {rs:List TKy} {suf:List Rdn} {last:Int} {l:List aA} (h:a6 L iv mn mi nb bn ck ci rs suf last l) (ht:TOk suf last l):aT L iv mn mi nb bn ck ci rs suf last l l (fun id=>(dY l id:Nat)):=by
 have nd:∀ x∈l,L[nb x.id]?=some (.cells (bv (fun id=>(dY l id:Nat)) x)):=fun x hx=>by
  rw [h.nd x hx];unfold jo bv;dsimp only;rw [ht.kidsE hx]
 refine ⟨h.v,h.n,h.i,nd,fun x hx y hy e=>?_,h.keys,h.mem,h.bnd,h.blt⟩;have h1:=h.nd x hx;have h2:=h.nd y hy;rw [e,h2] at h1;have h3:jo l y=jo l x:=by injection h1 with h1;injection h1
 unfold jo at h3;simp only [Hn,AV.sl.injEq] at h3;have h4:am (pth y)=am (pth x):=h3.2.1.1;have h5:pth y=pth x:=(List.map_inj_right fun a b hab=>by injection hab).1 h4;rw [ht.byN hy hx (uK h5)]
theorem aT.toT {L:List Blk} {iv mn mi:Nat} {nb bn:Int->Nat} {ck ci:Nat} {rs:List TKy} {suf:List Rdn} {last:Int} {l:List aA} {kd:Int->Int} (h:aT L iv mn mi nb bn ck ci rs suf last l l kd) (hk:∀ x∈l,kd x.id=(aG (b9 l) (NK x.nm):Nat)):a6 L iv mn mi nb bn ck ci rs suf last l :=
 ⟨h.v,h.n,h.i,fun x hx=>by rw [h.nd x hx];unfold bv jo;rw [hk x hx],h.keys,h.mem,h.bnd,h.blt⟩
theorem aT.app {L:List Blk} {iv mn mi:Nat} {nb bn:Int->Nat} {ck ci:Nat} {rs:List TKy} {suf:List Rdn} {last:Int} {l lk:List aA} {kd:Int->Int} (h:aT L iv mn mi nb bn ck ci rs suf last l lk kd) (X:List Blk):aT (L++X) iv mn mi nb bn ck ci rs suf last l lk kd:=by
 have key:∀ {i:Nat} {b:Blk},L[i]?=some b->(L++X)[i]?=some b:=fun {i b} e=>by
  rw [FC (Fx.1 e).1];exact e
 exact ⟨key h.v,key h.n,key h.i,fun x hx=>key (h.nd x hx),h.inj,h.keys,h.mem,h.bnd,h.blt⟩
section
variable {L:List Blk} {iv mn mi:Nat} {nb bn:Int->Nat} {ck ci:Nat} {rs:List TKy} {suf:List Rdn} {last:Int} {l lk:List aA} {kd:Int->Int}
def OfT (iv mn mi:Nat) (nb:Int->Nat) (l:List aA) (i:Nat):Prop:=i=iv\/i=mn\/i=mi\/∃ x∈l,i=nb x.id
structure aF (B:Nat->Prop) (L L':List Blk):Prop where
 len:L.length<=L'.length
 eq:∀ i,i<L.length->¬ B i->L'[i]?=L[i]?
theorem aF.refl {B:Nat->Prop} (L:List Blk):aF B L L:=⟨Fz _,fun _ _ _=>rfl⟩
theorem aF.app {B:Nat->Prop} (L X:List Blk):aF B L (L++X):=⟨by simp,fun i hi _=>FC hi⟩
theorem aF.trans {B:Nat->Prop} {L L1 L2:List Blk} (h:aF B L L1) (g:aF B L1 L2):aF B L L2:=⟨F3 h.len g.len,fun i hi hb=>by rw [g.eq i (GH hi h.len) hb,h.eq i hi hb]⟩
theorem aF.set {B:Nat->Prop} (L:List Blk) {j:Nat} (hj:B j) (b:Blk):aF B L (L.set j b):=⟨by simp,fun i hi hb=>FL (fun e=>hb (by rw [<- e];exact hj))⟩
theorem aF.weak {B B':Nat->Prop} {L L':List Blk} (h:aF B L L') (hb:∀ i,i<L.length->B i->B' i):aF B' L L':=⟨h.len,fun i hi hn=>h.eq i hi fun e=>hn (hb i hi e)⟩
theorem aF.trans2 {B B':Nat->Prop} {L L1 L2:List Blk} (h:aF B L L1) (g:aF B' L1 L2) (hb:∀ i,i<L.length->B' i->B i):aF B L L2:=⟨F3 h.len g.len,fun i hi hn=>by rw [g.eq i (GH hi h.len) (fun e=>hn (hb i hi e)),h.eq i hi hn]⟩
theorem aF.get {B:Nat->Prop} {L L':List Blk} (h:aF B L L') {i:Nat} {b:Blk} (hi:L[i]?=some b) (hb:¬ B i):L'[i]?=some b:=by rw [h.eq i (Fx.1 hi).1 hb];exact hi
theorem aT.node (h:aT L iv mn mi nb bn ck ci rs suf last l lk kd) (id:Int) :
  (qz l id=none/\bt (.int .i64 id) (l.map (dp nb bn)) 0=some none)\/∃ x n,qz l id=some x/\x∈l/\x.id=id/\bt (.int .i64 id) (l.map (dp nb bn)) 0=some (some (n,.ptr (nb id) 0))/\L[nb id]?=some (.cells (bv kd x))/\l.getD n default=x:=by
 rw [kV];unfold qz;rcases dO (f:=fun x:aA=>decide (x.id=id)) (l:=l) with ⟨h1,h2⟩|⟨n,h1,h2,h3⟩
 ·exact .inl ⟨h2,by rw [h1];rfl⟩
 ·right;have hm:=GU h3;have hi:(l.getD n default).id=id:=by have:=GT h3;simpa using this
  refine ⟨_,n,h3,hm,hi,by rw [h1];simp,?_,rfl⟩;have:=h.nd _ hm
  rwa [hi] at this
theorem aT.look (h:aT L iv mn mi nb bn ck ci rs suf last l lk kd) (ht:TOk suf last lk) {d:List Rdn} (hd:OkD d) :
  (aH lk d=0/\atE lk d=none/\bt (.str (aE true d)) (rs.map kyA) 0=some none)\/∃ j,bt (.str (aE true d)) (rs.map kyA) 0=some (some (j,.int .i64 (aH lk d)))/\j<rs.length/\(rs.getD j default).1=aE true d:=by
 rw [kW];rcases dO (f:=fun r:TKy=>decide (r.1=aE true d)) (l:=rs) with ⟨h1,h2⟩|⟨n,h1,hn,h2⟩
 ·left;have hno:atE lk d=none:=k9.2 fun _ x hx e=>by
   obtain ⟨b,hb⟩:=(h.mem (aE true x.nm) x.id).2 ⟨x,hx,rfl,rfl⟩;have:=GS.1 h2 _ hb;simp only [decide_eq_true_eq] at this;exact this ((fP (ht.ok x hx) hd).2 e)
  exact ⟨ht.find0.2 hno,hno,by rw [h1];rfl⟩
 ·right;refine ⟨n,?_⟩;obtain ⟨⟨k,id,b⟩,hr⟩:∃ r,rs.getD n default=r:=⟨_,rfl⟩;have hm:=GU h2;have hk:k=aE true d:=by have:=GT h2;rw [hr] at this;simpa using this
  rw [hr] at hm;obtain ⟨x,hx,e1,e2⟩:=(h.mem k id).1 ⟨b,hm⟩;have:atE lk d=some x:=ht.at hx hd ((fP hd (ht.ok x hx)).1 (by rw [<- hk,e1]));rw [h1];refine ⟨by simp only [FK,hr,Hl,aH,this,e2],hn,by rw [hr];exact hk⟩
theorem C9 {d:List Rdn} {cap:Option Nat} (hd:dnB d) (ht:TOk suf last lk) (hc:aT L iv mn mi nb bn ck ci rs suf last l lk kd) {K:Fw} (h:K (.int .i64 (aH lk d)) L) :
  Fv 8 [.ptr iv 0,.sl (d.map aI) d.length cap] L K:=by
 replace h:=hid h;obtain ⟨⟨s,e⟩,hse⟩:∃ q,uS d=q:=⟨_,rfl⟩;have kk1:Hid (Ctr Try.prog 19 [.sl (d.map aI) d.length cap] (.tup [.str s,.int .i64 e])):=@hid _ (by intro L K q;exact qM hd.1 hd.2 (by rw [hse];exact q));have hv:=hc.v;have hi:=hc.i;by_cases he:e=0
 ·subst he;have hod:OkD d:=by
   by_cases c:OkD d
   ·exact c
   ·exact absurd (by rw [hse]) (uR c)
  have hs:s=aE true d:=by have:=iw hod;rw [hse] at this;injection this
  rcases hc.look ht hod with ⟨h0,_,h1⟩|⟨j,h1,_⟩
  ·rw [<- hs] at h1;rw [h0] at h;have hkf:aN .str (.str s)=true:=rfl;clear hse hc hs;refine Fu a8 ?_;exact aq h.out
  ·rw [<- hs] at h1;have hkf:aN .str (.str s)=true:=rfl;obtain ⟨z,hz⟩:=Fq (aH lk d);rw [hz] at h h1;clear hse hc hs hz;refine Fu a8 ?_;exact aq h.out
 ·have h0:aH lk d=0:=by
   refine ht.find0.2 (k9.2 fun c=>?_);have:=iw c;rw [hse] at this;exact absurd (by injection this) he
  rw [h0] at h;clear hse hc;refine Fu a8 ?_;exact aq h.out
theorem aT.kid (h:aT L iv mn mi nb bn ck ci rs suf last l lk kd) {x:aA} (hx:x∈l) (by':Int):aT (L.set (nb x.id) (.cells [dnA x.nm,.sl (am (pth x)) x.nm.length none,atR x.av,.int .i64 (kd x.id+by')])) iv mn mi nb bn ck ci rs suf last l lk (fun i=>if i=x.id then kd i+by' else kd i):=by
 have hnx:=h.nd x hx;have hl:=(Fx.1 hnx).1;have n1:nb x.id≠iv:=fun e=>by rw [e,h.v] at hnx;simp [bv] at hnx
 have n2:nb x.id≠mn:=fun e=>by rw [e,h.n] at hnx;simp at hnx
 have n3:nb x.id≠mi:=fun e=>by rw [e,h.i] at hnx;simp at hnx
 refine ⟨by rw [FL n1];exact h.v,by rw [FL n2];exact h.n,by rw [FL n3];exact h.i,fun y hy=>?_,h.inj,h.keys,h.mem,h.bnd,h.blt⟩;by_cases e:nb x.id=nb y.id
 ·have hi:=h.inj x hx y hy e;have hxy:bv kd x=bv kd y:=by
   have h2:=h.nd y hy;rw [<- e,hnx] at h2;injection h2 with h2;injection h2
  rw [<- e];simp only [hl,G7,Fy,Blk.cells.injEq];unfold bv at hxy ⊢;simp only [Hn] at hxy;dsimp only;rw [if_pos hi.symm,hxy.1,hxy.2.1,hxy.2.2.1,hi]
 ·rw [FL e,h.nd y hy];unfold bv;dsimp only;rw [if_neg (fun e2=>e (by rw [e2]))]
theorem At {it:Nat} {d:List Rdn} {cap:Option Nat} {b:Int} (hd:dnB d) (hne:d≠[]) (ht:TOk suf last lk) (hsub:∀ x∈lk,∃ y∈l,y.id=x.id) (hit:L[it]?=some (.cells [.ptr iv 0])) (hc:aT L iv mn mi nb bn ck ci rs suf last l lk kd) (hb : -1<=b/\b<=1) (hkd:∀ i,-10000000<=kd i/\kd i<=10000000) {K:Fw}
  (h0:aH lk d.tail=0->K (.tup []) L) (h1:∀ x∈l,x.id=aH lk d.tail->K (.tup []) (L.set (nb x.id) (.cells [dnA x.nm,.sl (am (pth x)) x.nm.length none,atR x.av,.int .i64 (kd x.id+b)]))) :
  Fv 27 [.ptr it 0,.sl (d.map aI) d.length cap,.int .i64 b] L K:=by
 obtain ⟨r,d',rfl⟩:∃ r d',d=r::d':=by
  cases d with
  | nil=>exact absurd rfl hne
  | cons r d'=>exact ⟨r,d',rfl⟩
 simp only [List.tail_cons] at h0 h1;have hdt:dnB d':=⟨by have:=hd.1;simp at this;omega,fun r hr=>hd.2 r (by simp [hr])⟩;obtain ⟨z,hz⟩:=Fq (aH lk d');have kk1:Hid (∀ {c:Option Nat} {K:Fw},K (.int .i64 z) L->Fv 8 [.ptr iv 0,.sl (List.take d'.length (d'.map aI)) d'.length c] L K):=@hid _ (by
  intro c K q;rw [Gd (by simp)];exact C9 hdt ht hc (by rw [hz];exact q))
 have hlen:(((r::d').length:Nat):Int)=(d'.length:Int)+1:=by simp
 have g1:(1:Int)<=((r::d').length:Int):=by rw [hlen];omega
 have g2:(r::d').length - 1=d'.length:=by simp
 have g3:List.drop 1 ((r::d').map aI)=d'.map aI:=by simp
 have hv:=hc.v;have hn:=hc.n;by_cases hz0:z=0
 ·subst hz0;replace h:=hid (h0 hz);obtain ⟨D,hD⟩:=Fq ((r::d').map aI);obtain ⟨n,hnn⟩:=Fq ((r::d').length);rw [hD] at g3 ⊢;rw [hnn] at g1 g2 ⊢;clear h0 h1 hz hc hkd hsub ht hd hdt hne hlen hD hnn;refine Fu fF ?_;exact fV ⟨.inl rfl,True,[],rfl,trivial,aq h.out⟩
 ·obtain ⟨y,hy⟩:∃ y,atE lk d'=some y:=by
   cases hq:atE lk d' with
   | none=>exact absurd (ht.find0.2 hq) (by rw [hz];exact hz0)
   | some y=>exact ⟨y,rfl⟩
  have hyz:y.id=z:=by rw [<- hz];unfold aH;rw [hy]
  obtain ⟨_,hyl,_⟩:=bF hy;have hzp:=(ht.ids y hyl).1;obtain ⟨x',hx',hxi⟩:=hsub y hyl;rcases hc.node z with ⟨e1,_⟩|⟨x,j,e1,hx,hxz,e2,e3,_⟩
  ·exact absurd (GS.1 e1 x' hx') (by simp [hxi,hyz])
  have h:=h1 x hx (by rw [hxz,hz]);rw [hxz] at h;replace h:=hid h;unfold bv at e3;rw [hxz] at e3;obtain ⟨q,hq⟩:=Fq (kd z);have hqb:=hkd z;rw [hq] at h e3 hqb;have w1:IntKind.i64.wrap (q+b)=q+b:=aw (by omega) (by omega);have hkf:aN .int (.int .i64 z)=true:=rfl;have g4:(0:Int)<z:=by omega
  have g5:z > 0:=g4;obtain ⟨D,hD⟩:=Fq ((r::d').map aI);obtain ⟨n,hnn⟩:=Fq ((r::d').length);rw [hD] at g3 ⊢;rw [hnn] at g1 g2 ⊢;clear h0 h1 hz hc hkd hsub ht hd hdt hne hlen hD hnn hy hyz hyl hzp hxi hx' e1 hx hxz hq hqb;refine Fu fF ?_;exact ⟨.inl rfl,True,[],rfl,trivial,aq h.out⟩
end
variable {L:List Blk} {K:Fw}
set_option maxHeartbeats 8000000
set_option maxRecDepth 100000
theorem x8 {d e z:List Rdn} {cap cap':Option Nat} {ne nd:Nat} (hz:e++d=z) (he:ne=e.length) (hdn:nd=d.length) (hn:z.length<=1100000) (hr:∀ r∈z,r.length<=1100000) (h:K (dnA z) L) :
  Fv 16 [.sl (d.map aI) nd cap,.sl (e.map aI) ne cap'] L K:=by
 subst he hdn;replace h:=hid h;have hat:=hid (fun k=>@oI z k);replace hr:=hid hr;have kk1:Hid (Ctr Try.prog 30 [.sl [.sl (e.map aI) e.length cap',.sl (d.map aI) d.length cap] 2 (some 2)] (.sl (z.map aI) z.length none)):=@hid _ (by
  intro L K q;refine nC ?_;simp only [AV.frzL,AV.frz,kz];have:=@uA [e.map aI,d.map aI] none (by simp) (by simp only [H3,H4,Ge,<- FZ,hz,FS];exact hn) (fun l hl=>by
   rw [FH];intro a ha;simp only [FX,Gw,or_false] at hl;rcases hl with rfl|rfl<;>(obtain ⟨r,_,rfl⟩:=FF.1 ha;rfl)) (fun p=>by simp only [H3,H4,Ge,<- FZ];exact iH p _) L K
  simp only [H3,H4,Ge,<- FZ,hz,FQ,GD,FS,Gu,FT,tO] at this;exact this q)
 clear hz;refine Fu qC ?_;refine iD (l:=[]) (n:=0) 5 1 rfl (GP 1).symm ?_;refine aM (fun m T' L'=>∃ (k:Nat) (C:List AV) (X:List Blk),m=z.length - k/\k<=z.length/\Hid (C=(z.take k).map aI)/\T'=[(13,.int .i64 (k:Int)),(12,.int .i64 z.length),(11,.sl (z.map aI) z.length none),(5,.gsl C k L.length 1)]/\L'=L++(.spare k 1::X)) (CutS (b:=by simp)) ⟨0,[],[],rfl,FW _,hid rfl,rfl,by simp⟩ ?_;rintro _ _ _ ⟨k,C,X,rfl,hk,hC,rfl,rfl⟩;by_cases hlt:k<z.length
 ·have g1:(k:Int)<(z.length:Int):=by omega
  have g2:=Ft k (by omega);have e2:=hat.out k hlt;have e3:k<(z.map aI).length:=by simpa using hlt
  obtain ⟨r,hri⟩:=Fq (z.getD k []);have hrl:=hr.out r (by rw [<- hri];simp [hlt]);have htk:(z.take (k+1)).map aI=C++[.sl (bE r) r.length none]:=by
   rw [hC.out,Gc hlt,FZ,show z[k]=r by rw [<- hri];simp [hlt]];rfl
  rw [hri] at e2;have e4:=qV r;have e5:=dS r;replace htk:=hid htk;clear hri hC;refine wk ?_;exact aJ _ _ _ (by omega) (CutL (b:=by simp)) ⟨k+1,_,_,rfl,hlt,hid htk.out.symm,rfl,rfl⟩
 ·have hke:k=z.length:=by omega
  subst hke;have g1:¬ (z.length:Int)<(z.length:Int):=by omega
  have hC2:=hC.out;rw [F5] at hC2;subst hC2;clear hC;refine wk ?_;refine cQ ?_;simp only [AV.frz,kz];exact ah (by simp only [AV.refs,iH]) h.out
end Go.Proofs.Ytobihfefmlgaoaa.Av
namespace Go.Proofs
open Go.Shelf
def Try.srtF_ren:Go.Shelf.Ren:=⟨fun|6=>21|15=>33|14=>32|28=>55|29=>56|20=>47|21=>48|22=>49|23=>50|24=>51|25=>52|26=>53|27=>54|46=>70|47=>71|48=>72|49=>73|50=>74|57=>90|n=>n,fun|22=>37|24=>3|25=>62|3=>3|39=>79|0=>0|53=>100|55=>102|4=>4|46=>93|45=>92|50=>97|5=>5|9=>9|66=>126|70=>130|76=>142|77=>143|n=>n,fun|n=>n⟩
theorem Try.srtF:Go.Proofs.SlLaysF.n6 Try.prog Try.srtF_ren:={
 mixed:=by kernel_rfl
 f6:=⟨Try.f21.name,by decide,Try.func21.trans (congrArg some (by kernel_rfl))⟩
 f14:=⟨Try.f32.name,by decide,Try.func32.trans (congrArg some (by kernel_rfl))⟩
 f15:=Try.func33.trans (congrArg some (by kernel_rfl))
 f20:=⟨Try.f47.name,by decide,Try.func47.trans (congrArg some (by kernel_rfl))⟩
 f21:=⟨Try.f48.name,by decide,Try.func48.trans (congrArg some (by kernel_rfl))⟩
 f22:=⟨Try.f49.name,by decide,Try.func49.trans (congrArg some (by kernel_rfl))⟩
 f23:=⟨Try.f50.name,by decide,Try.func50.trans (congrArg some (by kernel_rfl))⟩
 f24:=⟨Try.f51.name,by decide,Try.func51.trans (congrArg some (by kernel_rfl))⟩
 f25:=⟨Try.f52.name,by decide,Try.func52.trans (congrArg some (by kernel_rfl))⟩
 f26:=⟨Try.f53.name,by decide,Try.func53.trans (congrArg some (by kernel_rfl))⟩
 f27:=⟨Try.f54.name,by decide,Try.func54.trans (congrArg some (by kernel_rfl))⟩
 f28:=Try.func55.trans (congrArg some (by kernel_rfl))
 f29:=Try.func56.trans (congrArg some (by kernel_rfl))
 f46:=⟨Try.f70.name,by decide,Try.func70.trans (congrArg some (by kernel_rfl))⟩
 f47:=Try.func71.trans (congrArg some (by kernel_rfl))
 f48:=Try.func72.trans (congrArg some (by kernel_rfl))
 f49:=⟨Try.f73.name,by decide,Try.func73.trans (congrArg some (by kernel_rfl))⟩
 f50:=⟨Try.f74.name,by decide,Try.func74.trans (congrArg some (by kernel_rfl))⟩
 f57:=⟨Try.f90.name,by decide,Try.func90.trans (congrArg some (by kernel_rfl))⟩
 t0:=Try.underlying0
 a0:=Try.isAgg0
 z0:=Try.sizeOf0
 v0:=Try.zeroValue0
 t3:=Try.underlying3
 a3:=Try.isAgg3
 z3:=Try.sizeOf3
 v3:=Try.zeroValue3
 t4:=Try.underlying4
 a4:=Try.isAgg4
 z4:=Try.sizeOf4
 v4:=Try.zeroValue4
 t5:=Try.underlying5
 a5:=Try.isAgg5
 z5:=Try.sizeOf5
 v5:=Try.zeroValue5
 t9:=Try.underlying9
 a9:=Try.isAgg9
 z9:=Try.sizeOf9
 v9:=Try.zeroValue9
 t22:=Try.underlying37
 a22:=Try.isAgg37
 z22:=Try.sizeOf37
 v22:=Try.zeroValue37
 a24:=Try.isAgg3
 z24:=Try.sizeOf3
 t25:=Try.underlying62
 a25:=Try.isAgg62
 z25:=Try.sizeOf62
 v25:=Try.zeroValue62
 t39:=Try.underlying79
 a39:=Try.isAgg79
 z39:=Try.sizeOf79
 v39:=Try.zeroValue79
 t45:=Try.underlying92
 a45:=Try.isAgg92
 z45:=Try.sizeOf92
 v45:=Try.zeroValue92
 t46:=Try.underlying93
 a46:=Try.isAgg93
 z46:=Try.sizeOf93
 v46:=Try.zeroValue93
 t50:=Try.underlying97
 a50:=Try.isAgg97
 z50:=Try.sizeOf97
 v50:=Try.zeroValue97
 t53:=Try.underlying100
 a53:=Try.isAgg100
 z53:=Try.sizeOf100
 v53:=Try.zeroValue100
 t55:=Try.underlying102
 a55:=Try.isAgg102
 z55:=Try.sizeOf102
 v55:=Try.zeroValue102
 t66:=Try.underlying126
 a66:=Try.isAgg126
 z66:=Try.sizeOf126
 v66:=Try.zeroValue126
 t70:=Try.underlying130
 a70:=Try.isAgg130
 z70:=Try.sizeOf130
 v70:=Try.zeroValue130
 t76:=Try.underlying142
 a76:=Try.isAgg142
 z76:=Try.sizeOf142
 v76:=Try.zeroValue142
 t77:=Try.underlying143
 a77:=Try.isAgg143
 z77:=Try.sizeOf143
 v77:=Try.zeroValue143 }
end Go.Proofs
namespace Go.Proofs
open Go Go.Lib Go.RowKit Go.Proofs.Ytobihfefmlgaoaa.Av
set_option maxHeartbeats 2000000
set_option maxRecDepth 100000
theorem Try.isnan_c (a:ByteArray) (w:World):Calls Try.prog 57 #[.string a] w fun e w'=>e=.returned (.bool false)/\w'=w:=by
 go_enter Try.func57,Try.ntmps57
 go_wp2
 go_ret
 exact ⟨by simp,rfl⟩
theorem Try.cmps_c (a b:ByteArray) (w:World):Calls Try.prog 34 #[.string a,.string b] w fun e w'=>e=.returned (.int .i64 (if Op.bytesLess a.toList b.toList then -1 else if Op.bytesLess b.toList a.toList then 1 else 0))/\w'=w:=by
 have h1:=fun s W=>Try.isnan_c s W
 obtain ⟨p,hp⟩:=Fq (Op.bytesLess a.toList b.toList);obtain ⟨q,hq⟩:=Fq (Op.bytesLess b.toList a.toList);rw [hp,hq];have ht:p=false->q=false->a.toList=b.toList:=fun e1 e2=>by
  rw [e1,bytesLess_eq,decide_eq_false_iff_not] at hp;rw [e2,bytesLess_eq,decide_eq_false_iff_not] at hq;exact B8 hp hq
 cases p<;>cases q
 all_goals
  go_enter Try.func34,Try.ntmps34
  go_wp2_with (go_at_call 57;refine (h1 _ _).mono ?_;rintro e w' ⟨rfl,rfl⟩)
 all_goals (go_ret;first|exact ⟨rfl,rfl⟩|(exfalso;simp_all;done))
theorem Try.cmpn_c (x:List (List UInt8)) (y:List (List UInt8)) (b1 o1 c b2 o2 d:Nat) (w:World) (hb1:x.length<=1100000) (hb2:y.length<=1100000) (hc1:∀ j,j<x.length->w.cell? ⟨b1,o1+j,none⟩=some (.string ⟨⟨x.getD j []⟩⟩)) (hc2:∀ j,j<y.length->w.cell? ⟨b2,o2+j,none⟩=some (.string ⟨⟨y.getD j []⟩⟩)) :
  Calls Try.prog 23 #[.slice (some ⟨b1,o1,none⟩) x.length c,.slice (some ⟨b2,o2,none⟩) y.length d] w fun e w'=>e=.returned (.int .i64 (cpP x y))/\w'=w:=by
 have h1:=fun a b W=>Try.cmps_c a b W
 go_enter Try.func23,Try.ntmps23
 go_wp2
 go_loopg [11] x.length (fun g s11 wr=>∃ k:Nat,k<=x.length/\k<=y.length/\x.length - k<=g/\s11=.int .i64 k/\wr=w/\cpP (x.drop k) (y.drop k)=cpP x y)
 case atStart=>exact ⟨0,FW _,FW _,by omega,rfl,rfl,rfl⟩
 case round =>
  obtain ⟨k,hk,hky,hg,rfl,rfl,heq⟩:=hrel;by_cases hlt:k<x.length
  ·have d1:x.drop k=x.getD k []::x.drop (k+1):=by rw [GZ hlt];simp [hlt]
   have g1:=hc1 k hlt;rw [d1] at heq;obtain ⟨s,hs⟩:=Fq (x.getD k []);rw [hs] at g1 heq;by_cases hly:k<y.length
   ·have d2:y.drop k=y.getD k []::y.drop (k+1):=by rw [GZ hly];simp [hly]
    have g2:=hc2 k hly;rw [d2] at heq;obtain ⟨t,ht⟩:=Fq (y.getD k []);rw [ht] at g2 heq;have hcon:=h1 ⟨⟨s⟩⟩ ⟨⟨t⟩⟩ wr;rw [cpP] at heq;obtain ⟨z,hz⟩:=Fq (cpS s t);rw [show (if Op.bytesLess (ByteArray.mk ⟨s⟩).toList (ByteArray.mk ⟨t⟩).toList then (-1:Int) else if Op.bytesLess (ByteArray.mk ⟨t⟩).toList (ByteArray.mk ⟨s⟩).toList then 1 else 0)=z from by rw [HK,HK,<- hz,bytesLess_eq,bytesLess_eq];simp [cpS]] at hcon;rw [hz] at heq;have A:Aside (cpP x y=if z≠0 then z else cpP (x.drop (k+1)) (y.drop (k+1))):=heq.symm;clear heq hc1 hc2 d1 d2 hs ht hz h1;by_cases hz0:z=0
    ·subst hz0
     go_wp2_with (go_at_call 34;refine hcon.mono ?_;rintro e w' ⟨rfl,rfl⟩)
     go_roundg (x.length - (k+1))
     case measure=>omega
     case rel=>exact ⟨k+1,by omega,by omega,by omega,by go_num,rfl,by have:=A.out;simp only [ne_eq,not_true_eq_false,if_false] at this;exact this.symm⟩
    ·go_wp2_with (go_at_call 34;refine hcon.mono ?_;rintro e w' ⟨rfl,rfl⟩)
     all_goals go_ret
     have:=A.out;rw [if_pos hz0] at this;exact ⟨by rw [this];rfl,rfl⟩
   ·have A:Aside (cpP x y=1):=by
     show cpP x y=1
     rw [HI (l:=y) (by omega),cpP] at heq;exact heq.symm
    clear heq hc1 hc2 d1 hs h1
    go_wp2
    go_ret
    exact ⟨by rw [A.out];rfl,rfl⟩
  ·have hkx:k=x.length:=by omega
   have A:Aside (cpP x y=if x.length<y.length then -1 else 0):=by
    show cpP x y=if x.length<y.length then -1 else 0
    rw [HI (l:=x) (by omega)] at heq;by_cases hly:k<y.length
    ·rw [GZ hly,cpP] at heq;rw [if_pos (by omega)];exact heq.symm
    ·rw [HI (l:=y) (by omega),cpP] at heq;rw [if_neg (by omega)];exact heq.symm
   subst hkx;clear heq hc1 hc2 h1;by_cases hl:x.length<y.length
   ·go_wp2
    all_goals (go_ret;first|exact ⟨by rw [A.out,if_pos hl];rfl,rfl⟩|(exfalso;omega))
   ·go_wp2
    all_goals (go_ret;first|exact ⟨by rw [A.out,if_neg hl];rfl,rfl⟩|(exfalso;omega))
theorem Try.scp_c (x y:List (List UInt8)) (a b:Int) (bb bo vb vo mb na oa pa qa ca nb ob pb qb cb:Nat) (W:World)
  (hb1:x.length<=1100000) (hb2:y.length<=1100000)
  (e1:W.cell? ⟨bb,bo,none⟩=some (.pointer (some ⟨vb,vo,none⟩)))
  (e2:W.cell? ⟨vb,vo+1,none⟩=some (.map (some mb)))
  (e3:∀ n,(Instr.lookup 46 (.map (some mb)) (.int .i64 a) false).run Try.prog (W.drewN n)=.ok (.pointer (some ⟨na,oa,none⟩)) (W.drewN n))
  (e4:∀ n,(Instr.lookup 46 (.map (some mb)) (.int .i64 b) false).run Try.prog (W.drewN n)=.ok (.pointer (some ⟨nb,ob,none⟩)) (W.drewN n))
  (e5:W.cell? ⟨na,oa+1,none⟩=some (.slice (some ⟨pa,qa,none⟩) x.length ca))
  (e6:W.cell? ⟨nb,ob+1,none⟩=some (.slice (some ⟨pb,qb,none⟩) y.length cb))
  (hc1:∀ j,j<x.length->W.cell? ⟨pa,qa+j,none⟩=some (.string ⟨⟨x.getD j []⟩⟩)) (hc2:∀ j,j<y.length->W.cell? ⟨pb,qb+j,none⟩=some (.string ⟨⟨y.getD j []⟩⟩)) :
  Calls Try.prog 22 #[.int .i64 a,.int .i64 b,.pointer (some ⟨bb,bo,none⟩)] W fun e w'=>e=.returned (.int .i64 (cpP x y))/\∃ q,w'=W.drewN q:=by
 have hcon:=fun n=>Try.cmpn_c x y pa qa ca pb qb cb (W.drewN n) hb1 hb2 hc1 hc2
 generalize cpP x y=r at hcon ⊢;clear hc1 hc2
 go_enter Try.func22,Try.ntmps22
 go_wp2
 go_quiet (exact Calls.quiet_of_same (hcon _))
 go_wp2
 go_ret
 exact ⟨rfl,_,rfl⟩
end Go.Proofs
