/- Joined texts of the walk, made small by a program. -/
import Derived.Test.YtdnfjhflkkpokaaGreatDoorKk4
import Derived.Test.YtdnfjhflkkpokaaGreatDoorKk5
import Derived.Test.YtdnfjhflkkpokaaGreatDoorKk9
import Derived.Test.YtdnfjhflkkpokaaGreatDoorKk8
import Derived.Test.YtdnfjhflkkpokaaGreatDoorKk6
import Derived.Shelf.Strings.Builder1
import Derived.Shelf.Strings.Builder2
import Derived.Shelf.Strings.OnBuilder
import Derived.Shelf.Small.Bits
import Derived.Shelf.Small.Strs
import Derived.Shelf.Strconv.Itoa0
import Derived.Shelf.Strconv.Itoa1
import Derived.Shelf.LaysM
import Derived.Shelf.Strconv.Itoa2
import Derived.Shelf.Strconv.Itoa3
import Derived.Shelf.Strconv.Itoa4
import Derived.Shelf.Strconv.ParseIntEmpty
import Derived.Shelf.Strconv.Clone
import Derived.Shelf.Strconv.SyntaxError
import Derived.Shelf.LaysC
import Derived.Shelf.Strconv.ToError
import Derived.Shelf.Strconv.Lower
import Derived.Shelf.Strconv.ParseUint10
import Derived.Shelf.Strconv.ParseUint10Empty
import Derived.Shelf.Strconv.ParseUint10Any
import Derived.Shelf.Strconv.ParseInt10
import Derived.Shelf.Strconv.RangeError
import Derived.Shelf.Strconv.ToErrorRange
import Derived.Shelf.Strconv.ParseUintEmpty
import Derived.Shelf.Strconv.ParseUint10b64
import Derived.Shelf.Strconv.ParseUint10b32
import Derived.Shelf.Strconv.ParseUint10b16
import Derived.Shelf.Strconv.ParseUint10b8
import Derived.Shelf.Strconv.ParseUint10At
import Derived.Shelf.Strconv.ParseInt10At64
import Derived.Shelf.Strconv.ParseInt10At32
import Derived.Shelf.Strconv.ParseInt10At16
import Derived.Shelf.Strconv.ParseInt10At8
import Derived.Shelf.Strconv.ParseInt10All
import Derived.Shelf.Strconv.ParseIntPublic10
import Derived.Shelf.Strconv.ErrVarParseInt
import Derived.Shelf.Strings.Search1
import Derived.Shelf.Strings.Search2
import Derived.Shelf.Strings.Search3
import Derived.Shelf.Strings.Cut
import Derived.Shelf.Strings.Shaped
import Derived.Shelf.Sort.Plain
import Derived.Shelf.GgClosure.StringsIndexFunc
import Derived.Ground.GgwProg
import Derived.Shelf.GgClosure.StringsIndexFuncTop
import Derived.Shelf.GgClosure.StringsRunes
import Derived.Shelf.Strings.Prefix
import Derived.Shelf.Slices.Equal
import Derived.Ground.Names2Prog
import Derived.Shelf.Slices.Clone
import Derived.Shelf.Slices.In.SortNone
import Derived.Ground.SlsfProg
import Derived.Shelf.SlSortCmp.Insertion
import Derived.Shelf.SlSortCmp.SiftDown1
import Derived.Shelf.SlSortCmp.HeapSort1
import Derived.Shelf.SlSortCmp.Insertion1
import Derived.Shelf.SlSortCmp.Median1
import Derived.Shelf.SlSortCmp.Pivot1
import Derived.Shelf.SlSortCmp.ReverseRange1
import Derived.Shelf.SlSortCmp.PartialInsertion1
import Derived.Shelf.SlSortCmp.PartitionEqual1
import Derived.Shelf.SlSortCmp.Partition1
import Derived.Shelf.SlSortCmp.Pdq1
import Derived.Shelf.SlSortCmp.Whole1
import Derived.Shelf.SlSortCmp.NoneTotal
import Derived.Test.YtdnfjhflkkpokaaGreatDoorProg
import Derived.WalkKit
import Derived.WalkLawsBesides
import Derived.Deep.QuietTactic
import Derived.Deep.LoopGhost
import Derived.BigQuiet
import Derived.Lib.Walk
import Derived.Test.YtdnfjhflkkpokaaGreatDoorRows
import Derived.KernelRfl
import Derived.Maps.RangeRun
set_option linter.unusedSimpArgs false
set_option linter.unusedVariables false
namespace Go.Proofs.YtdnfjhflkkpokaaGreatDoor.Av
open Go
section
variable {P:Program}{w0:World}{S0:SB}{N:Nat}{own:Nat->Nat->Nat}{Q:Exit->Tm->List Blk->Prop}{T:Tm}{L:List Blk}
theorem aag{c:Code}{g:Opd}{ps:List Nat}{x y:bq}(hc:aK P N own c=some (.rangeF g ps x y)):
  ∃g0 ps0 ca cb,c=.rangeFunc g0 ps0 ca cb/\bJ g0=some g/\ps0.toList=ps/\aK P N own ca=some x/\aK P N own cb=some y/\x.hasRF=false/\y.hasRF=false/\∀p∈ps,p<N:=by
 cases c
 case rangeFunc g0 ps0 ca cb =>
  simp only[aK]at hc;split at hc<;>try cases hc
  rename_i g1 x1 y1 h1 h2 h3;split at hc<;>cases hc;rename_i hb;simp only[ajv,akb,Array.all_eq_true_iff_forall_mem,decide_eq_true_eq]at hb
  grind
 case region id ops draw =>
  cases draw<;>simp only[aK]at hc
  all_goals
   (repeat' split at hc)
   all_goals (first|(cases hc;done)|(simp only[ajW]at hc;obtain⟨_,_,hc⟩:=hc;cases hc;done)|(simp only[alx]at hc;obtain⟨_,_,hc⟩:=hc;split at hc<;>cases hc;done))
 all_goals
  simp only[aK]at hc
  (repeat' split at hc)
  all_goals (first|(cases hc;done)|(simp only[ajW]at hc;obtain⟨_,_,hc⟩:=hc;cases hc;done))
def NW:List Nat->List AV->Tm->Tm
 |p::ps,a::as',T=>NW ps as' ((p,a)::T)
 |_,_,T=>T
theorem VO{E:Env}:∀(ps:List Nat) (as':List AV) (vs:List Value) (T:Tm) (tm:Array Value),ps.length=as'.length->VRL E as' vs->(∀p∈ps,p<tm.size)->(∀t v,ay T t=some v->VR E v (tm.getD t undef)) ->
  ∀t v,ay (NW ps as' T) t=some v->VR E v (((ps.zip vs).foldl (λtm (p:Nat×Value)=>tm.setIfInBounds p.1 p.2) tm).getD t undef)
 |[],[],vs,T,tm,_,_,_,h,t,v,ht=>by simpa[NW]using h t v (by simpa[NW]using ht)
 |[],_::_,_,_,_,hl,_,_,_,_,_,_=>by simp at hl
 |_::_,[],_,_,_,hl,_,_,_,_,_,_=>by simp at hl
 | p::ps,a::as',vs,T,tm,hl,hv,hp,h,t,v,ht=>by
   obtain⟨x,xs,rfl,h1,h2⟩:=hv;refine VO ps as' xs ((p,a)::T) (tm.setIfInBounds p x) (by simpa using hl) h2 (λq hq=>by simpa using hp q (by simp[hq])) (λt' v' ht'=>?_) t v (by simpa[NW]using ht);simp only[ay]at ht';split at ht'
   .simp_all
   simp_all
theorem aaz(l:List (Nat×Value)):∀tm:Array Value,(l.foldl (λtm (p:Nat×Value)=>tm.setIfInBounds p.1 p.2) tm).size=tm.size:=by
 induction l with
 |nil=>intro tm;rfl
 |cons a l ih=>intro tm;rw[akm,ih];simp
def ajh(i:Nat)(b0 b1:Blk)(K:AV->List Blk->Prop)(e:Exit)(T:Tm)(L:List Blk):Prop:=e=.normal/\L[i]?=some b0/\K (.bool true) (L.set i b1)
theorem X9{i:Nat}{fn:FuncId}{ps:List Nat}{ca cb:Code}{args:List AV}{K:AV->List Blk->Prop}{x y:bq}(hL:L[i]?=some (.lrec T N fn ps ca cb false))(hx:aK P N own ca=some x.raw)(hy:aK P N own cb=some y.raw)(hfx:x.hasRF=false)(hfy:y.hasRF=false)(hlen:ps.length=args.length)(hps:∀p∈ps,p<N)(h:AW P N own x (Zw (λT1 L1=>L1[i]?=some (.lrec T N fn ps ca cb false)/\AW P N own y (ajh i (.lrec T N fn ps ca cb true) (.lrec T N fn ps ca cb false) K) T1 (L1.set i (.lrec T N fn ps ca cb true))) (λ_ _ _=>False)) (NW ps args T) L):Wo P i args L K:=by
 intro w0 S0 E w vs hR hv c hc;have hB:=hR.blk i _ hL;obtain⟨c',D,tm,h1,h2,h3,h4,h5⟩:=hB;rw[hc]at h1;cases h1;have hvl:=hv.length;have hyd:=run_yield (P:=P) (args:=⟨vs⟩) h2 (by simp[hvl,hlen]);refine⟨fn,_,ca,cb,hyd,roundIn_of_wpIn (F:=fM none) (n:=0) trivial ?_⟩;have hst:St w ⟨Ro E L,w.heap.size⟩ N E (NW ps args T) L {tmps:=((⟨ps⟩:Array Tmp).zip ⟨vs⟩).foldl (λtmps (t,a)=>tmps.setIfInBounds t a) tm,defers:=[]} w:=by
  have e:((⟨ps⟩:Array Tmp).zip ⟨vs⟩).foldl (λtmps (t,a)=>tmps.setIfInBounds t a) tm=(ps.zip vs).foldl (λtm (p:Nat×Value)=>tm.setIfInBounds p.1 p.2) tm:=by simp
  refine⟨hR.enter _,λt v ht=>?_,?_,Zy.nil (ajs _)⟩;simp only[e];exact VO ps args vs T tm hlen hv (λp hp=>by rw[h4];exact hps p hp) h5 t v ht;simp only[e];rw[aaz];exact h4
 refine wpIn_mono (h ca hx (some c.blk) (λe=>by rw[hfx]at e;cases e) w _ E _ w hst) λe a1 wA ⟨w1,S1,E1,T1,L1,b1,le1,q1,st1⟩=>?_
 cases e
 case normal =>
  obtain⟨hL1,hAW⟩:=q1;have hc1:=le1.loc _ _ hc;have hB1:=st1.1.blk i _ hL1;obtain⟨c1,D1,tm1,k1,k2,k3,k4,k5⟩:=hB1;rw[hc1]at k1;cases k1;have hlt1:c.blk<wA.heap.size:=(akf.1 k2).1;refine⟨_,run_beginRound k2 rfl,?_⟩;have st2:St w1 S1 N E1 T1 (L1.set i (.lrec T N fn ps ca cb true)) a1 (wA.putObj c.blk (.loop {state:=.busy,pending:=none,fn:=fn,tmps:=tm1,params:=⟨ps⟩,assign:=ca,body:=cb,defers:=D1})):=by refine⟨st1.1.turn hL1 rfl hc1 amN (λb hb=>al3 hb) rfl rfl rfl ⟨c,D1,tm1,hc1,by rw[World.putObj_heap_same hlt1];rfl,k3,k4,k5⟩ (λ_ _ e=>by cases e),st1.2⟩
  refine wpIn_mono (hAW cb hy (some c.blk) (λe=>by rw[hfy]at e;cases e) w1 S1 E1 a1 _ st2) λe a2 w4 ⟨w3,S3,E3,T2,L2,b3,le3,q3,st3⟩=>?_
  obtain⟨rfl,hL2,hK⟩:=q3;have hc3:=le3.loc _ _ hc1;have hB3:=st3.1.blk i _ hL2;obtain⟨c3,D3,tm3,m1,m2,m3,m4,m5⟩:=hB3;rw[hc3]at m1;cases m1;have hlt3:c.blk<w4.heap.size:=(akf.1 m2).1;refine⟨_,_,run_endRound none m2,E3,_,.bool true,_,rfl,le1.trans le3,hK,rfl,hR.back ((b1.trans b3).rel ?_)⟩;exact st3.1.turn hL2 rfl hc3 amN (λb hb=>al3 hb) rfl rfl rfl ⟨c,D3,tm3,hc3,by rw[World.putObj_heap_same hlt3];simp,m3,m4,m5⟩ (λ_ _ e=>by cases e)
 all_goals exact q1
theorem R6{g:Opd}{ps:List Nat}{x y:bq}{f:FuncId}{caps:List AV}(he:∀args w,(callFunc f args).run P w=.ok (.enter f args) w)(hg:evX T g=some (.func f caps))(h:∀fn ca cb,aK P N own ca=some x.raw->aK P N own cb=some y.raw->x.hasRF=false->y.hasRF=false->(∀p∈ps,p<N) ->
   af P f (.yld L.length::caps) (L++[.lrec T N fn ps ca cb false]) λ_ L'=>L'[L.length]?=some (.lrec T N fn ps ca cb false)/\Q .normal T (L'.set L.length .dead)):
  AW P N own (.rangeF g ps x y) Q T L:=λc hc r hr w0 S0 E a w hst=>by
 obtain⟨g0,ps0,ca,cb,rfl,hg0,hps0,hca,hcb,hfx,hfy,hps⟩:=aag hc;rw[bq.hasRF_raw]at hfx hfy;have hrn:r=none:=hr rfl;subst hrn;obtain⟨hR,hT,hN,hMk⟩:=hst;have hgv:=ao hg0 hg hT;simp only[VR]at hgv;obtain⟨lb,hgv,hlb⟩:=hgv;refine wpIn_rangeFunc λfn _=>?_
 have ha:∀(v:World) (o:Obj),(v.alloc o)={v with heap:=v.heap.push o}:=λ_ _=>rfl
 have hR0:Rel w0 S0 E L {w with heap:=w.heap.push (.deferred (some []))}:=hR.grown ⟨λb hb=>by show(w.heap.push _)[b]?=_;rw[akU hb,<- akq hb],amN,rfl,rfl,rfl⟩
 obtain⟨rec,hrec⟩:∃rec:Loop,rec={state:=.ready,pending:=none,fn,tmps:=a.tmps,params:=ps0,assign:=ca,body:=cb,defers:=w.heap.size}:=⟨_,rfl⟩;obtain⟨E1,hE1⟩:∃E1:Env,E1={E with loc:=λi=>if i=L.length then some ⟨w.heap.size+1,0,0⟩else E.loc i}:=⟨_,rfl⟩;have hl1:E1.loc L.length=some ⟨w.heap.size+1,0,0⟩:=by rw[hE1];simp
 have leE:E.le E1:=⟨λ_ _ _ x=>by rw[hE1];exact x,λi c x=>by rw[hE1];show(if i=L.length then _ else E.loc i)=_;rw[if_neg (λe=>by rw[hR.fresh i amM]at x;cases x)];exact x,λi t x=>⟨t,by rw[hE1];exact x,.inl rfl⟩⟩
 obtain⟨le1,hR1⟩:=hR0.push (.loop rec) (.lrec T N fn ps ca cb false) ⟨w.heap.size+1,0,0⟩ amN rfl (by rw[<- hE1];refine⟨⟨w.heap.size+1,0,0⟩,w.heap.size,a.tmps,hl1,?_,rfl,hN,λt v hv=>VR.mono leE _ _ (hT t v hv)⟩;show((w.heap.push _).push _)[w.heap.size+1]?=_;rw[Array.getElem?_push,if_pos amN,hrec,<- hps0];rfl)
 rw[<- hE1]at le1 hR1;obtain⟨W1,hW1⟩:∃W1:World,W1={({w with heap:=w.heap.push (.deferred (some []))}:World)with heap:=(w.heap.push (.deferred (some []))).push (.loop rec)}:=⟨_,rfl⟩;rw[<- hW1]at hR1;have hWs:W1.heap.size=w.heap.size+2:=by rw[hW1];simp
 have hWl:W1.heap[w.heap.size+1]?=some (.loop rec):=by rw[hW1];show((w.heap.push _).push _)[w.heap.size+1]?=_;rw[Array.getElem?_push,if_pos amN]
 have hWd:W1.heap[w.heap.size]?=some (.deferred (some [])):=by rw[hW1];show((w.heap.push _).push _)[w.heap.size]?=_;rw[akU amN];simp
 have hcall:=h fn ca cb hca hcb hfx hfy hps W1 ⟨Ro E1 (L++[.lrec T N fn ps ca cb false]),S0.B⟩ E1 W1 (.func (.yield (w.heap.size+1)) #[] #[]::lb) (hR1.enter _) ⟨_,lb,rfl,⟨_,hl1,rfl⟩,VRL.mono le1 _ _ hlb⟩;have hnoD:¬Ro E1 (L++[.lrec T N fn ps ca cb false]) w.heap.size:=by
  rintro(⟨i,k,c,h1,h2,h3,h4⟩|⟨i,n,sz,t,k,h1,h2,h3,h4⟩);by_cases hi:i=L.length;subst hi;rw[hl1]at h3;cases h3;simp at h4;have hi':i<L.length:=(by have:=(ajr.1 h1).1;simp at this;omega);rw[ajw hi']at h1;have h3':E.loc i=some c:=(by rw[hE1]at h3;simpa[hi]using h3);obtain⟨c',o,g1,g2⟩:=(hR.blk i k h1).loc h2;rw[h3']at g1;cases g1;rw[h4]at g2;have:=(akf.1 g2).1;omega;have hi':i<L.length:=by rcases ajT i L.length with h5|h5;exact h5;rw[ajG h5]at h1;rcases akM (i-L.length)with h6|h6;rw[h6]at h1;cases h1;rw[alt (by simp;omega)]at h1;cases h1
  rw[ajw hi']at h1;have hb:=hR.blk i _ h1;simp only[bS]at hb;obtain⟨t',g1,_,_,g2⟩:=hb;have h2':E.tok i=some t:=(by rw[hE1]at h2;exact h2);rw[h2']at g1;cases g1;obtain⟨cs,ty,fr,g3,_⟩:=g2 k h3;rw[h4]at g3;have:=(akf.1 g3).1;omega
 refine⟨w.heap.size+1,[mkD w.heap.size],W1,{target:=.fn (.func f) ⟨lb⟩,args:=#[.func (.yield (w.heap.size+1)) #[] #[]]},W1,f,#[.func (.yield (w.heap.size+1)) #[] #[]]++⟨lb⟩,W1,?_,?_,λ_ _=>trivial,?_,λe=>(by cases e),?_⟩;have:=run_enterLoop_outer (P:=P) (w:=w) fn a.tmps ps0 ca cb;rw[ha,ha]at this;rw[hW1,hrec];exact this;simp only[resolve,hgv];simp[go_sem];simp[invoke,go_sem,he];rcases hcall with⟨_,hcalls⟩|⟨_,_,_,_,_,hv2,_⟩;refine Vx none _ ?_;have e:(#[Value.func (.yield (w.heap.size+1)) #[] #[]]++(⟨lb⟩:Array Value))=⟨.func (.yield (w.heap.size+1)) #[] #[]::lb⟩:=by apply Array.ext';simp
 rw[e];refine hcalls.mono λen w3 ⟨E3,v,av,L3,e1,le3,⟨hL3,hQ⟩,_,hR3⟩=>?_
 subst e1;have hl3:=le3.loc _ _ hl1;have hB3:=hR3.blk _ _ hL3;simp only[bS,ajK,if_false]at hB3;obtain⟨c3,D3,tm3,m1,m2,m3,m4,m5⟩:=hB3;rw[hl3]at m1;cases m1;have hlt3:w.heap.size+1<w3.heap.size:=(akf.1 m2).1;have hR4:=hR3.turn hL3 rfl hl3 (k':=.dead) (w':=w3.putObj (w.heap.size+1) (.loop {state:=.exhausted,pending:=none,fn:=fn,tmps:=tm3,params:=⟨ps⟩,assign:=ca,body:=cb,defers:=D3})) amN (λb hb=>al3 hb) rfl rfl rfl trivial (λ_ _ e=>by cases e);have hbs:Bs w0 S0 W1 ⟨Ro E1 (L++[.lrec T N fn ps ca cb false]),S0.B⟩:=hR1.bs;refine⟨none,_,run_endLoop m2 amN,W1,⟨Ro E1 (L++[.lrec T N fn ps ca cb false]),S0.B⟩,E3,T,_,hbs,le1.trans le3,hQ,hR4,(hT.mono le1).mono le3,hN,?_⟩;have hM:=hMk.bs hbs;refine⟨hM.1,akP.2 ⟨λhm=>?_,hM.2.1⟩,λd hd=>?_⟩;obtain⟨D,g1,_,g2,_⟩:=hMk.2.2 _ hm;have:w.heap.size=D:=by injection g1 with g1 _;injection g1
 have:=hR.size;omega;rcases ajM.1 hd with rfl|hd;exact⟨_,rfl,by have:=hMk.1;have:=hR.size;show S0.B<=_;omega,amM,hnoD,hWd⟩;exact hM.2.2 d hd;rw[he]at hv2;cases hv2
end
variable {L:List Blk}{K:ajq}
set_option maxHeartbeats 8000000
set_option maxRecDepth 100000
theorem agJ{rows:List AV}{cap:Option Nat}{i j:Nat}(hn:rows.length<=1100000){Inv:Nat->List Blk->Prop}{L:List Blk}{K:ajq}(hj:∀k L',Inv k L'->L'[j]?=some (.cells [.sl rows rows.length cap])/\L.length<=L'.length)(h0:Inv rows.length L)(hs:∀k L' (Q:AV->List Blk->Prop),k<rows.length->Inv (k+1) L'->(∀L'',Inv k L''->Q (.bool true) L'')->Wo Tryz.prog i [.int .i64 (k:Int),rows.getD k .undef] L' Q)(hK:∀L',Inv 0 L'->Fin L (.tup []) L' K):
  ajp 206 [.yld i,.ptr j 0] L K:=by
 have e0:=(hj _ _ h0).1;have g0:IntKind.i64.wrap ((rows.length:Int)-1)=(rows.length:Int)-1:=ae amM amM;replace hj:=hid hj;replace hs:=hid hs;replace hK:=hid hK;replace h0:=hid h0;refine ajo gV ?_;refine aq (λn T' L'=>∃(k:Nat) (x:Int),n=k/\k<=rows.length/\Hid (Inv k L')/\x=(k:Int)-1/\T'=[(3,.int .i64 x),(0,.yld i),(1,.ptr j 0)]) (CutS (b:=ajs _)) ⟨rows.length,_,rfl,ajs _,h0,rfl,rfl⟩ ?_;rintro k _ L' ⟨_,x,rfl,hk,hI,hx,rfl⟩;have e1:=(hj.o _ _ hI.o).1;have e2:=(hj.o _ _ hI.o).2;cases k with
 | zero =>
   have hx':x=-1:=amM;subst hx';clear hx;refine wk ?_;exact⟨.inl rfl,True,[],rfl,trivial,hK.o _ hI.o⟩
 | succ k =>
   have hx':x=(k:Int):=amM;subst hx';clear hx;have g1:(0:Int)<=(k:Int):=amM;have g2:IntKind.i64.wrap ((k:Int)-1)=(k:Int)-1:=ae amM amM;have g3:(k:Int)<(rows.length:Int):=amM;have g4:k<rows.length:=hk;refine wk ?_;rw[V1];refine hs.o k L' _ g4 hI.o λL'' h''=>?_
   have e3:=(hj.o _ _ h'').1;have e4:=(hj.o _ _ h'').2;replace h'':=hid h'';clear hI e1 e2;refine amU ?_;exact amR amM (CutL (b:=amM)) ⟨k,_,rfl,amM,hid h''.o,rfl,rfl⟩
theorem agI{rows:List AV}{cap:Option Nat}{i j:Nat}(hn:rows.length<=1100000){Inv:Nat->List Blk->Prop}{L:List Blk}{K:ajq}(hj:∀k L',Inv k L'->L'[j]?=some (.cells [.sl rows rows.length cap])/\L.length<=L'.length)(h0:Inv rows.length L)(hs:∀k L' (Q:AV->List Blk->Prop),k<rows.length->Inv (k+1) L'->(∀L'',Inv k L''->Q (.bool true) L'')->Wo Tryz.prog i [.int .i64 (k:Int),rows.getD k .undef] L' Q)(hK:∀L',Inv 0 L'->Fin L (.tup []) L' K):
  ajp 209 [.yld i,.ptr j 0] L K:=by
 have e0:=(hj _ _ h0).1;have g0:IntKind.i64.wrap ((rows.length:Int)-1)=(rows.length:Int)-1:=ae amM amM;replace hj:=hid hj;replace hs:=hid hs;replace hK:=hid hK;replace h0:=hid h0;refine ajo ie ?_;refine aq (λn T' L'=>∃(k:Nat) (x:Int),n=k/\k<=rows.length/\Hid (Inv k L')/\x=(k:Int)-1/\T'=[(3,.int .i64 x),(0,.yld i),(1,.ptr j 0)]) (CutS (b:=ajs _)) ⟨rows.length,_,rfl,ajs _,h0,rfl,rfl⟩ ?_;rintro k _ L' ⟨_,x,rfl,hk,hI,hx,rfl⟩;have e1:=(hj.o _ _ hI.o).1;have e2:=(hj.o _ _ hI.o).2;cases k with
 | zero =>
   have hx':x=-1:=amM;subst hx';clear hx;refine wk ?_;exact⟨.inl rfl,True,[],rfl,trivial,hK.o _ hI.o⟩
 | succ k =>
   have hx':x=(k:Int):=amM;subst hx';clear hx;have g1:(0:Int)<=(k:Int):=amM;have g2:IntKind.i64.wrap ((k:Int)-1)=(k:Int)-1:=ae amM amM;have g3:(k:Int)<(rows.length:Int):=amM;have g4:k<rows.length:=hk;refine wk ?_;rw[V1];refine hs.o k L' _ g4 hI.o λL'' h''=>?_
   have e3:=(hj.o _ _ h'').1;have e4:=(hj.o _ _ h'').2;replace h'':=hid h'';clear hI e1 e2;refine amU ?_;exact amR amM (CutL (b:=amM)) ⟨k,_,rfl,amM,hid h''.o,rfl,rfl⟩
theorem aiP{rows:List AV}{n:Nat}{cap:Option Nat}(h:K (.func 206 [.ptr L.length 0]) (L++[.cells [.sl rows n cap]])):
  ajp 179 [.sl rows n cap] L K:=by
 replace h:=hid h;refine ajo io ?_;exact ac h.o
theorem aiO{rows:List AV}{n:Nat}{cap:Option Nat}(h:K (.func 209 [.ptr L.length 0]) (L++[.cells [.sl rows n cap]])):
  ajp 185 [.sl rows n cap] L K:=by
 replace h:=hid h;refine ajo iD ?_;exact ac h.o
theorem OkD.one{d:List Rdn}(h:OkD d){r:Rdn}(hr:r∈d):OkD [r]:=by obtain⟨a,b,rfl⟩:=List.append_of_mem hr;have h':OkD (r::b):=OkD.app h;rw[QV]at h'⊢;obtain⟨h1,h2,h3,h4⟩:=h';refine⟨amN,λx hx=>h2 x (by rw[ajI.1 hx];simp),?_,ajU ?_ h4⟩;unfold xr at h3⊢;rw[List.any_cons,alC]at h3;rw[List.any_cons,h3.1];rfl;have e1:=lZ ([r].map (cP false)) 44;have e2:=lZ ((r::b).map (cP false)) 44;rw[if_neg amN]at e1 e2;simp only[ajP,akA,akG,List.sum_nil,ajz,aj9]at e1 e2;unfold aP;simp only[ajP,akA];omega
theorem ahy{d:List Rdn}{cap:Option Nat}(hd:OkD d)(h:K (.sl (aC (NK d).reverse) d.length none) L):
  ajp 125 [.sl (d.map ah) d.length cap] L K:=by
 have hlen:=hd.len;replace h:=hid h;have kk1:Hid (∀{L:List Blk}{K:ajq},K (.func 206 [.ptr L.length 0]) (L++[.cells [.sl (d.map ah) d.length cap]])->ajp 179 [.sl (d.map ah) d.length cap] L K):=@hid _ (by intro L K q;exact aiP q);refine ajo VA ?_;have hl:∀(a b c x y:Blk) (Z:List Blk),(L++([a,b,c]++Z))[(L++[x,y]).length]?=some c:=λa b c x y Z=>by rw[ajG amN];simp
 have hrl:(d.map ah).length=d.length:=ajR _;refine R6 (f:=206) (caps:=[.ptr (L.length+1) 0]) (λargs w=>rfl) rfl (λfn ca cb hca hcb hfx hfy hps=>?_);refine agJ (rows:=d.map ah) (cap:=cap) (Inv:=λk L'=>∃(v:AV) (Z:List Blk),L'=L++([.cells [v],.cells [.sl (d.map ah) d.length cap],.lrec [(9,.func 206 [.ptr (L.length+1) 0]),(3,.ptr L.length 0),(2,.sl [] 0 (some 0)),(0,.sl (d.map ah) d.length cap)] 23 fn [10,11] ca cb false]++Z)/\((k=d.length/\v=.sl [] 0 (some 0))\/∃m,v=.lsl (L.length+3+m) 0 (d.length-k) none 1/\Z[m]?=some (.cells (aC ((NK d).reverse.take (d.length-k)))))) amM ?_ ?_ ?_ ?_;rintro k L' ⟨v,Z,rfl,_⟩;refine⟨?_,amN⟩;rw[hrl,ajG amM];simp;exact⟨.sl [] 0 (some 0),[],amN,.inl ⟨hrl,rfl⟩⟩;rintro k L' Q hk ⟨v,Z,rfl,hv⟩ hQ;rw[hrl]at hk;obtain⟨r,hr⟩:=ajl (d.getD k []);have er:(d.map ah).getD k .undef=.sl (aL r) r.length none:=by rw[kc hk,hr]
 have hrm:r∈d:=by rw[<- hr];simp[hk]
 have ho1:=hd.one hrm;have etk:(NK d).reverse.take (d.length-k)=(NK d).reverse.take (d.length-(k+1))++[cP true r]:=by rw[show d.length-k=d.length-(k+1)+1 by omega,ajN (by rw[akS,aW];omega)];congr 2;rw[List.getElem_reverse];simp only[NK,List.getElem_map,ajR];congr 1;rw[<- hr];simp only[ajO];rw[ajF hk];simp only[aks];congr 1;omega
 obtain⟨s,hs⟩:=ajl (cP true r);rw[hs]at etk;have kk2:Hid (∀{c:Option Nat}{L:List Blk}{K:ajq},K (.tup [.str s,.int .i64 0]) L->ajp 58 [.sl [.sl (aL r) r.length none] 1 c] L K):=@hid _ (by intro c L K q;refine Rz (d:=[r]) ho1.m.b.1 ho1.m.b.2 ?_;rw[eu ho1,show aP true [r]=s from by simp[aP,Lib.join,hs]];exact q)
 rw[er];refine X9 (hl _ _ _ _ _ _) hca hcb hfx hfy rfl hps ?_;simp only[NW];replace hQ:=hid hQ;replace etk:=hid etk;clear hr hrm ho1 hs er hca hcb hfx hfy hps kk1 hl h;have hset:∀(a b c c':Blk) (Z:List Blk),(L++a::b::c::Z).set (L.length+2) c'=L++([a,b,c']++Z):=λa b c c' Z=>by rw[ajZ _ _ amM,show L.length+2-L.length=2 by omega];rfl
 have hget:∀(a b c:Blk) (Z:List Blk),(L++a::b::c::Z)[L.length+2]?=some c:=λa b c Z=>by rw[ajG amM,show L.length+2-L.length=2 by omega];rfl
 replace hset:=hid hset;replace hget:=hid hget;rcases hv with⟨hk0,rfl⟩|⟨m,rfl,hZ⟩;refine wk ?_;refine⟨rfl,hget.o _ _ _ _,?_⟩;rw[hset.o];refine hQ.o _ ⟨_,Z++[.cells [.str s]],rfl,.inr ⟨Z.length,?_,?_⟩⟩;rw[show d.length-k=1 by omega,show L.length+(Z.length+1+1+1)=L.length+3+Z.length by omega];rw[etk.o,show d.length-(k+1)=0 by omega];simp;obtain⟨j,hj⟩:=ajl (d.length-(k+1));obtain⟨C,hC⟩:=ajl (aC ((NK d).reverse.take (d.length-(k+1))));have hCl:C.length=j:=by rw[<- hC,ajR,akH,akS,aW];omega
 have hCt:List.take j C=C:=aj3 amM;rw[hC]at hZ;rw[hj];have hm:m<Z.length:=(ajr.1 hZ).1;have hLZ:∀(a b c:Blk),(L++a::b::c::Z)[L.length+3+m]?=some (.cells C):=λa b c=>by rw[ajG amM,show L.length+3+m-L.length=m+1+1+1 by omega];simpa using hZ
 have hj2:j<=32:=amM;have hds:∀(a b c:Blk),(L++a::b::c::Z).set (L.length+3+m) .dead=L++a::b::c::Z.set m .dead:=λa b c=>by rw[ajZ _ _ amM,show L.length+3+m-L.length=m+1+1+1 by omega];rfl
 refine wk ?_;refine⟨rfl,hget.o _ _ _ _,?_⟩;rw[hset.o];refine hQ.o _ ⟨_,Z.set m .dead++[.cells (C++[.str s])],rfl,.inr ⟨Z.length,?_,?_⟩⟩;rw[show d.length-k=j+1 by omega,show L.length+(Z.length+1+1+1)=L.length+3+Z.length by omega];rw[etk.o,<- hC,ajG amN];simp;have hls:∀(a b c c' x y:Blk) (Z:List Blk),(L++([a,b,c]++Z)).set (L++[x,y]).length c'=L++a::b::c'::Z:=λa b c c' x y Z=>by rw[ajZ _ _ amN,show(L++[x,y]).length-L.length=2 by simp];rfl
 rintro L' ⟨v,Z,rfl,hv⟩;refine ac ⟨hl _ _ _ _ _ _,?_⟩;rw[hls];clear hls hl hca hcb hfx hfy hps kk1;rcases hv with⟨h0,rfl⟩|⟨m,rfl,hZ⟩;have hnil:d=[]:=aj4.1 h0.symm;subst hnil;clear h0 hlen hrl hd;refine wk ?_;refine aJ ?_;rw[show(AV.sl [] 0 (some 0)).frz=.sl (aC (NK []).reverse) ([]:List Rdn).length none from rfl];exact ab rfl h.o;rw[alz,aj3 (by rw[akS,aW];omega)]at hZ;rw[alz];obtain⟨C,hC⟩:=ajl (aC (NK d).reverse);have hCl:C.length=d.length:=by rw[<- hC,ajR,akS,aW]
 rw[hC]at hZ h;have hLZ:∀(a b c:Blk),(L++a::b::c::Z)[L.length+3+m]?=some (.cells C):=λa b c=>by rw[ajG amM,show L.length+3+m-L.length=m+1+1+1 by omega];simpa using hZ
 refine wk ?_;refine JS (i:=L.length+3+m) (l:=C) (hLZ _ _ _) ?_;rw[show(AV.lsl (L.length+3+m) 0 d.length none 1).snap (L.length+3+m) C=.sl C d.length none from by simp[AV.snap,<- hCl],ajZ _ _ amM];exact ab (by rw[<- hC];simp only[AV.refs];exact kb _ _) h.o
theorem xB:∀l:List aA,AV.frzL (aX l)=aX l
 |[]=>rfl
 |x::l=>by have ih:=xB l;unfold aX at ih⊢;rw[aj5];show AV.frzL (.int .i64 x.id::dnA x.nm::atR x.av::l.flatMap Om)=_;simp only[AV.frzL,AV.frz,ih];unfold atR;simp only[AV.frz,aY,dM];rfl
end Go.Proofs.YtdnfjhflkkpokaaGreatDoor.Av
namespace Go.Proofs
open Go.Shelf
def Tryz.srtF_ren:Go.Shelf.Ren:=⟨λ|6=>55|15=>100|14=>99|28=>154|29=>155|20=>146|21=>147|22=>148|23=>149|24=>150|25=>151|26=>152|27=>153|46=>191|47=>192|48=>193|49=>194|50=>195|57=>220|n=>n,λ|22=>75|24=>3|25=>143|3=>3|39=>185|0=>0|53=>229|55=>231|4=>4|46=>223|45=>222|50=>161|5=>5|9=>9|66=>273|70=>180|76=>292|77=>293|n=>n,λ|n=>n⟩
theorem Tryz.srtF:Go.Proofs.SlLaysF.n6 Tryz.prog Tryz.srtF_ren:={
 mixed:=by kernel_rfl
 f6:=⟨Tryz.f55.name,by decide,Tryz.func55.trans (congrArg some (by kernel_rfl))⟩
 f14:=⟨Tryz.f99.name,by decide,Tryz.func99.trans (congrArg some (by kernel_rfl))⟩
 f15:=Tryz.func100.trans (congrArg some (by kernel_rfl))
 f20:=⟨Tryz.f146.name,by decide,Tryz.func146.trans (congrArg some (by kernel_rfl))⟩
 f21:=⟨Tryz.f147.name,by decide,Tryz.func147.trans (congrArg some (by kernel_rfl))⟩
 f22:=⟨Tryz.f148.name,by decide,Tryz.func148.trans (congrArg some (by kernel_rfl))⟩
 f23:=⟨Tryz.f149.name,by decide,Tryz.func149.trans (congrArg some (by kernel_rfl))⟩
 f24:=⟨Tryz.f150.name,by decide,Tryz.func150.trans (congrArg some (by kernel_rfl))⟩
 f25:=⟨Tryz.f151.name,by decide,Tryz.func151.trans (congrArg some (by kernel_rfl))⟩
 f26:=⟨Tryz.f152.name,by decide,Tryz.func152.trans (congrArg some (by kernel_rfl))⟩
 f27:=⟨Tryz.f153.name,by decide,Tryz.func153.trans (congrArg some (by kernel_rfl))⟩
 f28:=Tryz.func154.trans (congrArg some (by kernel_rfl))
 f29:=Tryz.func155.trans (congrArg some (by kernel_rfl))
 f46:=⟨Tryz.f191.name,by decide,Tryz.func191.trans (congrArg some (by kernel_rfl))⟩
 f47:=Tryz.func192.trans (congrArg some (by kernel_rfl))
 f48:=Tryz.func193.trans (congrArg some (by kernel_rfl))
 f49:=⟨Tryz.f194.name,by decide,Tryz.func194.trans (congrArg some (by kernel_rfl))⟩
 f50:=⟨Tryz.f195.name,by decide,Tryz.func195.trans (congrArg some (by kernel_rfl))⟩
 f57:=⟨Tryz.f220.name,by decide,Tryz.func220.trans (congrArg some (by kernel_rfl))⟩
 t0:=Tryz.underlying0
 a0:=Tryz.isAgg0
 z0:=Tryz.sizeOf0
 v0:=Tryz.zeroValue0
 t3:=Tryz.underlying3
 a3:=Tryz.isAgg3
 z3:=Tryz.sizeOf3
 v3:=Tryz.zeroValue3
 t4:=Tryz.underlying4
 a4:=Tryz.isAgg4
 z4:=Tryz.sizeOf4
 v4:=Tryz.zeroValue4
 t5:=Tryz.underlying5
 a5:=Tryz.isAgg5
 z5:=Tryz.sizeOf5
 v5:=Tryz.zeroValue5
 t9:=Tryz.underlying9
 a9:=Tryz.isAgg9
 z9:=Tryz.sizeOf9
 v9:=Tryz.zeroValue9
 t22:=Tryz.underlying75
 a22:=Tryz.isAgg75
 z22:=Tryz.sizeOf75
 v22:=Tryz.zeroValue75
 a24:=Tryz.isAgg3
 z24:=Tryz.sizeOf3
 t25:=Tryz.underlying143
 a25:=Tryz.isAgg143
 z25:=Tryz.sizeOf143
 v25:=Tryz.zeroValue143
 t39:=Tryz.underlying185
 a39:=Tryz.isAgg185
 z39:=Tryz.sizeOf185
 v39:=Tryz.zeroValue185
 t45:=Tryz.underlying222
 a45:=Tryz.isAgg222
 z45:=Tryz.sizeOf222
 v45:=Tryz.zeroValue222
 t46:=Tryz.underlying223
 a46:=Tryz.isAgg223
 z46:=Tryz.sizeOf223
 v46:=Tryz.zeroValue223
 t50:=Tryz.underlying161
 a50:=Tryz.isAgg161
 z50:=Tryz.sizeOf161
 v50:=Tryz.zeroValue161
 t53:=Tryz.underlying229
 a53:=Tryz.isAgg229
 z53:=Tryz.sizeOf229
 v53:=Tryz.zeroValue229
 t55:=Tryz.underlying231
 a55:=Tryz.isAgg231
 z55:=Tryz.sizeOf231
 v55:=Tryz.zeroValue231
 t66:=Tryz.underlying273
 a66:=Tryz.isAgg273
 z66:=Tryz.sizeOf273
 v66:=Tryz.zeroValue273
 t70:=Tryz.underlying180
 a70:=Tryz.isAgg180
 z70:=Tryz.sizeOf180
 v70:=Tryz.zeroValue180
 t76:=Tryz.underlying292
 a76:=Tryz.isAgg292
 z76:=Tryz.sizeOf292
 v76:=Tryz.zeroValue292
 t77:=Tryz.underlying293
 a77:=Tryz.isAgg293
 z77:=Tryz.sizeOf293
 v77:=Tryz.zeroValue293}
end Go.Proofs
namespace Go.Proofs
open Go Go.Lib Go.RowKit Go.Proofs.YtdnfjhflkkpokaaGreatDoor.Av
set_option maxHeartbeats 2000000
set_option maxRecDepth 100000
theorem Tryz.isnan_c(a:ByteArray)(w:World):Calls Tryz.prog 156 #[.string a] w λe w'=>e=.returned (.bool false)/\w'=w:=by
 go_enter Tryz.func156,Tryz.ntmps156
 go_wp2
 go_ret
 exact⟨amN,rfl⟩
theorem Tryz.cmps_c(a b:ByteArray)(w:World):Calls Tryz.prog 101 #[.string a,.string b] w λe w'=>e=.returned (.int .i64 (if Op.bytesLess a.toList b.toList then -1 else if Op.bytesLess b.toList a.toList then 1 else 0))/\w'=w:=by
 have h1:=λs W=>Tryz.isnan_c s W
 obtain⟨p,hp⟩:=ajl (Op.bytesLess a.toList b.toList);obtain⟨q,hq⟩:=ajl (Op.bytesLess b.toList a.toList);rw[hp,hq];have ht:p=false->q=false->a.toList=b.toList:=λe1 e2=>by rw[e1,bytesLess_eq,decide_eq_false_iff_not]at hp;rw[e2,bytesLess_eq,decide_eq_false_iff_not]at hq;exact aeV hp hq
 cases p<;>cases q
 all_goals
  go_enter Tryz.func101,Tryz.ntmps101
  go_wp2_with (go_at_call 156;refine(h1 _ _).mono ?_;rintro e w' ⟨rfl,rfl⟩)
 all_goals (go_ret;first|exact⟨rfl,rfl⟩|(exfalso;simp_all;done))
theorem Tryz.cmpn_c(x:List (List UInt8))(y:List (List UInt8))(b1 o1 c b2 o2 d:Nat)(w:World)(hb1:x.length<=1100000)(hb2:y.length<=1100000)(hc1:∀j,j<x.length->w.cell? ⟨b1,o1+j,none⟩=some (.string ⟨⟨x.getD j []⟩⟩))(hc2:∀j,j<y.length->w.cell? ⟨b2,o2+j,none⟩=some (.string ⟨⟨y.getD j []⟩⟩)):
  Calls Tryz.prog 57 #[.slice (some ⟨b1,o1,none⟩) x.length c,.slice (some ⟨b2,o2,none⟩) y.length d] w λe w'=>e=.returned (.int .i64 (cpP x y))/\w'=w:=by
 have h1:=λa b W=>Tryz.cmps_c a b W
 go_enter Tryz.func57,Tryz.ntmps57
 go_wp2
 go_loopg [11] x.length (λg s11 wr=>∃k:Nat,k<=x.length/\k<=y.length/\x.length-k<=g/\s11=.int .i64 k/\wr=w/\cpP (x.drop k) (y.drop k)=cpP x y)
 case atStart=>exact⟨0,aju _,aju _,amM,rfl,rfl,rfl⟩
 case round =>
  obtain⟨k,hk,hky,hg,rfl,rfl,heq⟩:=hrel;by_cases hlt:k<x.length
  .have d1:x.drop k=x.getD k []::x.drop (k+1):=(by rw[ajY hlt];simp[hlt]);have g1:=hc1 k hlt;rw[d1]at heq;obtain⟨s,hs⟩:=ajl (x.getD k []);rw[hs]at g1 heq;by_cases hly:k<y.length
   .have d2:y.drop k=y.getD k []::y.drop (k+1):=(by rw[ajY hly];simp[hly]);have g2:=hc2 k hly;rw[d2]at heq;obtain⟨t,ht⟩:=ajl (y.getD k []);rw[ht]at g2 heq;have hcon:=h1 ⟨⟨s⟩⟩ ⟨⟨t⟩⟩ wr;rw[cpP]at heq;obtain⟨z,hz⟩:=ajl (cpS s t);rw[show(if Op.bytesLess (ByteArray.mk ⟨s⟩).toList (ByteArray.mk ⟨t⟩).toList then(-1:Int)else if Op.bytesLess (ByteArray.mk ⟨t⟩).toList (ByteArray.mk ⟨s⟩).toList then 1 else 0)=z from by rw[amk,amk,<- hz,bytesLess_eq,bytesLess_eq];simp[cpS]]at hcon;rw[hz]at heq;have A:Aside (cpP x y=if z≠0 then z else cpP (x.drop (k+1)) (y.drop (k+1))):=heq.symm;clear heq hc1 hc2 d1 d2 hs ht hz h1;by_cases hz0:z=0
    .subst hz0
     go_wp2_with (go_at_call 101;refine hcon.mono ?_;rintro e w' ⟨rfl,rfl⟩)
     go_roundg (x.length-(k+1))
     case measure=>omega
     case rel=>exact⟨k+1,amM,amM,amM,by go_num,rfl,by have:=A.out;simp only[ne_eq,not_true_eq_false,if_false]at this;exact this.symm⟩
    .go_wp2_with (go_at_call 101;refine hcon.mono ?_;rintro e w' ⟨rfl,rfl⟩)
     all_goals go_ret
     have:=A.out;rw[if_pos hz0]at this;exact⟨by rw[this];rfl,rfl⟩
   .have A:Aside (cpP x y=1):=by show cpP x y=1;rw[ala (l:=y) amM,cpP]at heq;exact heq.symm
    clear heq hc1 hc2 d1 hs h1
    go_wp2
    go_ret
    exact⟨by rw[A.out];rfl,rfl⟩
  .have hkx:k=x.length:=amM;have A:Aside (cpP x y=if x.length<y.length then -1 else 0):=by
    show cpP x y=if x.length<y.length then -1 else 0
    rw[ala (l:=x) amM]at heq;by_cases hly:k<y.length;rw[ajY hly,cpP]at heq;rw[if_pos amM];exact heq.symm;rw[ala (l:=y) amM,cpP]at heq;rw[if_neg amM];exact heq.symm
   subst hkx;clear heq hc1 hc2 h1;by_cases hl:x.length<y.length
   .go_wp2
    all_goals (go_ret;first|exact⟨by rw[A.out,if_pos hl];rfl,rfl⟩|(exfalso;omega))
   .go_wp2
    all_goals (go_ret;first|exact⟨by rw[A.out,if_neg hl];rfl,rfl⟩|(exfalso;omega))
theorem Tryz.scp_c(x y:List (List UInt8))(a b:Int)(bb bo vb vo mb na oa pa qa ca nb ob pb qb cb:Nat)(W:World)(hb1:x.length<=1100000)(hb2:y.length<=1100000)(e1:W.cell? ⟨bb,bo,none⟩=some (.pointer (some ⟨vb,vo,none⟩)))(e2:W.cell? ⟨vb,vo+1,none⟩=some (.map (some mb)))(e3:∀n,(Instr.lookup 134 (.map (some mb)) (.int .i64 a) false).run Tryz.prog (W.drewN n)=.ok (.pointer (some ⟨na,oa,none⟩)) (W.drewN n))(e4:∀n,(Instr.lookup 134 (.map (some mb)) (.int .i64 b) false).run Tryz.prog (W.drewN n)=.ok (.pointer (some ⟨nb,ob,none⟩)) (W.drewN n))(e5:W.cell? ⟨na,oa+1,none⟩=some (.slice (some ⟨pa,qa,none⟩) x.length ca))(e6:W.cell? ⟨nb,ob+1,none⟩=some (.slice (some ⟨pb,qb,none⟩) y.length cb))(hc1:∀j,j<x.length->W.cell? ⟨pa,qa+j,none⟩=some (.string ⟨⟨x.getD j []⟩⟩))(hc2:∀j,j<y.length->W.cell? ⟨pb,qb+j,none⟩=some (.string ⟨⟨y.getD j []⟩⟩)):
  Calls Tryz.prog 56 #[.int .i64 a,.int .i64 b,.pointer (some ⟨bb,bo,none⟩)] W λe w'=>e=.returned (.int .i64 (cpP x y))/\∃q,w'=W.drewN q:=by
 have hcon:=λn=>Tryz.cmpn_c x y pa qa ca pb qb cb (W.drewN n) hb1 hb2 hc1 hc2
 generalize cpP x y=r at hcon⊢;clear hc1 hc2
 go_enter Tryz.func56,Tryz.ntmps56
 go_wp2
 go_quiet (exact Calls.quiet_of_same (hcon _))
 go_wp2
 go_ret
 exact⟨rfl,_,rfl⟩
end Go.Proofs
namespace Go.Proofs
open Go.Shelf Go.Sort Go.RowKit
theorem Tryz.sortF{α:Type}[Inhabited α](enc:α->Value)(h1:OneCell enc)(cf:α->α->Int)(hO:SWO (ltOf cf))(g:Nat)(cb:Array Value)(blk off cap:Nat)(d:Array α)(w:World)(eg:∀args w,(callFunc g args).run Tryz.prog w=.ok (.enter g args) w)(hcmp:CmpLays1 Tryz.prog g cb enc cf blk off d.size w)(hH:Holds enc w blk off d)(hblk:blk<w.heap.size)(hsz:d.size<4611686018427387904)(hT:∀x y,(ltOf cf) x y=false->(ltOf cf) y x=false->x=y):
  Calls Tryz.prog 55 #[.slice (some ⟨blk,off,none⟩) d.size cap,.func (.func g) #[] cb] w λe w' =>
   e=.returned (.tuple #[])/\∃n os,w'=sortWorld enc w blk off n (d.toList.mergeSort λx y => !(ltOf cf) y x).toArray os :=
 Any.slices_SortFunc_total Tryz.srtF enc h1 cf hO g cb blk off cap d w eg hcmp hH hblk hsz hT
theorem Tryz.sortF0(p:Option Addr)(cap:Nat)(fv:Value)(w:World):
  Calls Tryz.prog 55 #[.slice p 0 cap,fv] w λe w'=>e=.returned (.tuple #[])/\w'=w :=
 AnyF.slices_SortFunc_none {Tryz.srtF with} p cap fv w
end Go.Proofs
namespace Go.Proofs.YtdnfjhflkkpokaaGreatDoor.Av
open Go Go.Sort Go.RowKit
variable {L:List Blk}{K:ajq}
set_option maxHeartbeats 8000000
set_option maxRecDepth 100000
theorem Rel.putG{α:Type}[Inhabited α]{enc:α->Value}{f:α->AV}{w0:World}{S0:SB}{E:Env}{L:List Blk}{w:World}(h:Rel w0 S0 E L w)(hf:∀x,VR E (f x) (enc x)){i:Nat}{c0:List AV}{d:List α}{c:Loc}(hi:L[i]?=some (.cells c0))(hc:E.loc i=some c)(hd:d.length=c0.length)(q:Nat):
  Rel w0 S0 E (L.set i (.cells (d.map f))) (putRow enc (Sort.ahead w q) c.blk c.off d.toArray):=by
 obtain⟨c',cs,ty,fr,h1,h2,h3,h4,h5,h6⟩:=h.blk i _ hi;rw[hc]at h1;cases h1;have hlt:c.blk<w.heap.size:=(akf.1 h2).1;have e1:(putRow enc (Sort.ahead w q) c.blk c.off d.toArray).heap[c.blk]?=some (.cells (putCells enc c.off d.toArray cs) ty fr):=by simp[putRow,mapBlock,Sort.ahead,alu,h2,onCells]
 refine h.turn (k':=.cells (d.map f)) hi rfl hc amN (λb hb=>?_) rfl rfl rfl ⟨c,_,ty,fr,hc,e1,by simp[putCells,h3],?_,λj a ha=>?_,h6⟩ (λ_ _ e=>by cases e);have:c.blk≠b:=λe=>hb e.symm
 simp[putRow,mapBlock,Sort.ahead,alu,this];simp only[ajR,hd];omega;have hj:j<d.length:=by have:=(ajr.1 ha).1;simpa using this
 have hcs:c.off+j<cs.size:=amM;have ep:(putCells enc c.off d.toArray cs)[c.off+j]?=some (if c.off<=c.off+j/\c.off+j<c.off+d.length then enc (d.toArray[c.off+j-c.off]!)else cs[c.off+j]):=by simp[putCells,hcs]
 have ea:a=f d[j]:=by simpa[hj]using ha.symm
 subst ea;refine⟨_,ep,?_⟩;rw[if_pos amM,show c.off+j-c.off=j by omega];have:=hf d[j];simpa[hj]using this
theorem ZS{α:Type}[Inhabited α]{enc:α->Value}{f:α->AV}{w0:World}{S0:SB}{E:Env}{L:List Blk}{w:World}(h:Rel w0 S0 E L w)(hf:∀x v,VR E (f x) v->v=enc x){i:Nat}{d:List α}{c:Loc}(hi:L[i]?=some (.cells (d.map f)))(hc:E.loc i=some c):
  Holds enc w c.blk c.off d.toArray/\c.blk<w.heap.size:=by
 obtain⟨c',cs,ty,fr,h1,h2,h3,h4,h5,h6⟩:=h.blk i _ hi;rw[hc]at h1;cases h1;refine⟨λj hj=>?_,(akf.1 h2).1⟩;have hj':j<d.length:=by simpa using hj
 obtain⟨v,g1,g2⟩:=h5 j (f d[j]) (by simp[hj']);have g2:=hf _ _ g2;subst g2;refine⟨by simp[World.cell?,h2,g1,hj'],?_⟩;have h7:=h6 (c.off+j) amM (by simp only[ajR]at h4;omega);simp only[World.frozen?,h2];obtain⟨f1,f2⟩:=fr;simp only at h7;simp only[al7,decide_eq_false_iff_not];omega
theorem afG{α:Type}[Inhabited α]{enc:α->Value}{w:World}{blk off n:Nat}{dk:Array α}{os:Array Obj}{b:Nat}(hb:b≠blk)(hlt:b<w.heap.size):(sortWorld enc w blk off n dk os).heap[b]?=w.heap[b]?:=by
 have:blk≠b:=λe=>hb e.symm
 unfold sortWorld grow;simp only;rw[amn (by simpa[putRow,mapBlock,Sort.ahead]using hlt)];simp[putRow,mapBlock,Sort.ahead,alu,this]
theorem gT{w w':World}{b o:Nat}(h:w'.heap[b]?=w.heap[b]?):w'.cell? ⟨b,o,none⟩=w.cell? ⟨b,o,none⟩:=by simp only[World.cell?,h]
theorem Rel.at{w0:World}{S0:SB}{E:Env}{L:List Blk}{w:World}(h:Rel w0 S0 E L w){i j:Nat}{l:List AV}{a:AV}(hi:L[i]?=some (.cells l))(hj:l[j]?=some a):∃c v,E.loc i=some c/\w.cell? ⟨c.blk,c.off+j,none⟩=some v/\VR E a v/\c.blk<w.heap.size:=by obtain⟨c,cs,ty,fr,h1,h2,h3,h4,h5,h6⟩:=h.blk i _ hi;obtain⟨v,g1,g2⟩:=h5 j a hj;exact⟨c,v,h1,by simp[World.cell?,h2,g1],g2,(akf.1 h2).1⟩
theorem Yd{E:Env}:∀(p:Pth) (b o:Nat),VRC E (aC p) b o->∀j,j<p.length->E.mem b (o+j)=some (.string ⟨⟨p.getD j []⟩⟩)
 |[],_,_,_,j,hj=>absurd hj (alX _)
 | s::p,b,o,h,j,hj=>by
   simp only[ajP,VRC,VR]at h;obtain⟨⟨x,h1,rfl⟩,h2⟩:=h;cases j with
   |zero=>simpa using h1
   | succ j =>
     have:=Yd p b (o+1) h2 j (by simpa using hj);rw[show o+(j+1)=o+1+j by omega,this];simp
section
variable {suf:List Rdn}{last:Int}{l:List aA}{w0:World}{S0:SB}{E:Env}{L:List Blk}{w:World}{iv mn mi:Nat}{nb bn:Int->Nat}{ck ci:Nat}{rs:List TKy}
theorem bO.path(hR:Rel w0 S0 E L w)(hc:bO L iv mn mi nb bn ck ci rs suf last l){x:aA}(hx:x∈l)(hne:x.nm≠[]):
  ∃c pb po ca,E.loc (nb x.id)=some c/\c.blk<w.heap.size/\w.cell? ⟨c.blk,c.off+1,none⟩=some (.slice (some ⟨pb,po,none⟩) (pth x).length ca)/\∀j,j<(pth x).length->E.mem pb (po+j)=some (.string ⟨⟨(pth x).getD j []⟩⟩):=by
 obtain⟨c,v,h1,h2,h3,h4⟩:=hR.at (hc.nd x hx) (j:=1) rfl;simp only[VR]at h3;obtain⟨p,c',rfl,_,_,h5⟩:=h3;have hl:(pth x).length=x.nm.length:=by simp[pth,aW]
 rcases h5 with⟨h0,_⟩|⟨b,o,rfl,h6⟩;exact absurd (aj4.1 h0) hne;exact⟨c,b,o,c',h1,h4,by rw[hl];exact h2,Yd _ _ _ h6⟩
theorem bO.lookup(hR:Rel w0 S0 E L w)(hc:bO L iv mn mi nb bn ck ci rs suf last l){cm:Loc}(hcm:E.loc mn=some cm){x:aA}(ht:TOk suf last l)(hx:x∈l){c:Loc}(hcx:E.loc (nb x.id)=some c)(W:World)(hW:W.heap[cm.blk]?=w.heap[cm.blk]?):
  (Instr.lookup 134 (.map (some cm.blk)) (.int .i64 x.id) false).run Tryz.prog W=.ok (.pointer (some ⟨c.blk,c.off,none⟩)) W:=by
 obtain⟨c',rs',h1,h2,h3⟩:=hR.blk mn _ hc.n;rw[hcm]at h1;cases h1;have hd:Tryz.prog.underlying 134=some (.map 3 133):=amO;have hkd:fV Tryz.prog 3=some .int:=amO;have hf:bw .int (.int .i64 x.id)=true:=rfl;have hk:VR E (.int .i64 x.id) (.int .i64 x.id):=by simp[VR]
 have hck:∀e,(Instr.checkKey e 10000 3 (.int .i64 x.id)).run Tryz.prog W=.ok () W:=λe=>ki hkd hf hk e
 have hg:(getObj cm.blk).run Tryz.prog W=.ok (.map rs' ck) W:=by simp[getObj,Sem.run,hW,h2]
 rcases hc.node x.id with⟨e1,_⟩|⟨y,n,e1,hy,hyi,e2,_⟩;rw[ht.ent hx]at e1;cases e1;obtain⟨e,q,b,hfk,g2,g3,g4,_⟩:=xy hkd hf hk h3 e2 W;simp only[VR]at g4;obtain⟨c4,k1,k2⟩:=g4;rw[hcx]at k1;cases k1;simp[Instr.lookup,run_underlying hd,hg,hck,hfk,k2]
end
abbrev mh(m:List aA):List AV:=m.map λx=>.int .i64 x.id
abbrev InL(l:List aA):={x:aA // x∈l}
theorem afI{suf:List Rdn}{last:Int}{l:List aA}(ht:TOk suf last l){m:List aA}(hm:∀x∈m,x∈l)(hne:m≠[])(hn:m.length<=1100000){L:List Blk}{iv mn mi:Nat}{nb bn:Int->Nat}{ck ci:Nat}{rs:List TKy}(hc:bO L iv mn mi nb bn ck ci rs suf last l){i bx:Nat}{cp:Option Nat}(hL:L[i]?=some (.cells (mh m)))(hbx:L[bx]?=some (.cells [.ptr iv 0])){K:ajq}(h:K (.tup []) (L.set i (.cells (mh (m.mergeSort leE))))):
  ajp 55 [.lsl i 0 m.length cp 1,.func 56 [.ptr bx 0]] L K:=λw0 S0 E w vs hR hv=>by
 simp only[VRL,VR]at hv;obtain⟨_,_,rfl,⟨c,rc,d,hci,rfl,hd,hle,_,_⟩,_,_,rfl,⟨_,rfl,_,_,rfl,⟨cb,hcb,rfl⟩,rfl⟩,rfl⟩:=hv;have hpos:0<m.length:=akh.2 hne;have hd':d=c.off:=by have:=hd amM;omega
 subst hd';obtain⟨x0,hx0⟩:=List.exists_mem_of_ne_nil _ hne;have hno:∀x∈l,x.nm≠[]:=λx hx e=>ht.inv.ne (fH hx) (by rw[e];rfl)
 haveI:Inhabited (InL l):=⟨⟨x0,hm x0 hx0⟩⟩
 obtain⟨ms,rfl⟩:∃ms:List (InL l),m=ms.map (·.1):=⟨m.attach.map λx=>⟨x.1,hm x.1 x.2⟩,amN⟩;obtain⟨f,hf⟩:∃f:(InL l)->AV,f=λx=>.int .i64 x.1.id:=⟨_,rfl⟩
 obtain⟨enc,henc⟩:∃enc:(InL l)->Value,enc=λx=>.int .i64 x.1.id:=⟨_,rfl⟩
 have e1:∀s:List (InL l),mh (s.map (·.1))=s.map f:=λs=>by rw[hf];exact ajS
 rw[e1]at hL;have hfv:∀x v,VR E (f x) v->v=enc x:=λx v hv=>by rw[hf]at hv;rw[henc];simpa[VR]using hv
 have hfe:∀x,VR E (f x) (enc x):=λx=>by rw[hf,henc];simp[VR]
 obtain⟨hH,hlt⟩:=ZS hR hfv hL hci;obtain⟨c1,v1,h1,b1,b2,b3⟩:=hR.at hbx (j:=0) rfl;rw[hcb]at h1;cases h1;simp only[VR]at b2;obtain⟨c2,hiv,rfl⟩:=b2;obtain⟨c2',v2,h2,d1,d2,d3⟩:=hR.at hc.v (j:=1) rfl;rw[hiv]at h2;cases h2;simp only[VR]at d2;obtain⟨c3,hmn,rfl⟩:=d2;have hm3:c3.blk<w.heap.size:=by obtain⟨c',rs',g1,g2,_⟩:=hR.blk mn _ hc.n;rw[hmn]at g1;cases g1;exact(akf.1 g2).1
 obtain⟨y0,ys,hy0⟩:∃y ys,ms=y::ys:=by
  cases ms with
  |nil=>simp at hpos
  |cons y ys=>exact⟨y,ys,rfl⟩
 have ap:∀(j:Nat) (k:Blk) (c':Loc),L[j]?=some k->k.live=true->E.loc j=some c'->k≠.cells (ms.map f)->c'.blk≠c.blk:=λj k c' hj hl hc' hk e=>by have:=hR.inj j i k _ c' c hj hl hL rfl hc' hci e;subst this;rw[hj]at hL;exact hk (Option.some.inj hL)
 have hk0:∀a as',(∀n,a≠.int .i64 n)->Blk.cells (a::as')≠.cells (ms.map f):=λa as' ha e=>by rw[hy0,hf]at e;simp only[ajP,Blk.cells.injEq,amf]at e;exact ha _ e.1
 have a1:=ap bx _ cb hbx rfl hcb (hk0 _ _ amN);have a2:=ap iv _ c2 hc.v rfl hiv (hk0 _ _ (by intro n;simp[dnA]));have a3:=ap mn _ c3 hc.n rfl hmn amN;have hown:=(hR.own i _ c hL rfl hci).1;have hpath:∀x∈l,∃c4 pb po ca,E.loc (nb x.id)=some c4/\c4.blk<w.heap.size/\c4.blk≠c.blk/\pb<w.heap.size/\pb≠c.blk/\w.cell? ⟨c4.blk,c4.off+1,none⟩=some (.slice (some ⟨pb,po,none⟩) (pth x).length ca)/\∀j,j<(pth x).length->w.cell? ⟨pb,po+j,none⟩=some (.string ⟨⟨(pth x).getD j []⟩⟩):=λx hx=>by
  obtain⟨c4,pb,po,ca,g1,g2,g3,g4⟩:=hc.path hR hx (hno x hx);have hp0:0<(pth x).length:=by have:=akh.2 (hno x hx);simp only[pth,akS,aW];exact this
  have g5:=g4 0 hp0;exact⟨c4,pb,po,ca,g1,g2,ap (nb x.id) _ c4 (hc.nd x hx) rfl g1 (hk0 _ _ (by intro n;simp[dnA])),hR.mem_lt g5,(λe=>by rw[e,hown]at g5;cases g5),g3,λj hj=>hR.mem _ _ _ (g4 j hj)⟩
 have hcmp:CmpLays1 Tryz.prog 56 #[.pointer (some ⟨cb.blk,cb.off+0,none⟩)] enc (λx y=>cpP (pth x.1) (pth y.1)) c.blk c.off ms.toArray.size w:=λn os dk hs x y=>by
  obtain⟨cx,px,qx,kx,x1,x2,x3,x4,x5,x6,x7⟩:=hpath x.1 x.2;obtain⟨cy,py,qy,ky,y1,y2,y3,y4,y5,y6,y7⟩:=hpath y.1 y.2;have hlx:(pth x.1).length<=1100000:=(by have:=(ht.ok x.1 x.2).len;simp only[pth,akS,aW];omega);have hly:(pth y.1).length<=1100000:=(by have:=(ht.ok y.1 y.2).len;simp only[pth,akS,aW];omega);have hh:∀b,b≠c.blk->b<w.heap.size->(sortWorld enc w c.blk c.off n dk os).heap[b]?=w.heap[b]?:=λb hb hl=>afG hb hl
  have:=Tryz.scp_c (pth x.1) (pth y.1) x.1.id y.1.id cb.blk (cb.off+0) c2.blk (c2.off+0) c3.blk cx.blk cx.off px qx kx cy.blk cy.off py qy ky (sortWorld enc w c.blk c.off n dk os) hlx hly
   (by rw[gT (hh _ a1 b3)];exact b1) (by rw[gT (hh _ a2 d3)];exact d1)
   (λq=>hc.lookup hR hmn ht x.2 x1 _ (hh _ a3 hm3)) (λq=>hc.lookup hR hmn ht y.2 y1 _ (hh _ a3 hm3))
   (by rw[gT (hh _ x3 x2)];exact x6) (by rw[gT (hh _ y3 y2)];exact y6)
   (λj hj=>by rw[gT (hh _ x5 x4)];exact x7 j hj) (λj hj=>by rw[gT (hh _ y5 y4)];exact y7 j hj)
  rw[henc]at this⊢;exact this.mono λe w' ⟨k1,q,k2⟩=>⟨k1,q,#[],by rw[k2,grow_empty]⟩
 have hO:SWO (ltOf (λx y:(InL l)=>cpP (pth x.1) (pth y.1))):=agc (λx:(InL l)=>pth x.1);have hcon:=Tryz.sortF enc (λx=>by rw[henc];rfl) (λx y=>cpP (pth x.1) (pth y.1)) hO 56 #[.pointer (some ⟨cb.blk,cb.off+0,none⟩)] c.blk c.off rc ms.toArray w (enters_of Tryz.func56 amO rfl) hcmp hH hlt (by simp only[ajR]at hn;simp only[List.size_toArray];omega) (λx y h1 h2=>by have:=Xt (a:=pth x.1) (b:=pth y.1) h1 h2;exact Subtype.ext (ht.byN x.2 y.2 (Xo this)))
 rw[ajR]at *;refine .inl ⟨iu Tryz.func55 rfl amO _ _,hcon.mono ?_⟩;rintro e w' ⟨rfl,q,os,rfl⟩;have hp:(ms.mergeSort λx y => !(ltOf (λx y:(InL l)=>cpP (pth x.1) (pth y.1))) y x).length=(ms.map f).length:=by rw[amv,ajR]
 have r1:=hR.putG hfe hL hci hp q;have e3:mh ((ms.map (·.1)).mergeSort leE)=(ms.mergeSort λx y => !(ltOf (λx y:(InL l)=>cpP (pth x.1) (pth y.1))) y x).map f:=by rw[<- e1];congr 1;refine(List.map_mergeSort λa _ b _=>?_).symm;rfl
 rw[e3]at h;refine⟨E,_,_,_,rfl,.refl E,h,by simp[VR,VRL],r1.grown ?_⟩;exact⟨λb hb=>amn hb,by simp[sortWorld,grow,putRow,mapBlock,Sort.ahead],rfl,rfl,rfl⟩
theorem adz{cap:Option Nat}{fv:AV}(h:K (.tup []) L):ajp 55 [.sl [] 0 cap,fv] L K :=
 kw Tryz.func55 rfl amO (λw0 S0 E w vs hR hv=>by simp only[VRL,VR]at hv;obtain⟨_,_,rfl,⟨p,c,rfl,_⟩,x,_,rfl,_,rfl⟩:=hv;exact(Tryz.sortF0 p c x w).mono λe w' ⟨he,hw⟩=>⟨_,he,by simp[VR,VRL],by subst hw;exact VZ.refl _⟩) h
end Go.Proofs.YtdnfjhflkkpokaaGreatDoor.Av
set_option maxRecDepth 100000
namespace Go.Proofs.YtdnfjhflkkpokaaGreatDoor.Av
open Go
variable {d:List Rdn}{cap:Option Nat}{id:Int}{x:aA}{seen:List Nat}{ps:List aA}{j:Nat}{p:Pth}
def fm:LSO:=[Ak 2]
def fk:LSO:=[Aa 3 0,o1 4 (.slnil false (tm 3))]
def fj:LSO:=[Ak 2]
def fi:LSO:=[o1 5 (.bslice false 1 0 [] []),Aa 6 0,BS 7 5 6,Aa 2 7]
def bN:aQ:=⟨8,(amF fm [] (.seq (amF fk Cl (amH 4 (.sreg fj []))) (amF fi Cp .ret))),[(.tmp 2)]⟩
attribute [push_cast] fm fk fj fi
theorem eZ:aR Tryz.prog (λr i=>if r=3/\i=2 then 2 else 1) 47=some bN.raw:=amO
attribute [push_cast] bN
variable {L:List Blk}{K:ajq}
set_option maxHeartbeats 8000000
set_option maxRecDepth 100000
theorem abk{e z:List Rdn}{cap':Option Nat}{ne nd:Nat}(hz:e++d=z)(he:ne=e.length)(hdn:nd=d.length)(hn:z.length<=1100000)(hr:∀r∈z,r.length<=1100000)(h:K (dnA z) L):
  ajp 59 [.sl (d.map ah) nd cap,.sl (e.map ah) ne cap'] L K:=by
 subst he hdn;replace h:=hid h;have hat:=hid (λk=>@kc z k);replace hr:=hid hr;have kk1:Hid (Ctr Tryz.prog 102 [.sl [.sl (e.map ah) e.length cap',.sl (d.map ah) d.length cap] 2 (some 2)] (.sl (z.map ah) z.length none)):=@hid _ (by
  intro L K q;refine gZ ?_;simp only[AV.frzL,AV.frz,aY];have:=@W6 [e.map ah,d.map ah] none amN (by simp only[amt,amu,aj6,<- ajV,hz,ajR];exact hn) (λl hl=>by rw[ajE];intro a ha;simp only[ajM,akl,or_false]at hl;rcases hl with rfl|rfl<;>(obtain⟨r,_,rfl⟩:=ajy.1 ha;rfl)) (λp=>by simp only[amt,amu,aj6,<- ajV];exact dX p _) L K
  simp only[amt,amu,aj6,<- ajV,hz,ajP,akA,ajR,aj9,ajz,V7]at this;exact this q)
 clear hz;refine ajo Rj ?_;refine bK (l:=[]) (n:=0) 5 1 rfl (ajX 1).symm ?_;refine aq (λm T' L'=>∃(k:Nat) (C:List AV) (X:List Blk),m=z.length-k/\k<=z.length/\Hid (C=(z.take k).map ah)/\T'=[(13,.int .i64 (k:Int)),(12,.int .i64 z.length),(11,.sl (z.map ah) z.length none),(5,.gsl C k L.length 1)]/\L'=L++(.spare k 1::X)) amQ ⟨0,[],[],rfl,aju _,hid rfl,rfl,amN⟩ ?_;rintro _ _ _ ⟨k,C,X,rfl,hk,hC,rfl,rfl⟩;by_cases hlt:k<z.length;have g1:(k:Int)<(z.length:Int):=amM;have g2:=ajn k amM;have e2:=hat.o k hlt;have e3:k<(z.map ah).length:=by simpa using hlt
 obtain⟨r,hri⟩:=ajl (z.getD k []);have hrl:=hr.o r (by rw[<- hri];simp[hlt]);have htk:(z.take (k+1)).map ah=C++[.sl (aL r) r.length none]:=by rw[hC.o,ajN hlt,ajV,show z[k]=r by rw[<- hri];simp[hlt]];rfl
 rw[hri]at e2;have e4:=fK r;have e5:=cJ r;replace htk:=hid htk;clear hri hC;refine wk ?_;exact amR amM amP ⟨k+1,_,_,rfl,hlt,hid htk.o.symm,rfl,rfl⟩;have hke:k=z.length:=amM;subst hke;have g1:¬(z.length:Int)<(z.length:Int):=amM;have hC2:=hC.o;rw[ajL]at hC2;subst hC2;clear hC;refine wk ?_;refine aJ ?_;simp only[AV.frz,aY];exact ab (by simp only[AV.refs,dX]) h.o
theorem Vr{xs:List (List UInt8)}(hn:xs.length<=1100000)(h:K (.sl (xs.map AV.str) xs.length none) L):
  ajp 47 [.sl (xs.map AV.str) xs.length cap] L K:=by
 replace h:=hid h;by_cases h0:xs=[]
 .subst h0;refine aa eZ (by simp[bN]) ?_;simp only[bN,am]
  repeat' first
   |refine cA ?_
   | (first|refine bG amO ?_|refine ba amO ?_|refine be ?_|refine dN ?_|refine cD (fun _=>?_)|refine aU ?_|refine bI ?_)
     refine sm ?_
   | (first|refine bC amO ?_|refine bz ?_|refine bd ?_|refine bH ?_|refine cI (aT ?_))
     refine sl ?_
   |exact cE
   |first|apply cF|apply bD|apply cG|apply bE|apply cH|apply bF
   |refine bh ?_
   |refine bc ?_
   |first|refine bf rfl ?_|refine bg rfl ?_|refine aI rfl ?_ ?_|refine bm rfl (λ_=>?_) (λ_=>?_)|refine bj rfl (λ_=>?_) (λ_=>?_)
   |((first|refine aG (λ_=>?_) (λ_=>?_)|refine aS (λ_=>?_) (λ_=>?_))<;>try refine sm ?_)
   |refine And.intro trivial ?_
   |refine And.intro amM ?_
   |refine br rfl (λ_=>?_) (λ_=>?_)
   |refine And.intro ?_ ?_
  all_goals
   refine aJ ?_;rw[show(AV.sl [] 0 (some 0)).frz=.sl (([]:List (List UInt8)).map AV.str) ([]:List (List UInt8)).length none from rfl];exact ac h.o
 have h1:¬xs.length=0:=λc=>h0 (aj4.1 c)
 have h2:(xs.map AV.str).all AV.one=true:=by rw[ajE];intro a ha;obtain⟨r,_,rfl⟩:=ajy.1 ha;rfl
 refine ajo eZ ?_;refine JS (i:=L.length) (l:=xs.map AV.str) amN ?_;rw[show(AV.lsl L.length 0 xs.length none 1).snap L.length (xs.map AV.str)=.sl (xs.map AV.str) xs.length none from by simp[AV.snap,aj3],show(L++[Blk.cells (xs.map AV.str)]).set L.length .dead=L++[.dead]by simp];exact ab (by simp only[AV.refs];exact kb _ _) h.o
theorem TQ{l:List Atr}(hl:l.length<=1100000)(hz:∀a∈l,a.2.length<=1100000)(h:K (.sl (aB l) l.length none) L):
  ajp 60 [.sl (aB l) l.length cap] L K:=by
 replace h:=hid h;have kC:Hid (∀{xs:List (List UInt8)}{c:Option Nat}(hx:xs.length<=1100000){L:List Blk}{K:ajq},K (.sl (xs.map AV.str) xs.length none) L->ajp 47 [.sl (xs.map AV.str) xs.length c] L K):=@hid _ (by intro xs c hx L K q;exact Vr hx q);refine ajo Vz ?_;refine bK (l:=[]) (n:=0) 3 2 rfl (ajX 2).symm ?_;refine aq (λm T' L'=>∃(k:Nat) (C:List AV) (X:List Blk),m=l.length-k/\k<=l.length/\C=aB (l.take k)/\T'=[(8,.int .i64 (k:Int)),(7,.int .i64 l.length),(6,.sl (aB l) l.length cap),(3,.gsl C k L.length 2)]/\L'=L++(.spare k 2::X)) amQ ⟨0,[],[],rfl,aju _,rfl,rfl,rfl⟩ ?_;rintro _ _ _ ⟨k,C,X,rfl,hk,hC,rfl,rfl⟩;by_cases hlt:k<l.length;have g1:(k:Int)<(l.length:Int):=amM;have g2:=ajn k amM;have e3:=iw hlt;have e4:k*2+2<=(aB l).length:=by rw[ir];omega
 obtain⟨⟨nm,vs⟩,ha⟩:∃a,l.getD k ([],[])=a:=⟨_,rfl⟩;have htk:aB (l.take (k+1))=aB (l.take k)++[.str nm,.sl (vs.map AV.str) vs.length none]:=by rw[ajN hlt,Rn,show l[k]=(nm,vs)by rw[<- ha];simp[hlt]];rfl
 have hvs:=hz (nm,vs) (by rw[<- ha];simp[hlt]);simp only at hvs;rw[ha]at e3;simp only[atA]at e3;have e0:AV.frzL (vs.map AV.str)=vs.map AV.str:=gu vs;replace htk:=hid htk;replace hC:=hid hC;have kk1:Hid (∀{c:Option Nat}{L:List Blk}{K:ajq},K (.sl (vs.map AV.str) vs.length none) L->ajp 47 [.sl (vs.map AV.str) vs.length c] L K):=@hid _ (by intro c L K q;exact kC.o hvs q);clear ha hz kC;refine wk ?_;exact amR amM amP ⟨k+1,_,_,rfl,hlt,by rw[htk.o,hC.o],rfl,rfl⟩;have hke:k=l.length:=amM;subst hke;have g1:¬(l.length:Int)<(l.length:Int):=amM;rw[ajL]at hC;subst hC;have e0:=dM l;refine wk ?_;refine aJ ?_;simp only[AV.frz,e0];exact ab (by simp only[AV.refs,gX]) h.o
theorem Yf{L:List Blk}{iv mn mi:Nat}{nb bn:Int->Nat}{ck ci:Nat}{rs:List TKy}{suf:List Rdn}{last:Int}{l:List aA}(ht:TOk suf last l)(hb:∀x∈l,x.av.length<=1100000/\∀a∈x.av,a.2.length<=1100000)(hc:bO L iv mn mi nb bn ck ci rs suf last l){K:ajq}(h0:l6 l id=none->K (.tup [dnA [],atR []]) L)(h:∀x,l6 l id=some x->K (.tup [dnA x.nm,atR x.av]) L):
  ajp 25 [.ptr iv 0,.int .i64 id] L K:=by
 have hv:=hc.v;have hn:=hc.n;have hkf:bw .int (.int .i64 id)=true:=rfl;rcases hc.node id with⟨e1,e2⟩|⟨x,n,e1,hx,hxi,e2,e3⟩;replace h:=hid (h0 e1);clear hc e1 h0 hb ht;refine ajo l7 ?_;refine aJ ?_;rw[show(AV.tup [.sl [] 0 (some 0),.sl [] 0 (some 0)]).frz=.tup [dnA [],atR []]from rfl];exact ac h.o;replace h:=hid (h x e1);unfold kk at e3;have hox:=(ht.ok x hx).m.b;have hbx:=hb x hx;obtain⟨xi,xn,xv⟩:=x;simp only at e3 hox hbx h;have kk1:Hid (∀{c:Option Nat}{L:List Blk}{K:ajq},K (dnA xn) L->ajp 59 [.sl (xn.map ah) xn.length none,.sl [] 0 c] L K):=@hid _ (by intro c L K q;exact XE hox.1 hox.2 q);have kk2:Hid (Ctr Tryz.prog 60 [.sl (aB xv) xv.length none] (atR xv)):=@hid _ (by intro L K q;exact TQ hbx.1 hbx.2 q);obtain⟨q,hq⟩:=ajl (aZ (dx l) (NK xn));rw[hq]at e3;unfold atR at e3 kk2 h;clear hc e1 h0 hb ht hx hxi hq hox hbx;refine ajo l7 ?_;exact ac h.o
theorem aiA{a b:Pth}{na nb:Nat}{ca cb:Option Nat}(hna:na=a.length)(hnb:nb=b.length)(ha:a.length<=1100000)(h:K (.bool (decide (a=b))) L):
  ajp 54 [.sl (aC a) na ca,.sl (aC b) nb cb] L K:=by
 subst hna hnb;by_cases hl:a.length=b.length;rotate_left;rw[decide_eq_false (λc=>hl (by rw[c]))]at h;replace h:=hid h;have g:¬(a.length:Int)=(b.length:Int):=amM;refine ajo fo ?_;exact ac h.o;obtain⟨n,hn⟩:=ajl (a.length);have hnb:b.length=n:=amM;obtain⟨R,hR⟩:=ajl (decide (a=b));rw[hR]at h;replace h:=hid h;have hI0:decide (a.drop 0=b.drop 0)=R:=hR;replace hI0:=hid hI0;rw[hn,hnb];rw[hn]at ha;have la:(aC a).length=n:=by simp[hn]
 have lb:(aC b).length=n:=by simp[hnb]
 replace hn:=hid hn;replace hnb:=hid hnb;clear hl hR;refine ajo fo ?_;refine aq (λm T' L'=>∃k:Nat,m=n-k/\k<=n/\Hid (decide (a.drop k=b.drop k)=R)/\T'=[(13,.int .i64 (k:Int)),(12,.int .i64 n),(0,.sl (aC a) n ca),(1,.sl (aC b) n cb)]/\L=L') (CutS (b:=ajs _)) ⟨0,rfl,aju _,hI0,rfl,rfl⟩ ?_;rintro _ _ L' ⟨k,rfl,hk,hI,rfl,e⟩;subst e;clear hI0;have hI2:=hI.o;by_cases hlt:k<n;have g1:(k:Int)<(n:Int):=amM;have g2:=ajn k amM;have l1:k<a.length:=by rw[hn.o];exact hlt
 have l2:k<b.length:=by rw[hnb.o];exact hlt
 have e1:(aC a).getD k .undef=.str (a.getD k []):=by simp[l1]
 have e2:(aC b).getD k .undef=.str (b.getD k []):=by simp[l2]
 have d1:a.drop k=a.getD k []::a.drop (k+1):=by rw[ajY l1];simp[l1]
 have d2:b.drop k=b.getD k []::b.drop (k+1):=by rw[ajY l2];simp[l2]
 rw[d1,d2]at hI2;obtain⟨x,hx⟩:=ajl (a.getD k []);obtain⟨y,hy⟩:=ajl (b.getD k []);rw[hx]at e1 hI2;rw[hy]at e2 hI2;by_cases hxy:x=y;subst hxy;have hI3:decide (a.drop (k+1)=b.drop (k+1))=R:=by rw[<- hI2];simp
 replace hI3:=hid hI3;clear hI hI2 d1 d2 hx hy l1 l2;refine wk ?_;exact amR amM amP ⟨k+1,rfl,hlt,hid hI3.o,rfl,rfl⟩;have hr:R=false:=by rw[<- hI2];simp[hxy]
 have h':=h.o;rw[hr]at h';replace h':=hid h';clear hI hI2 d1 d2 hx hy l1 l2 hr;refine wk ?_;exact ac h'.o;have hke:k=n:=amM;subst hke;have g1:¬(k:Int)<(k:Int):=amM;have hr:R=true:=by rw[<- hI2,ala (by rw[hn.o];exact ajs _),ala (by rw[hnb.o];exact ajs _)];rfl
 have h':=h.o;rw[hr]at h';replace h':=hid h';clear hI hI2 hr;refine wk ?_;exact ac h'.o
open Go Go.MapKept
section
variable {P:Program}{w0:World}{S0:SB}{E:Env}{L:List Blk}{w:World}{T:Tm}{a:Act}{N:Nat}
theorem aE.mem1:∀{es:List (AV×AV×Nat)}{rs:List MapEntry}{f:MapEntry},aE E es rs->f∈rs->∃e∈es,VR E e.1 f.key/\VR E e.2.1 f.val/\e.2.2=f.born
 |[],rs,f,h,hf=>by simp only[aE]at h;subst h;cases hf
 | (k,x,b)::es,rs,f,h,hf=>by
   obtain⟨g,t,rfl,g1,g2,g3,g4⟩:=h;rcases ajM.1 hf with rfl|hf
   .exact⟨_,.head _,g1,g2,g3.symm⟩
   .obtain⟨e,he,h1⟩:=aE.mem1 g4 hf;exact⟨e,.tail _ he,h1⟩
theorem aE.mem2:∀{es:List (AV×AV×Nat)}{rs:List MapEntry}{e:AV×AV×Nat},aE E es rs->e∈es->∃f∈rs,e.2.2=f.born
 |[],rs,e,h,he=>by cases he
 | (k,x,b)::es,rs,e,h,he=>by
   obtain⟨g,t,rfl,g1,g2,g3,g4⟩:=h;rcases ajM.1 he with rfl|he
   .exact⟨g,.head _,g3.symm⟩
   .obtain⟨f,hf,h1⟩:=aE.mem2 g4 he;exact⟨f,.tail _ hf,h1⟩
theorem Wa{t:TypeId}{v:Value}{i j ck since last:Nat}{seen:List Nat}{es:List (AV×AV×Nat)}(hR:Rel w0 S0 E L w)(hi:L[i]?=some (.miter (some j) since seen last))(hj:L[j]?=some (.map es ck))(hv:VR E (.ptr i 0) v)(hold:∀e∈es,e.2.2<since)(hsc:since<=last):
  ∃r,(match r with|none=>∀e∈es,seen.contains e.2.2=true|some e=>e∈es/\seen.contains e.2.2=false)/\cS P w0 S0 E (WM L i j since seen ck r) (QW r) w (Instr.next v false t):=by
 simp only[VR]at hv;obtain⟨c,hc,rfl⟩:=hv;obtain⟨c',q,h1,h2,h3,d,h4,rfl⟩:=hR.blk i _ hi;rw[hc]at h1;cases h1;obtain⟨d',rs,g1,g2,g3⟩:=hR.blk j _ hj;rw[h4]at g1;cases g1;have hlt:c.blk<w.heap.size:=(akf.1 h2).1;have hold':∀x∈rs.toList,x.born<since:=λx hx=>by obtain⟨e,he,_,_,h⟩:=g3.mem1 hx;rw[<- h];exact hold e he
 rw[h3];rcases run_next_at (P:=P) w t c.blk d.blk since last ⟨seen⟩ rs ck h2 g2 hold' hsc with⟨h0,hrun⟩|⟨f,hf,w1,hw,hrun⟩;refine⟨none,λe he=>?_,.same hR hrun (by simp[QW,VR,VRL])⟩;obtain⟨f,hf,hb⟩:=g3.mem2 he;rw[hb];have hz:leftOf rs ⟨seen⟩=#[]:=Array.eq_empty_of_size_eq_zero h0;unfold leftOf at hz;rw[Array.filter_eq_empty_iff]at hz;have:=hz f (by simpa using hf);simpa using this;have hf':f∈rs.toList/\seen.contains f.born=false:=by simp only[leftOf,Array.toList_filter,aka]at hf;exact⟨hf.1,by simpa using hf.2⟩
 obtain⟨e,he,k1,k2,k3⟩:=g3.mem1 hf'.1;have hR1:Rel w0 S0 E L w1:=by rcases hw with rfl|rfl;exact hR;exact hR.grown ⟨λ_ _=>rfl,ajs _,rfl,rfl,rfl⟩
 have hlt1:c.blk<w1.heap.size:=by rcases hw with rfl|rfl<;>exact hlt
 have turn:=hR1.turn (w':={w1 with heap:=w1.heap.setIfInBounds c.blk (.mapIter (some d.blk) since ((⟨seen⟩:Array Nat).push f.born) ck)}) (k':=.miter (some j) since (seen++[f.born]) ck) hi rfl hc amN (λb hb=>by simp[al1,Ne.symm hb]) rfl rfl rfl
  ⟨c,some d.blk,hc,by simp[hlt1],h3,d,h4,rfl⟩ (λ_ _ e=>by cases e)
 refine⟨some e,⟨he,by rw[k3];exact hf'.2⟩,E,.tuple #[.bool true,f.key,f.val],_,hrun,.refl E,?_,?_⟩;simp only[QW,VR,VRL];exact⟨[.bool true,f.key,f.val],rfl,.bool true,[f.key,f.val],rfl,rfl,f.key,[f.val],rfl,k1,f.val,[],rfl,k2,rfl⟩;simp only[WM,k3];exact turn
def LOp.isNext:LOp->Bool
 |.mnext _=>true
 |_=>false
theorem aab{own:Nat}{s d:TypeId}{x:Opd}{lo:LOp}(h:xX P own s d x=some lo):lo.isNext=false:=by
 unfold xX at h
 repeat' split at h
 all_goals (first|(cases h;rfl)|cases h)
theorem acj{op:BinOp}{t:TypeId}{x y:Operand}{lo:LOp}(h:Of P op t x y=some lo):lo.isNext=false:=by
 unfold Of at h
 repeat' split at h
 all_goals (first|(cases h;rfl)|cases h)
theorem V8{own:Nat}{b:Builtin}{ts:List TypeId}{xs:List Opd}{lo:LOp}(h:db P own b ts xs=some lo):lo.isNext=false:=by
 unfold db at h
 repeat' split at h
 all_goals (first|(cases h;rfl)|cases h|(simp only[ajW]at h;obtain⟨_,_,rfl⟩:=h;rfl))
theorem aaa{own:Nat}{op:Op}{y:Opd}(h:iI P own op=some (.mnext y)):∃x,op=.next x false/\bJ x=some y:=by
 cases op
 case next x isS =>
  simp only[iI]at h;split at h
  .simp only[ajW]at h;obtain⟨_,_,h⟩:=h;cases h
  .rename_i hS;simp only[ajW,LOp.mnext.injEq]at h;obtain⟨_,h1,rfl⟩:=h;exact⟨x,by rw[show isS=false by simpa using hS],h1⟩
 case makeMap t r =>
  cases r with
  |some x=>simp[iI]at h
  | none =>
    simp only[iI]at h;split at h<;>cases h
 all_goals (exfalso;simp only[iI]at h;try (cases h;done))
 case binOp=>have:=acj h;cases this
 case convert x=>simp only[alx]at h;obtain⟨_,_,h⟩:=h;have:=aab h;cases this
 case call c =>
  split at h<;>try cases h
  split at h<;>try cases h
  .simp only[ajW]at h;obtain⟨_,_,h⟩:=h;cases h
  .have:=V8 h;cases this
 all_goals
  repeat' split at h
  all_goals (first|cases h|(simp only[ajW]at h;obtain⟨_,_,h⟩:=h;cases h))
theorem agU{own:Nat->Nat->Nat}{Q:Exit->Tm->List Blk->Prop}{d t i j since last ck:Nat}{rest:List SOp}{mask:List Bool}{seen:List Nat}{es:List (AV×AV×Nat)}(hok:(okS rest&&(gds rest).isEmpty)=true)(ht:ay T t=some (.ptr i 0))(hi:L[i]?=some (.miter (some j) since seen last))(hj:L[j]?=some (.map es ck))(hold:∀e∈es,e.2.2<since)(hsc:since<=last)(h0:(∀e∈es,seen.contains e.2.2=true)->SL P rest (VY mask (Q .normal)) ((d,.tup [.bool false])::T) L)(h1:∀e∈es,seen.contains e.2.2=false->SL P rest (VY mask (Q .normal)) ((d,.tup [.bool true,e.1,e.2.1])::T) (L.set i (.miter (some j) since (seen++[e.2.2]) ck))):
  AW P N own (.sreg (.op ⟨some d,.mnext (.tmp t),none⟩::rest) mask) Q T L:=λc hc ro hro w0 S0 E a w hst=>by
 obtain⟨id,os,rfl,hlo⟩:=Oi hc;rw[ajv]at hok;refine wpIn_region ?_;generalize List.range os.size=is at hlo⊢;cases is with
 |nil=>simp[b7,SOp.flatL,SOp.flat]at hlo
 | cons i0 is =>
   simp only[SOp.flatL,SOp.flat,akd,aj0,b7]at hlo;split at hlo<;>try cases hlo
   rename_i lo los' e1 e2;obtain⟨o,ho,hop,hdst,hd,hg⟩:=gP e1;simp only at hop hdst hg;rcases hg with⟨g1,_⟩|⟨_,_,_,_,_,_,g4⟩
   .simp only[wpOpsIn,ho];rw[if_pos (by simp[Region.wanted,g1])];have hop':iI P (own id i0) o.op=some (.mnext (.tmp t)):=by
     rcases hq:iI P (own id i0) o.op with _|x
     .rw[hq]at hop;cases hop
     .rw[hq]at hop;simp only[aks]at hop;rw[hop]
    obtain⟨x,hx,hlx⟩:=aaa hop';obtain⟨hR,hT,hN,hdf⟩:=hst;have hv:=ao hlx (show evX T (.tmp t)=some (.ptr i 0)from ht) hT;obtain⟨r,hr,E',v,w',hrun,hle,hvr,hR'⟩:=Wa (P:=P) (t:=o.type) hR hi hj hv hold hsc;have hnd:∀c,o.op≠.defer c:=λc e=>by rw[hx]at e;cases e
    refine⟨λ_ _=>trivial,?_⟩;rw[Oper.semAt_plain _ _ _ hnd];have hex:(execOp a.eval o).run P w=.ok (.value v) w':=by obtain⟨od,oop,oty,opos,oafter,oguard⟩:=o;simp only at hx hrun;subst hx;show(do pure (Next.value (<- Instr.next (a.eval x) false oty)):Sem Next).run P w=_;simp[hrun]
    rw[hex,Oper.uponIn_value];have hst':St w0 S0 N E' (cB (some d) (QW r) T) (WM L i j since seen ck r) (a.put o.dst v) w':=⟨hR',by rw[hdst];exact(hT.mono hle).putT (λk hk=>by rw[hN];exact hd k (by rw[hdst];exact hk)) hvr,by rw[UA];exact hN,by rw[Oa];exact hdf⟩;have hfr:Fr (gds rest) (cB (some d) (QW r) T):=λk hk=>by rw[List.isEmpty_iff.1 hok.2]at hk;cases hk
    have hSL:SL P rest (VY mask (Q .normal)) (cB (some d) (QW r) T) (WM L i j since seen ck r):=by
     cases r with
     |none=>exact h0 hr
     |some e=>exact h1 e hr.1 hr.2
    refine FB rest hok.1 e2 hst' hfr hSL λE'' T' L' a' w'' q2 q3 q4=>⟨w0,S0,E'',sel mask T',L',.refl _ _,hle.trans q2,q3.2,q4.weak (λt v hv=>JY q3.1 hv) rfl λ_ _ e=>.inr e⟩
   .cases g4
end
set_option maxHeartbeats 8000000
set_option maxRecDepth 100000
theorem abi{nb bn:Int->Nat}:∀{l:List aA}{x:aA},(l.map λx=>bn x.id).Nodup->x∈l->(l.map (fG nb bn)).find? (λe=>Nat.beq e.2.2 (bn x.id))=some (fG nb bn x)
 |[],x,_,h=>by cases h
 | y::l,x,hn,h=>by
   rw[ajP,akP]at hn;rcases ajM.1 h with h|h
   .subst h;simp[fG]
   .have hne:bn y.id≠bn x.id:=λe=>hn.1 (ajy.2 ⟨x,h,e.symm⟩)
    have hbq:Nat.beq (bn y.id) (bn x.id)=false:=by
     cases hh:Nat.beq (bn y.id) (bn x.id)with
     |false=>rfl
     |true=>exact absurd (Nat.eq_of_beq_eq_true hh) hne
    simp only[ajP,aln];rw[show Nat.beq (fG nb bn y).2.2 (bn x.id)=false from hbq];exact abi hn.2 h
theorem aje{nb bn:Int->Nat}{l:List aA}{ck:Nat}(hn:(l.map λx=>bn x.id).Nodup)(hx:x∈l):mat (l.map (fG nb bn)) ck (seen++[bn x.id]) ck=some (fG nb bn x):=by simp only[mat,List.getLast?_append,List.getLast?_singleton,Option.some_or,if_true];exact abi hn hx
theorem ad6{β:Type}:∀(ps l:List β),ps.Nodup->(∀x∈ps,x∈l)->ps.length<=l.length
 |[],l,_,_=>aju _
 | x::ps,l,hn,hs=>by
   obtain⟨hx,hn'⟩:=akP.1 hn;obtain⟨a,b,rfl⟩:=List.append_of_mem (hs x amN);have:=ad6 ps (a++b) hn' λy hy=>by
    have:=hs y (by simp[hy]);rcases ajx.1 this with h|h
    .exact ako _ h
    .rcases ajM.1 h with h|h
     .rw[h]at hy;exact absurd hy hx
     .exact akO _ h
   simp only[ajA,ajz]at this⊢;omega
structure V0(bn:Int->Nat)(l:List aA)(ps:List aA)(seen:List Nat):Prop where
 sub:∀x∈ps,x∈l
 nd:ps.Nodup
 eq:seen=ps.map λx=>bn x.id
theorem V0.nil{bn:Int->Nat}{l:List aA}:V0 bn l [] []:=⟨λ_ h=>absurd h akl,List.nodup_nil,rfl⟩
theorem V0.next{bn:Int->Nat}{l:List aA}(h:V0 bn l ps seen)(hx:x∈l)(hs:seen.contains (bn x.id)=false):V0 bn l (ps++[x]) (seen++[bn x.id]):=by
 refine⟨λy hy=>?_,?_,by rw[h.eq];simp⟩;rcases ajx.1 hy with hy|hy;exact h.sub y hy;rw[ajI.1 hy];exact hx;rw[alW];refine⟨h.nd,amN,λa ha b hb e=>?_⟩;rw[ajI.1 hb]at e;have:bn x.id∈seen:=by rw[h.eq,<- e];exact ajy.2 ⟨a,ha,rfl⟩
 rw[aku]at hs;simp[this]at hs
theorem V0.all{bn:Int->Nat}{l:List aA}(h:V0 bn l ps seen)(hl:l.Nodup)(hb:(l.map λx=>bn x.id).Nodup)(ha:∀x∈l,seen.contains (bn x.id)=true):ps.Perm l:=by
 refine(List.perm_ext_iff_of_nodup h.nd hl).2 λx=>⟨h.sub x,λhx=>?_⟩
 have:=ha x hx;rw[aku,decide_eq_true_eq,h.eq]at this;obtain⟨y,hy,e⟩:=ajy.1 this;rw[<- ff hb (h.sub y hy) hx e];exact hy
theorem V0.len{bn:Int->Nat}{l:List aA}(h:V0 bn l ps seen):ps.length<=l.length:=ad6 ps l h.nd h.sub
theorem ai8{bn:Int->Nat}{l:List aA}(hx:x∈l)(hs:seen.contains (bn x.id)=false):(l.filter λr => !(seen++[bn x.id]).contains (bn r.id)).length<(l.filter λr => !seen.contains (bn r.id)).length:=by
 have e:(l.filter λr => !(seen++[bn x.id]).contains (bn r.id))=(l.filter λr => !seen.contains (bn r.id)).filter (λr=>decide (bn r.id≠bn x.id)):=by
  rw[List.filter_filter];refine List.filter_congr λr _=>?_
  by_cases h:bn r.id=bn x.id<;>simp[h]
 rw[e];refine List.length_filter_lt_length_iff_exists.2 ⟨x,aka.2 ⟨hx,by rw[hs];rfl⟩,amN⟩
theorem TOk.nodup{suf:List Rdn}{last:Int}{l:List aA}(h:TOk suf last l):l.Nodup:=by have hn:=h.inv.ids;unfold dx at hn;rw[ajS]at hn;exact xU hn
theorem Yz(q:Nat->Bool):∀l:List aA,AV.refsL q (mh l)=true
 |[]=>rfl
 |x::l=>by show(AV.refs q _&&AV.refsL q _)=true;rw[Yz q l];rfl
theorem Uf{suf:List Rdn}{last:Int}{l:List aA}(ht:TOk suf last l)(hln:l.length<=1100000){L:List Blk}{iv mn mi:Nat}{nb bn:Int->Nat}{ck ci:Nat}{rs:List TKy}(hc:bO L iv mn mi nb bn ck ci rs suf last l){s:Int}{K:ajq}(h:K (.sl ((scT l id s).map (AV.int .i64)) (scT l id s).length none) L):
  ajp 23 [.ptr iv 0,.int .i64 id,.int .i64 s] L K:=by
 have hv:=hc.v;have hn:=hc.n;have hivl:iv<L.length:=(ajr.1 hv).1;have hmnl:mn<L.length:=(ajr.1 hn).1;have av:∀X:List Blk,(L++X)[iv]?=some (.cells [dnA suf,.lmap mn,.lmap mi,.int .i64 last]):=λX=>by rw[ajw hivl];exact hv
 have an:∀X:List Blk,(L++X)[mn]?=some (.map (l.map (fG nb bn)) ck):=λX=>by rw[ajw hmnl];exact hn
 have hkf:bw .int (.int .i64 id)=true:=rfl;unfold scT at h;rcases hc.node id with⟨e1,e2⟩|⟨a,j,e1,ha,hai,e2,e3⟩;rw[e1]at h;replace h:=hid h;clear hc e1 hv hn;refine ajo eW ?_;refine aJ ?_;rw[show(AV.sl [] 0 (some 0)).frz=.sl (([]:List Int).map (AV.int .i64)) ([]:List Int).length none from rfl];exact ab rfl h.o
 .rw[e1]at h;simp only at h;have hnl:nb id<L.length:=(ajr.1 e3).1;unfold kk at e3;have ad:∀X:List Blk,(L++X)[nb id]?=some (.cells [dnA a.nm,.sl (aC (pth a)) a.nm.length none,atR a.av,.int .i64 (aZ (dx l) (NK a.nm):Nat)]):=λX=>by rw[ajw hnl];exact e3
  by_cases hs:s<0\/2<s;rw[if_pos hs]at h;replace h:=hid h;clear hc e1 hv hn e3;by_cases c1:s<0;refine ajo eW ?_;refine aJ ?_;rw[show(AV.sl [] 0 (some 0)).frz=.sl (([]:List Int).map (AV.int .i64)) ([]:List Int).length none from rfl];exact ab rfl h.o;have c2:2<s:=amM;have c3:s>2:=c2;refine ajo eW ?_;refine aJ ?_;rw[show(AV.sl [] 0 (some 0)).frz=.sl (([]:List Int).map (AV.int .i64)) ([]:List Int).length none from rfl];exact ab rfl h.o
  .rw[if_neg hs]at h;have c1:¬s<0:=amM;have c2:¬2<s:=amM;have c3:¬s>2:=c2;replace h:=hid h;replace hc:=hid hc;replace ht:=hid ht;clear hv hn e3 hs;refine ajo eW ?_;refine aq (λn T' L'=>∃(seen:List Nat) (ps:List aA) (v:AV) (Z:List Blk),n=(l.filter λr => !seen.contains (bn r.id)).length/\Hid (V0 bn l ps seen)/\Hid ((ps.filter (gr a s)=[]/\v=.sl [] 0 (some 0))\/∃m,ps.filter (gr a s)≠[]/\v=.lsl (L.length+2+m) 0 (ps.filter (gr a s)).length none 1/\Z[m]?=some (.cells (mh (ps.filter (gr a s)))))/\T'=[(44,.ptr (L.length+1) 0),(8,v),(7,.sl (aC (pth a)) a.nm.length none),(3,.ptr L.length 0),(0,.ptr iv 0),(1,.int .i64 id),(2,.int .i64 s)]/\L'=L++([.cells [.ptr iv 0],.miter (some mn) ck seen ck]++Z)) amQ ⟨[],[],_,[],rfl,hid V0.nil,hid (.inl ⟨rfl,rfl⟩),rfl,rfl⟩ ?_;rintro _ _ _ ⟨seen,ps,v,Z,rfl,hcm,hv,rfl,rfl⟩;have i1:∀(a b:Blk) (Z:List Blk),(L++([a,b]++Z))[L.length+1]?=some b:=λa b Z=>by rw[ajG amM];simp
   have i3:∀(a b c:Blk) (Z:List Blk),(L++([a,b]++Z)).set (L.length+1) c=L++([a,c]++Z):=λa b c Z=>by rw[ajZ _ _ amM,show L.length+1-L.length=1 by omega];rfl
   refine cA ?_;refine agU (i:=L.length+1) (j:=mn) (es:=l.map (fG nb bn)) amO rfl (i1 _ _ _) (an _) (λe he=>?_) (ajs _) (λhall=>?_) (λe he hs=>?_);obtain⟨p,hp,rfl⟩:=ajy.1 he;exact hc.o.blt p hp;have hperm:=hcm.o.all ht.o.nodup hc.o.bnd λx hx=>hall (fG nb bn x) (ajy.2 ⟨x,hx,rfl⟩)
   have hsrt:=ht.o.srt a s (hperm.filter (gr a s));have hml:=ajU (ak9 (gr a s) ps) hcm.o.len;have hmm:∀x∈ps.filter (gr a s),x∈l:=λx hx=>hcm.o.sub x (aka.1 hx).1
   obtain⟨m0,hm0⟩:=ajl (ps.filter (gr a s));have hv':=hv.o;rw[hm0]at hv' hsrt hml hmm;rw[<- hsrt]at h;replace hmm:=hid hmm;replace hml:=hid hml;clear hall hperm hsrt hcm hv hm0;refine sk ?_;rcases hv' with⟨rfl,rfl⟩|⟨m,hne,rfl,hZ⟩;have kk1:Hid (∀{cap:Option Nat}{fv:AV}{L:List Blk}{K:ajq},K (.tup []) L->ajp 55 [.sl [] 0 cap,fv] L K):=@hid _ (by intro cap fv L K q;exact adz q);clear hmm hml;refine wk ?_;refine aJ ?_;have h':=h.o;rw[List.mergeSort_nil]at h';exact ab rfl h';have hid':∀(b c:Blk),(L++b::c::Z)[L.length+2+m]?=some (.cells (mh m0)):=λb c=>by rw[ajG amM,show L.length+2+m-L.length=m+1+1 by omega];simpa using hZ
   have hst:∀(b c d:Blk),(L++b::c::Z).set (L.length+2+m) d=L++b::c::Z.set m d:=λb c d=>by rw[ajZ _ _ amM,show L.length+2+m-L.length=m+1+1 by omega];rfl
   have hm:m<Z.length:=(ajr.1 hZ).1;obtain⟨sr,hsr⟩:=ajl (m0.mergeSort leE);have hsl:sr.length=m0.length:=(by rw[<- hsr,amv]);have kk1:Hid (∀{K:ajq},K (.tup []) (L ++ .cells [.ptr iv 0] :: .miter (some mn) ck seen ck::Z.set m (.cells (mh sr)))->ajp 55 [.lsl (L.length+2+m) 0 m0.length none 1,.func 56 [.ptr L.length 0]] (L ++ .cells [.ptr iv 0] :: .miter (some mn) ck seen ck::Z) K):=@hid _ (by intro K q;refine afI ht.o hmm.o hne (ajU hml.o hln) (hc.o.app _) (hid' _ _) (by rw[ajG (ajs _)];simp) ?_;rw[hst,hsr];exact q)
   rw[hsr]at h;have e4:(sr.map λx=>x.id).map (AV.int .i64)=mh sr:=(by rw[ajS];rfl);rw[e4,ajR]at h;clear hmm hml hne hsr hst hid' hZ;refine wk ?_;refine JS (i:=L.length+2+m) (l:=mh sr) ?_ ?_;rw[ajG amM,show L.length+2+m-L.length=m+1+1 by omega];simp[hm];rw[show(AV.lsl (L.length+2+m) 0 m0.length none 1).snap (L.length+2+m) (mh sr)=.sl (mh sr) sr.length none from by simp[AV.snap,<- hsl,aj3],ajZ _ _ amM];refine ab ?_ h.o;simp only[AV.refs];exact Yz _ sr
   .obtain⟨x,hx,rfl⟩:=ajy.1 he;clear he;have hs':seen.contains (bn x.id)=false:=hs;have hlt:=hid (ai8 hx hs');have hcm':=hid (hcm.o.next hx hs');have hmat:=aje (nb:=nb) (ck:=ck) (seen:=seen) hc.o.bnd hx;have hxn:=hc.o.nd x hx;have hxl:nb x.id<L.length:=(ajr.1 hxn).1;unfold kk at hxn;have axd:∀X:List Blk,(L++X)[nb x.id]?=some (.cells [dnA x.nm,.sl (aC (pth x)) x.nm.length none,atR x.av,.int .i64 (aZ (dx l) (NK x.nm):Nat)]):=λX=>by rw[ajw hxl];exact hxn
    have hin:=aep ht.o ha hx s;have hpl:(pth x).length=x.nm.length:=(by simp[pth,aW]);have hpa:(pth a).length=a.nm.length:=(by simp[pth,aW]);have hfil:(ps++[x]).filter (gr a s)=ps.filter (gr a s)++(if gr a s x=true then[x]else[]):=by rw[alV];congr 1;by_cases c:gr a s x=true<;>simp[c]
    have hx32:=(ht.o.ok x hx).len;have ha32:=(ht.o.ok a ha).len;have hml:=ajU (ak9 (gr a s) ps) hcm.o.len;rw[hpl,hpa]at hin;simp only[fG]at *;clear hs hs' hcm;simp only[i3];have w1:IntKind.i64.wrap ((x.nm.length:Int)-(a.nm.length:Int))=(x.nm.length:Int)-(a.nm.length:Int):=ae amM amM;have kE:Hid (∀{ca cb:Option Nat}{L:List Blk}{K:ajq},a.nm.length<=x.nm.length->K (.bool (decide (List.take a.nm.length (pth x)=pth a))) L->ajp 54 [.sl (List.take a.nm.length (aC (pth x))) a.nm.length ca,.sl (aC (pth a)) a.nm.length cb] L K):=@hid _ (by intro ca cb L K hle q;rw[<- amd];exact aiA (a:=(pth x).take a.nm.length) (b:=pth a) (by rw[akH,hpl];omega) hpa.symm (by rw[akH,hpl];omega) q)
    obtain⟨u,hu⟩:=ajl (decide (List.take a.nm.length (pth x)=pth a));rw[hu]at kE hin;obtain⟨xi,hxi⟩:=ajl (x.id);have hfT:gr a s x=true->(ps++[x]).filter (gr a s)=ps.filter (gr a s)++[x]:=λe=>by rw[hfil,if_pos e]
    have hfF:gr a s x=false->(ps++[x]).filter (gr a s)=ps.filter (gr a s):=λe=>by rw[hfil,if_neg (by rw[e];decide)];simp
    obtain⟨m0,hm0⟩:=ajl (ps.filter (gr a s));rw[hm0]at hv hfT hfF hml;obtain⟨nx,hnx⟩:=ajl (x.nm.length);obtain⟨na,hna⟩:=ajl (a.nm.length);rw[hxi]at hmat axd;rw[hnx,hna]at kE hin w1;rw[hnx]at axd hx32;rw[hna]at ad ha32;obtain⟨xp,hxp⟩:=ajl (aC (pth x));rw[hxp]at kE axd;have hxpl:xp.length=nx:=(by rw[<- hxp,ajR,hpl,hnx]);have out:gr a s x=false->Hid ((m0=[]/\v=.sl [] 0 (some 0))\/∃m,m0≠[]/\v=.lsl (L.length+2+m) 0 m0.length none 1/\Z[m]?=some (.cells (mh m0)))->Hid (((ps++[x]).filter (gr a s)=[]/\v=.sl [] 0 (some 0))\/∃m,(ps++[x]).filter (gr a s)≠[]/\v=.lsl (L.length+2+m) 0 ((ps++[x]).filter (gr a s)).length none 1/\Z[m]?=some (.cells (mh ((ps++[x]).filter (gr a s))))):=λe hv=>by rw[hfF e];exact hv
    rw[hna,hxi];rw[hxi]at hlt hcm';have hinF:=λ(e:gr a s x=false)=>out e hv
    clear out;replace hinF:=hid hinF;replace hin:=hid hin;have hids:=hid (show mh [x]=[.int .i64 xi]from by rw[<- hxi];rfl);clear hfil hxn hx hfF hpl hpa hxi hnx hna hu hxp hm0 ha hai e1;by_cases d1:na<=nx;rotate_left;have g1:¬(0:Int)<=(nx:Int)-(na:Int):=amM;have g2:¬(nx:Int)-(na:Int)≥0:=g1;have out:=hinF.o (by rw[hin.o,decide_eq_false g1];rfl);clear kE hin hinF hv hfT;refine amU ?_;refine amR hlt.o amQ ⟨_,ps++[x],_,_,rfl,hid hcm'.o,out.o,rfl,rfl⟩;have kk1:=@hid _ (λ{ca cb:Option Nat}{L:List Blk}{K:ajq}=>kE.o (ca:=ca) (cb:=cb) (L:=L) (K:=K) d1);have g1:(0:Int)<=(nx:Int)-(na:Int):=amM;have g2:(nx:Int)-(na:Int)≥0:=g1;have g3:(na:Int)<=(nx:Int):=amM;have hin:=hin.o;rw[decide_eq_true g1,aj7]at hin;replace hin:=hid hin;clear kE;cases u with
    | false =>
      have out:=hinF.o (by rw[hin.o];rfl);clear hin hinF hv hfT;refine amU ?_;refine amR hlt.o amQ ⟨_,ps++[x],_,_,rfl,hid hcm'.o,out.o,rfl,rfl⟩
    | true =>
      have hin:=hin.o;rw[aj7]at hin;replace hin:=hid hin;by_cases d2:s=2
      .subst d2;have hfl:=hid (hfT (by rw[hin.o];rfl));clear hin hinF hfT;rcases hv.o with⟨hm0,rfl⟩|⟨m,hne,rfl,hZ⟩
       .subst hm0;clear hv;refine amU ?_;refine amR hlt.o amQ ⟨_,ps++[x],_,Z++[.cells [.int .i64 xi]],rfl,hid hcm'.o,hid (.inr ⟨Z.length,by rw[hfl.o];simp,?_,by rw[hfl.o,aj0,hids.o];simp⟩),rfl,amN⟩;rw[hfl.o,show L.length+(Z.length+1+1)=L.length+2+Z.length by omega];rfl
       .have hm:m<Z.length:=(ajr.1 hZ).1;have hLZ:∀(a b:Blk),(L++a::b::Z)[L.length+2+m]?=some (.cells (mh m0)):=λa b=>by rw[ajG amM,show L.length+2+m-L.length=m+1+1 by omega];simpa using hZ
        have hds:∀(a b:Blk),(L++a::b::Z).set (L.length+2+m) .dead=L++a::b::Z.set m .dead:=λa b=>by rw[ajZ _ _ amM,show L.length+2+m-L.length=m+1+1 by omega];rfl
        obtain⟨C,hC⟩:=ajl (mh m0);obtain⟨d,hd⟩:=ajl (m0.length);have hCl:C.length=d:=(by rw[<- hC,ajR,hd]);have hCt:List.take d C=C:=aj3 amM;have hd2:d<=1100000:=amM;rw[hC]at hLZ;rw[hd];have hC2:=hid hC;have hd3:=hid hd;clear hv hZ hC hd hml;refine amU ?_;refine amR hlt.o amQ ⟨_,ps++[x],_,Z.set m .dead++[.cells (C++[.int .i64 xi])],rfl,hid hcm'.o,hid (.inr ⟨Z.length,by rw[hfl.o];simp,?_,by rw[hfl.o,show mh (m0++[x])=mh m0++mh [x]from ajV,hC2.o,hids.o,ajG amN];simp⟩),rfl,amN⟩;rw[hfl.o,show L.length+(Z.length+1+1)=L.length+2+Z.length by omega,ajA,hd3.o];rfl
      .by_cases d3:(nx:Int)-(na:Int)=s
       .have hfl:=hid (hfT (by rw[hin.o];rw[decide_eq_true d3,alP]));subst d3;clear hin hinF hfT;rcases hv.o with⟨hm0,rfl⟩|⟨m,hne,rfl,hZ⟩
        .subst hm0;clear hv;refine amU ?_;refine amR hlt.o amQ ⟨_,ps++[x],_,Z++[.cells [.int .i64 xi]],rfl,hid hcm'.o,hid (.inr ⟨Z.length,by rw[hfl.o];simp,?_,by rw[hfl.o,aj0,hids.o];simp⟩),rfl,amN⟩;rw[hfl.o,show L.length+(Z.length+1+1)=L.length+2+Z.length by omega];rfl
        .have hm:m<Z.length:=(ajr.1 hZ).1;have hLZ:∀(a b:Blk),(L++a::b::Z)[L.length+2+m]?=some (.cells (mh m0)):=λa b=>by rw[ajG amM,show L.length+2+m-L.length=m+1+1 by omega];simpa using hZ
         have hds:∀(a b:Blk),(L++a::b::Z).set (L.length+2+m) .dead=L++a::b::Z.set m .dead:=λa b=>by rw[ajZ _ _ amM,show L.length+2+m-L.length=m+1+1 by omega];rfl
         obtain⟨C,hC⟩:=ajl (mh m0);obtain⟨d,hd⟩:=ajl (m0.length);have hCl:C.length=d:=(by rw[<- hC,ajR,hd]);have hCt:List.take d C=C:=aj3 amM;have hd2:d<=1100000:=amM;rw[hC]at hLZ;rw[hd];have hC2:=hid hC;have hd3:=hid hd;clear hv hZ hC hd hml;refine amU ?_;refine amR hlt.o amQ ⟨_,ps++[x],_,Z.set m .dead++[.cells (C++[.int .i64 xi])],rfl,hid hcm'.o,hid (.inr ⟨Z.length,by rw[hfl.o];simp,?_,by rw[hfl.o,show mh (m0++[x])=mh m0++mh [x]from ajV,hC2.o,hids.o,ajG amN];simp⟩),rfl,amN⟩;rw[hfl.o,show L.length+(Z.length+1+1)=L.length+2+Z.length by omega,ajA,hd3.o];rfl
       .have out:=hinF.o (by rw[hin.o,decide_eq_false d2,decide_eq_false d3];rfl);clear hin hinF hv hfT;refine amU ?_;refine amR hlt.o amQ ⟨_,ps++[x],_,_,rfl,hid hcm'.o,out.o,rfl,rfl⟩
variable {L:List Blk}{K:ajq}
theorem aiN{rows:List AV}{i:Nat}(hn:rows.length<=1100000){Inv:Nat->List Blk->List Blk->Prop}{L:List Blk}{K:ajq}(hp:∀k A Z,Inv k A Z->A.length=L.length/\A[j]?=some (.cells [.sl rows rows.length cap]))(h0:Inv rows.length L [])(hs:∀k A Z X (Q:AV->List Blk->Prop),k<rows.length->X.length=3->Inv (k+1) A Z->(∀A' Z',Inv k A' Z'->Q (.bool true) (A'++(X++Z')))->Wo Tryz.prog i [rows.getD k .undef] (A++(X++Z)) Q)(hK:∀A Z,Inv 0 A Z->∀X,X.length=3->Fin L (.tup []) (A++(X++Z)) K):
  ajp 184 [.yld i,.ptr j 0] L K:=by
 have hL:=(hp _ _ _ h0).2;have hjl:j<L.length:=(ajr.1 hL).1;have hLx:∀x:Blk,(L++[x])[j]?=some (.cells [.sl rows rows.length cap]):=λx=>by rw[ajw hjl];exact hL
 have kk1:Hid (∀{L:List Blk}{K:ajq},K (.func 209 [.ptr L.length 0]) (L++[.cells [.sl rows rows.length cap]])->ajp 185 [.sl rows rows.length cap] L K):=@hid _ (by intro L K q;exact aiO q);replace hp:=hid hp;replace h0:=hid h0;replace hs:=hid hs;replace hK:=hid hK;refine ajo JB ?_;refine R6 (f:=209) (caps:=[.ptr (L.length+1) 0]) (λargs w=>rfl) rfl (λfn ca cb hca hcb hfx hfy hps=>?_);have hl:∀(A:List Blk) (hA:A.length=L.length) (a b c x y:Blk) (Z:List Blk),(A++([a,b,c]++Z))[(L++[x,y]).length]?=some c:=λA hA a b c x y Z=>by rw[ajG (by simp[hA])];simp[hA]
 have hls:∀(A:List Blk) (hA:A.length=L.length) (a b c c' x y:Blk) (Z:List Blk),(A++([a,b,c]++Z)).set (L++[x,y]).length c'=A++([a,b,c']++Z):=λA hA a b c c' x y Z=>by rw[ajZ _ _ (by simp[hA]),show(L++[x,y]).length-A.length=2 by simp[hA]];rfl
 refine agI (rows:=rows) (cap:=cap) hn (Inv:=λk L'=>∃A Z,L'=A++([.cells [.yld i],.cells [.sl rows rows.length cap],.lrec [(6,.func 209 [.ptr (L.length+1) 0]),(2,.ptr L.length 0),(0,.yld i),(1,.ptr j 0)] 13 fn [7,8] ca cb false]++Z)/\Inv k A Z) ?_ ?_ ?_ ?_;rintro k L' ⟨A,Z,rfl,hI⟩;have hA:=(hp.o _ _ _ hI).1;refine⟨?_,by simp[hA]⟩;rw[ajG amM,hA];simp;exact⟨L,[],amN,h0.o⟩;rintro k L' Q hk ⟨A,Z,rfl,hI⟩ hQ;have hA:=(hp.o _ _ _ hI).1;refine X9 (hl A hA _ _ _ _ _ _) hca hcb hfx hfy rfl hps ?_;simp only[NW];replace hQ:=hid hQ;replace hI:=hid hI;have hset:∀(A:List Blk) (hA:A.length=L.length) (a b c c':Blk) (Z:List Blk),(A++a::b::c::Z).set (L.length+2) c'=A++a::b::c'::Z:=λA hA a b c c' Z=>by rw[ajZ _ _ amM,show L.length+2-A.length=2 by omega];rfl
 have hget:∀(A:List Blk) (hA:A.length=L.length) (a b c:Blk) (Z:List Blk),(A++a::b::c::Z)[L.length+2]?=some c:=λA hA a b c Z=>by rw[ajG amM,show L.length+2-A.length=2 by omega];rfl
 have hg0:∀(a:Blk) (Z:List Blk),(A++a::Z)[L.length]?=some a:=λa Z=>by rw[ajG amM,show L.length-A.length=0 by omega];rfl
 replace hset:=hid hset;replace hget:=hid hget;clear hca hcb hfx hfy hps kk1 hl hls hL hLx;refine wk ?_;refine⟨hget.o _ hA _ _ _ _,?_⟩;rw[hset.o _ hA];refine wk ?_;rw[V1];refine hs.o k A Z [.cells [.yld i],.cells [.sl rows rows.length cap],.lrec [(6,.func 209 [.ptr (L.length+1) 0]),(2,.ptr L.length 0),(0,.yld i),(1,.ptr j 0)] 13 fn [7,8] ca cb true] _ hk rfl hI.o λA' Z' hI'=>?_
 have hA':=(hp.o _ _ _ hI').1;have hg1:∀(a:Blk) (Z:List Blk),(A'++a::Z)[L.length]?=some a:=λa Z=>by rw[ajG amM,show L.length-A'.length=0 by omega];rfl
 replace hI':=hid hI';clear hg0 hI hA;refine amU ?_;refine⟨rfl,hget.o _ hA' _ _ _ _,?_⟩;rw[hset.o _ hA'];exact hQ.o _ ⟨A',Z',rfl,hI'.o⟩;rintro L' ⟨A,Z,rfl,hI⟩;have hA:=(hp.o _ _ _ hI).1;refine ac ⟨hl A hA _ _ _ _ _ _,?_⟩;rw[hls A hA];clear hl hls hca hcb hfx hfy hps kk1;exact⟨.inl rfl,True,[],rfl,trivial,hK.o A Z hI _ rfl⟩
theorem Yx{k:Nat}(hk:k<p.length):p.reverse.take (p.length-k)=p.reverse.take (p.length-(k+1))++[p.getD k []]:=by rw[show p.length-k=p.length-(k+1)+1 by omega,ajN (by rw[akS];omega)];congr 2;rw[List.getElem_reverse];simp only[ajO];rw[ajF hk];simp only[aks];congr 1;omega
theorem aiV(hn:p.length<=1000){L:List Blk}(hj:L[j]?=some (.cells [.sl (aC p) p.length cap])){K:ajq}(h:K (.sl (aC p.reverse) p.length none) L):
  ajp 183 [.sl [] 0 (some 0),.func 184 [.ptr j 0]] L K:=by
 replace h:=hid h;have hjl:j<L.length:=(ajr.1 hj).1;refine ajo iq ?_;refine R6 (f:=184) (caps:=[.ptr j 0]) (λargs w=>rfl) rfl (λfn ca cb hca hcb hfx hfy hps=>?_);have hl:∀(a c x:Blk) (Z:List Blk),(L++[a,c]++Z)[(L++[x]).length]?=some c:=λa c x Z=>by rw[ajD,ajG amN];simp
 refine aiN (rows:=aC p) (cap:=cap) (by simp;omega) (Inv:=λk A Z=>∃v:AV,A=L++[.cells [v],.lrec [(6,.func 184 [.ptr j 0]),(4,.sl [] 0 (some 0)),(2,.ptr L.length 0),(0,.sl [] 0 (some 0)),(1,.func 184 [.ptr j 0])] 13 fn [7] ca cb false]/\((k=p.length/\v=.sl [] 0 (some 0))\/∃m,v=.lsl (L.length+5+m) 0 (p.length-k) none 1/\Z[m]?=some (.cells (aC (p.reverse.take (p.length-k)))))) ?_ ?_ ?_ ?_;rintro k A Z ⟨v,rfl,_⟩;refine⟨amN,?_⟩;rw[ajw hjl];simpa using hj;exact⟨_,amN,.inl ⟨amN,rfl⟩⟩;rintro k A Z X Q hk hX ⟨v,rfl,hv⟩ hQ;rw[ajR]at hk;obtain⟨x0,x1,x2,rfl⟩:∃a b c,X=[a,b,c]:=by
  match X,hX with
  |[a,b,c],_=>exact⟨a,b,c,rfl⟩
 obtain⟨s,hs⟩:=ajl (p.getD k []);have er:(aC p).getD k .undef=.str s:=by rw[<- hs];simp[hk]
 have etk:=Yx hk;rw[hs]at etk;rw[er];refine X9 (hl _ _ _ _) hca hcb hfx hfy rfl hps ?_;simp only[NW];replace hQ:=hid hQ;replace etk:=hid etk;clear hs er hca hcb hfx hfy hps hl h hj;have hset:∀(a c c':Blk) (Z:List Blk),(L++a::c::Z).set (L.length+1) c'=L++([a,c']++Z):=λa c c' Z=>by rw[ajZ _ _ amM,show L.length+1-L.length=1 by omega];rfl
 have hget:∀(a c:Blk) (Z:List Blk),(L++a::c::Z)[L.length+1]?=some c:=λa c Z=>by rw[ajG amM,show L.length+1-L.length=1 by omega];rfl
 replace hset:=hid hset;replace hget:=hid hget;rcases hv with⟨hk0,rfl⟩|⟨m,rfl,hZ⟩;refine wk ?_;refine⟨rfl,hget.o _ _ _,?_⟩;rw[hset.o];have:=hQ.o _ (Z++[.cells [.str s]]) ⟨_,rfl,.inr ⟨Z.length,rfl,by rw[etk.o,show p.length-(k+1)=0 by omega];simp⟩⟩;rw[show L.length+(Z.length+1+1+1+1+1)=L.length+5+Z.length by omega];rw[show p.length-k=1 by omega]at this;rw[ajD]at this;exact this;obtain⟨d,hd⟩:=ajl (p.length-(k+1));obtain⟨C,hC⟩:=ajl (aC (p.reverse.take (p.length-(k+1))));have hCl:C.length=d:=by rw[<- hC,ajR,akH,akS];omega
 have hCt:List.take d C=C:=aj3 amM;rw[hC]at hZ;rw[hd];have hm:m<Z.length:=(ajr.1 hZ).1;have hLZ:∀(a b c e f:Blk),(L++a::b::c::e::f::Z)[L.length+5+m]?=some (.cells C):=λa b c e f=>by rw[ajG amM,show L.length+5+m-L.length=m+1+1+1+1+1 by omega];simpa using hZ
 have hd2:d<=1000:=amM;have hds:∀(a b c e f:Blk),(L++a::b::c::e::f::Z).set (L.length+5+m) .dead=L++a::b::c::e::f::Z.set m .dead:=λa b c e f=>by rw[ajZ _ _ amM,show L.length+5+m-L.length=m+1+1+1+1+1 by omega];rfl
 refine wk ?_;refine⟨rfl,hget.o _ _ _,?_⟩;rw[hset.o];have:=hQ.o _ (Z.set m .dead++[.cells (C++[.str s])]) ⟨_,rfl,.inr ⟨Z.length,rfl,by rw[etk.o,<- hC,ajG amN];simp⟩⟩;rw[show L.length+(Z.length+1+1+1+1+1)=L.length+5+Z.length by omega];rw[show p.length-k=d+1 by omega]at this;rw[ajD]at this;exact this;rintro A Z ⟨v,rfl,hv⟩ X hX;obtain⟨x0,x1,x2,rfl⟩:∃a b c,X=[a,b,c]:=by
  match X,hX with
  |[a,b,c],_=>exact⟨a,b,c,rfl⟩
 have hls:∀(a c c' x:Blk) (Z:List Blk),(L++[a,c]++Z).set (L++[x]).length c'=L++a::c'::Z:=λa c c' x Z=>by rw[ajD,ajZ _ _ amN,show(L++[x]).length-L.length=1 by simp];rfl
 refine ac ⟨hl _ _ _ _,?_⟩;rw[hls];clear hls hl hca hcb hfx hfy hps hX hj;rcases hv with⟨h0,rfl⟩|⟨m,rfl,hZ⟩;have hnil:p=[]:=aj4.1 h0.symm;subst hnil;clear h0 hn;refine wk ?_;refine aJ ?_;rw[show(AV.sl [] 0 (some 0)).frz=.sl (aC ([]:Pth).reverse) ([]:Pth).length none from rfl];exact ab rfl h.o;rw[alz,aj3 (by rw[akS];omega)]at hZ;rw[alz];obtain⟨C,hC⟩:=ajl (aC p.reverse);have hCl:C.length=p.length:=by rw[<- hC,ajR,akS]
 rw[hC]at hZ h;have hLZ:∀(a b c e f:Blk),(L++a::b::c::e::f::Z)[L.length+5+m]?=some (.cells C):=λa b c e f=>by rw[ajG amM,show L.length+5+m-L.length=m+1+1+1+1+1 by omega];simpa using hZ
 refine wk ?_;refine JS (i:=L.length+5+m) (l:=C) (hLZ _ _ _ _ _) ?_;rw[show(AV.lsl (L.length+5+m) 0 p.length none 1).snap (L.length+5+m) C=.sl C p.length none from by simp[AV.snap,<- hCl],ajZ _ _ amM];exact ab (by rw[<- hC];simp only[AV.refs];exact kb _ _) h.o
theorem ahT(hn:p.length<=1000){L:List Blk}(hj:L[j]?=some (.cells [.sl (aC p) p.length cap])){K:ajq}(h:K (.sl (aC p.reverse) p.length none) L):
  ajp 127 [.func 184 [.ptr j 0]] L K:=by
 have kk1:Hid (∀{K:ajq},K (.sl (aC p.reverse) p.length none) L->ajp 183 [.sl [] 0 (some 0),.func 184 [.ptr j 0]] L K):=@hid _ (by intro K q;exact aiV hn hj q);replace h:=hid h;refine ajo qg ?_;exact ac h.o
theorem aiM{rows:List AV}{n:Nat}(h:K (.func 184 [.ptr L.length 0]) (L++[.cells [.sl rows n cap]])):
  ajp 128 [.sl rows n cap] L K:=by
 replace h:=hid h;refine ajo Ou ?_;exact ac h.o
theorem agk(hd:OkD d)(h:K (.str (aP true d)) L):
  ajp 126 [.sl (aC (NK d)) d.length cap,.str [44]] L K:=by
 obtain⟨q1,q2⟩:=UE hd;have hrl:∀r∈d,(cP true r).length<=200000:=λr hr=>OY (q2 r hr).1 (λa ha=>((q2 r hr).2 a ha).1) (λa ha=>((q2 r hr).2 a ha).2)
 have htl:=OR amM hrl;have e:aP true d=Lib.join (NK d) [44]:=rfl;rw[e]at h htl;rw[show d.length=(NK d).length from(aW d).symm];exact Q3 (by rw[aW];omega) amM h
theorem adr{L:List Blk}{it iv mn mi nb:Nat}{s lst a0 a2 a3:AV}{es:List (AV×AV×Nat)}{rs:List TKy}{ck ci n1:Nat}{l1:List AV}{c1:Option Nat}(hd:OkD d)(hit:L[it]?=some (.cells [.ptr iv 0]))(hiv:L[iv]?=some (.cells [s,.lmap mn,.lmap mi,lst]))(hmn:L[mn]?=some (.map es ck))(hf:cY (.int .i64 id) es 0=some (some (j,.ptr nb 0)))(hnb:L[nb]?=some (.cells [a0,.sl l1 n1 c1,a2,a3]))(hmi:L[mi]?=some (.map (rs.map kyA) ci))(hk:cY (.str (aP true d)) (rs.map kyA) 0=some none){K:ajq}(h:K (.tup []) ((L.set nb (.cells [dnA d,.sl (aC (NK d).reverse) d.length none,a2,a3])).set mi (.map ((rs++[(aP true d,id,ci)]).map kyA) (ci+1))++[.cells [.sl (aC (NK d).reverse) d.length none]])):
  ajp 79 [.ptr it 0,.int .i64 id,.sl (d.map ah) d.length cap] L K:=by
 have hkf:bw .int (.int .i64 id)=true:=rfl;have hd32:=hd.len;have hni:nb≠iv:=λe=>by rw[e,hiv]at hnb;simp at hnb
 have hnt:nb≠it:=λe=>by rw[e,hit]at hnb;simp at hnb
 have hnm:nb≠mn:=λe=>by rw[e,hmn]at hnb;simp at hnb
 have hnx:nb≠mi:=λe=>by rw[e,hmi]at hnb;simp at hnb
 have hnl:nb<L.length:=(ajr.1 hnb).1;have ht1:∀b,(L.set nb b)[it]?=some (.cells [.ptr iv 0]):=λb=>by rw[ajJ hnt];exact hit
 have hv1:∀b,(L.set nb b)[iv]?=some (.cells [s,.lmap mn,.lmap mi,lst]):=λb=>by rw[ajJ hni];exact hiv
 have hm1:∀b,(L.set nb b)[mi]?=some (.map (rs.map kyA) ci):=λb=>by rw[ajJ hnx];exact hmi
 have hn1:∀b,(L.set nb b)[nb]?=some b:=λb=>by simp[hnl]
 have hss:∀b c,(L.set nb b).set nb c=L.set nb c:=λb c=>List.set_set ..
 have kk1:Hid (∀{L:List Blk}{c:Option Nat}{K:ajq},K (dnA d) L->ajp 59 [.sl (d.map ah) d.length cap,.sl [] 0 c] L K):=@hid _ (by intro L c K q;exact XE hd.m.b.1 hd.m.b.2 q);have kk2:Hid (Ctr Tryz.prog 125 [.sl (d.map ah) d.length cap] (.sl (aC (NK d).reverse) d.length none)):=@hid _ (by intro L K q;exact ahy hd q);replace h:=hid h;refine ajo Ov ?_;have hil:iv<L.length:=(ajr.1 hiv).1;have htl:it<L.length:=(ajr.1 hit).1;have hml:mi<L.length:=(ajr.1 hmi).1;have ht2:∀b X,(L.set nb b++[X])[it]?=some (.cells [.ptr iv 0]):=λb X=>by rw[ajw (by simpa using htl)];exact ht1 b
 have hv2:∀b X,(L.set nb b++[X])[iv]?=some (.cells [s,.lmap mn,.lmap mi,lst]):=λb X=>by rw[ajw (by simpa using hil)];exact hv1 b
 have hm2:∀b X,(L.set nb b++[X])[mi]?=some (.map (rs.map kyA) ci):=λb X=>by rw[ajw (by simpa using hml)];exact hm1 b
 have hx2:∀b X Y,(L.set nb b++[X]).set mi Y=(L.set nb b).set mi Y++[X]:=λb X Y=>by rw[ak3 _ _ (by simpa using hml)]
 have kk3:Hid (∀{K:ajq},K (.sl (aC (NK d)) d.length none) ((L.set nb (.cells [dnA d,.sl (aC (NK d).reverse) d.length none,a2,a3]))++[.cells [.sl (aC (NK d).reverse) d.length none]])->ajp 127 [.func 184 [.ptr (L.set nb (.cells [dnA d,.sl (aC (NK d).reverse) d.length none,a2,a3])).length 0]] ((L.set nb (.cells [dnA d,.sl (aC (NK d).reverse) d.length none,a2,a3]))++[.cells [.sl (aC (NK d).reverse) d.length none]]) K):=@hid _ (by intro K q;have hl:(NK d).reverse.length=d.length:=(by rw[akS,aW]);have:=ahT (p:=(NK d).reverse) (cap:=none) (j:=(L.set nb (.cells [dnA d,.sl (aC (NK d).reverse) d.length none,a2,a3])).length) (L:=(L.set nb (.cells [dnA d,.sl (aC (NK d).reverse) d.length none,a2,a3]))++[.cells [.sl (aC (NK d).reverse) d.length none]]) amM (by rw[ajG (ajs _),hl];simp) (K:=K);rw[List.reverse_reverse,hl]at this;exact this q)
 have kk4:Hid (Ctr Tryz.prog 126 [.sl (aC (NK d)) d.length none,.str [44]] (.str (aP true d))):=@hid _ (by intro L K q;exact agk hd q);have hkf2:bw .str (.str (aP true d))=true:=rfl;obtain⟨tk,htk⟩:=ajl (aP true d);rw[htk]at kk4 hk hkf2 h;obtain⟨pp,hpp⟩:=ajl (aC (NK d).reverse);rw[hpp]at kk3 h⊢;have hee:(rs++[(tk,id,ci)]).map kyA=rs.map kyA++[(.str tk,.int .i64 id,ci)]:=by rw[ajV];rfl
 rw[hee]at h;clear kk1 kk2 hit hiv hmn hf hnb hmi htk hpp hee;refine⟨_,_,(show ajp 128 [.sl pp d.length none] _ _ from aiM ⟨rfl,rfl⟩),?_⟩;refine amU ?_;exact⟨.inl rfl,True,[],rfl,trivial,ac h.o⟩
def dc(kd:Int->Int)(x:aA):List AV:=[dnA x.nm,.sl (aC (pth x)) x.nm.length none,atR x.av,.int .i64 (kd x.id)]
structure bP(L:List Blk)(iv mn mi:Nat)(nb bn:Int->Nat)(ck ci:Nat)(rs:List TKy)(suf:List Rdn)(last:Int)(l lk:List aA)(kd:Int->Int):Prop where
 v:L[iv]?=some (.cells [dnA suf,.lmap mn,.lmap mi,.int .i64 last])
 n:L[mn]?=some (.map (l.map (fG nb bn)) ck)
 i:L[mi]?=some (.map (rs.map kyA) ci)
 nd:∀x∈l,L[nb x.id]?=some (.cells (dc kd x))
 inj:∀x∈l,∀y∈l,nb x.id=nb y.id->x.id=y.id
 keys:(rs.map (·.1)).Nodup
 mem:∀k id,(∃b,(k,id,b)∈rs)↔∃x∈lk,aP true x.nm=k/\x.id=id
 bnd:(l.map λx=>bn x.id).Nodup
 blt:∀x∈l,bn x.id<ck
theorem TOk.kidsE{suf:List Rdn}{last:Int}{l:List aA}(h:TOk suf last l)(hx:x∈l):gE l x.id=aZ (dx l) (NK x.nm):=by unfold gE;rw[h.ent hx]
theorem bO.toK{L:List Blk}{iv mn mi:Nat}{nb bn:Int->Nat}{ck ci:Nat}{rs:List TKy}{suf:List Rdn}{last:Int}{l:List aA}(h:bO L iv mn mi nb bn ck ci rs suf last l)(ht:TOk suf last l):bP L iv mn mi nb bn ck ci rs suf last l l (λid=>(gE l id:Nat)):=by
 have nd:∀x∈l,L[nb x.id]?=some (.cells (dc (λid=>(gE l id:Nat)) x)):=λx hx=>by rw[h.nd x hx];unfold kk dc;dsimp only;rw[ht.kidsE hx]
 refine⟨h.v,h.n,h.i,nd,λx hx y hy e=>?_,h.keys,h.mem,h.bnd,h.blt⟩;have h1:=h.nd x hx;have h2:=h.nd y hy;rw[e,h2]at h1;have h3:kk l y=kk l x:=by injection h1 with h1;injection h1
 unfold kk at h3;simp only[amf,AV.sl.injEq]at h3;have h4:aC (pth y)=aC (pth x):=h3.2.1.1;have h5:pth y=pth x:=(List.map_inj_right λa b hab=>by injection hab).1 h4;rw[ht.byN hy hx (Xo h5)]
theorem bP.toT{L:List Blk}{iv mn mi:Nat}{nb bn:Int->Nat}{ck ci:Nat}{rs:List TKy}{suf:List Rdn}{last:Int}{l:List aA}{kd:Int->Int}(h:bP L iv mn mi nb bn ck ci rs suf last l l kd)(hk:∀x∈l,kd x.id=(aZ (dx l) (NK x.nm):Nat)):bO L iv mn mi nb bn ck ci rs suf last l :=
 ⟨h.v,h.n,h.i,λx hx=>by rw[h.nd x hx];unfold dc kk;rw[hk x hx],h.keys,h.mem,h.bnd,h.blt⟩
theorem bP.app{L:List Blk}{iv mn mi:Nat}{nb bn:Int->Nat}{ck ci:Nat}{rs:List TKy}{suf:List Rdn}{last:Int}{l lk:List aA}{kd:Int->Int}(h:bP L iv mn mi nb bn ck ci rs suf last l lk kd)(X:List Blk):bP (L++X) iv mn mi nb bn ck ci rs suf last l lk kd:=by
 have key:∀{i:Nat}{b:Blk},L[i]?=some b->(L++X)[i]?=some b:=λ{i b} e=>by rw[ajw (ajr.1 e).1];exact e
 exact⟨key h.v,key h.n,key h.i,λx hx=>key (h.nd x hx),h.inj,h.keys,h.mem,h.bnd,h.blt⟩
section
variable {L:List Blk}{iv mn mi:Nat}{nb bn:Int->Nat}{ck ci:Nat}{rs:List TKy}{suf:List Rdn}{last:Int}{l lk:List aA}{kd:Int->Int}
def OfT(iv mn mi:Nat)(nb:Int->Nat)(l:List aA)(i:Nat):Prop:=i=iv\/i=mn\/i=mi\/∃x∈l,i=nb x.id
structure aF(B:Nat->Prop)(L L':List Blk):Prop where
 len:L.length<=L'.length
 eq:∀i,i<L.length->¬B i->L'[i]?=L[i]?
theorem aF.refl{B:Nat->Prop}(L:List Blk):aF B L L:=⟨ajs _,λ_ _ _=>rfl⟩
theorem aF.app{B:Nat->Prop}(L X:List Blk):aF B L (L++X):=⟨amN,λi hi _=>ajw hi⟩
theorem aF.trans{B:Nat->Prop}{L L1 L2:List Blk}(h:aF B L L1)(g:aF B L1 L2):aF B L L2:=⟨ajU h.len g.len,λi hi hb=>by rw[g.eq i (akK hi h.len) hb,h.eq i hi hb]⟩
theorem aF.set{B:Nat->Prop}(L:List Blk){j:Nat}(hj:B j)(b:Blk):aF B L (L.set j b):=⟨amN,λi hi hb=>ajJ (λe=>hb (by rw[<- e];exact hj))⟩
theorem aF.weak{B B':Nat->Prop}{L L':List Blk}(h:aF B L L')(hb:∀i,i<L.length->B i->B' i):aF B' L L':=⟨h.len,λi hi hn=>h.eq i hi λe=>hn (hb i hi e)⟩
theorem aF.trans2{B B':Nat->Prop}{L L1 L2:List Blk}(h:aF B L L1)(g:aF B' L1 L2)(hb:∀i,i<L.length->B' i->B i):aF B L L2:=⟨ajU h.len g.len,λi hi hn=>by rw[g.eq i (akK hi h.len) (λe=>hn (hb i hi e)),h.eq i hi hn]⟩
theorem aF.get{B:Nat->Prop}{L L':List Blk}(h:aF B L L'){i:Nat}{b:Blk}(hi:L[i]?=some b)(hb:¬B i):L'[i]?=some b:=by rw[h.eq i (ajr.1 hi).1 hb];exact hi
theorem bP.node(h:bP L iv mn mi nb bn ck ci rs suf last l lk kd)(id:Int):
  (l6 l id=none/\cY (.int .i64 id) (l.map (fG nb bn)) 0=some none)\/∃x n,l6 l id=some x/\x∈l/\x.id=id/\cY (.int .i64 id) (l.map (fG nb bn)) 0=some (some (n,.ptr (nb id) 0))/\L[nb id]?=some (.cells (dc kd x))/\l.getD n default=x:=by
 rw[xq];unfold l6;rcases eU (f:=λx:aA=>decide (x.id=id)) (l:=l)with⟨h1,h2⟩|⟨n,h1,h2,h3⟩;exact .inl ⟨h2,by rw[h1];rfl⟩;right;have hm:=ak6 h3;have hi:(l.getD n default).id=id:=by have:=ak7 h3;simpa using this
 refine⟨_,n,h3,hm,hi,by rw[h1];simp,?_,rfl⟩;have:=h.nd _ hm;rwa[hi]at this
theorem bP.look(h:bP L iv mn mi nb bn ck ci rs suf last l lk kd)(ht:TOk suf last lk){d:List Rdn}(hd:OkD d):
  (aV lk d=0/\atE lk d=none/\cY (.str (aP true d)) (rs.map kyA) 0=some none)\/∃j,cY (.str (aP true d)) (rs.map kyA) 0=some (some (j,.int .i64 (aV lk d)))/\j<rs.length/\(rs.getD j default).1=aP true d:=by
 rw[xt];rcases eU (f:=λr:TKy=>decide (r.1=aP true d)) (l:=rs)with⟨h1,h2⟩|⟨n,h1,hn,h2⟩;left;have hno:atE lk d=none:=qt.2 λ_ x hx e=>by obtain⟨b,hb⟩:=(h.mem (aP true x.nm) x.id).2 ⟨x,hx,rfl,rfl⟩;have:=akJ.1 h2 _ hb;simp only[decide_eq_true_eq]at this;exact this ((gN (ht.ok x hx) hd).2 e)
 exact⟨ht.find0.2 hno,hno,by rw[h1];rfl⟩;right;refine⟨n,?_⟩;obtain⟨⟨k,id,b⟩,hr⟩:∃r,rs.getD n default=r:=⟨_,rfl⟩;have hm:=ak6 h2;have hk:k=aP true d:=by have:=ak7 h2;rw[hr]at this;simpa using this
 rw[hr]at hm;obtain⟨x,hx,e1,e2⟩:=(h.mem k id).1 ⟨b,hm⟩;have:atE lk d=some x:=ht.at hx hd ((gN hd (ht.ok x hx)).1 (by rw[<- hk,e1]));rw[h1];refine⟨by simp only[ajQ,hr,akw,aV,this,e2],hn,by rw[hr];exact hk⟩
theorem agu{d:List Rdn}{cap:Option Nat}(hd:dnB d)(ht:TOk suf last lk)(hc:bP L iv mn mi nb bn ck ci rs suf last l lk kd){K:ajq}(h:K (.int .i64 (aV lk d)) L):
  ajp 24 [.ptr iv 0,.sl (d.map ah) d.length cap] L K:=by
 replace h:=hid h;obtain⟨⟨s,e⟩,hse⟩:∃q,tf d=q:=⟨_,rfl⟩;have kk1:Hid (Ctr Tryz.prog 58 [.sl (d.map ah) d.length cap] (.tup [.str s,.int .i64 e])):=@hid _ (by intro L K q;exact Rz hd.1 hd.2 (by rw[hse];exact q));have hv:=hc.v;have hi:=hc.i;by_cases he:e=0;subst he;have hod:OkD d:=by by_cases c:OkD d;exact c;exact absurd (by rw[hse]) (xT c)
 have hs:s=aP true d:=by have:=eu hod;rw[hse]at this;injection this
 rcases hc.look ht hod with⟨h0,_,h1⟩|⟨j,h1,_⟩;rw[<- hs]at h1;rw[h0]at h;have hkf:bw .str (.str s)=true:=rfl;clear hse hc hs;refine ajo cV ?_;exact ac h.o;rw[<- hs]at h1;have hkf:bw .str (.str s)=true:=rfl;obtain⟨z,hz⟩:=ajl (aV lk d);rw[hz]at h h1;clear hse hc hs hz;refine ajo cV ?_;exact ac h.o;have h0:aV lk d=0:=by refine ht.find0.2 (qt.2 λc=>?_);have:=eu c;rw[hse]at this;exact absurd (by injection this) he
 rw[h0]at h;clear hse hc;refine ajo cV ?_;exact ac h.o
theorem bP.kid(h:bP L iv mn mi nb bn ck ci rs suf last l lk kd){x:aA}(hx:x∈l)(by':Int):bP (L.set (nb x.id) (.cells [dnA x.nm,.sl (aC (pth x)) x.nm.length none,atR x.av,.int .i64 (kd x.id+by')])) iv mn mi nb bn ck ci rs suf last l lk (λi=>if i=x.id then kd i+by' else kd i):=by
 have hnx:=h.nd x hx;have hl:=(ajr.1 hnx).1;have n1:nb x.id≠iv:=λe=>by rw[e,h.v]at hnx;simp[dc]at hnx
 have n2:nb x.id≠mn:=λe=>by rw[e,h.n]at hnx;simp at hnx
 have n3:nb x.id≠mi:=λe=>by rw[e,h.i]at hnx;simp at hnx
 refine⟨by rw[ajJ n1];exact h.v,by rw[ajJ n2];exact h.n,by rw[ajJ n3];exact h.i,λy hy=>?_,h.inj,h.keys,h.mem,h.bnd,h.blt⟩;by_cases e:nb x.id=nb y.id;have hi:=h.inj x hx y hy e;have hxy:dc kd x=dc kd y:=by have h2:=h.nd y hy;rw[<- e,hnx]at h2;injection h2 with h2;injection h2
 rw[<- e];simp only[hl,akY,ajt,Blk.cells.injEq];unfold dc at hxy⊢;simp only[amf]at hxy;dsimp only;rw[if_pos hi.symm,hxy.1,hxy.2.1,hxy.2.2.1,hi];rw[ajJ e,h.nd y hy];unfold dc;dsimp only;rw[if_neg (λe2=>e (by rw[e2]))]
theorem adY{it:Nat}{d:List Rdn}{cap:Option Nat}{b:Int}(hd:dnB d)(hne:d≠[])(ht:TOk suf last lk)(hsub:∀x∈lk,∃y∈l,y.id=x.id)(hit:L[it]?=some (.cells [.ptr iv 0]))(hc:bP L iv mn mi nb bn ck ci rs suf last l lk kd)(hb : -1<=b/\b<=1)(hkd:∀i,-10000000<=kd i/\kd i<=10000000){K:ajq}(h0:aV lk d.tail=0->K (.tup []) L)(h1:∀x∈l,x.id=aV lk d.tail->K (.tup []) (L.set (nb x.id) (.cells [dnA x.nm,.sl (aC (pth x)) x.nm.length none,atR x.av,.int .i64 (kd x.id+b)]))):
  ajp 80 [.ptr it 0,.sl (d.map ah) d.length cap,.int .i64 b] L K:=by
 obtain⟨r,d',rfl⟩:∃r d',d=r::d':=by
  cases d with
  |nil=>exact absurd rfl hne
  |cons r d'=>exact⟨r,d',rfl⟩
 simp only[List.tail_cons]at h0 h1;have hdt:dnB d':=⟨by have:=hd.1;simp at this;omega,λr hr=>hd.2 r (by simp[hr])⟩;obtain⟨z,hz⟩:=ajl (aV lk d');have kk1:Hid (∀{c:Option Nat}{K:ajq},K (.int .i64 z) L->ajp 24 [.ptr iv 0,.sl (List.take d'.length (d'.map ah)) d'.length c] L K):=@hid _ (by intro c K q;rw[aj3 amN];exact agu hdt ht hc (by rw[hz];exact q))
 have hlen:(((r::d').length:Nat):Int)=(d'.length:Int)+1:=amN;have g1:(1:Int)<=((r::d').length:Int):=by rw[hlen];omega
 have g2:(r::d').length-1=d'.length:=amN;have g3:List.drop 1 ((r::d').map ah)=d'.map ah:=amN;have hv:=hc.v;have hn:=hc.n;by_cases hz0:z=0;subst hz0;replace h:=hid (h0 hz);obtain⟨D,hD⟩:=ajl ((r::d').map ah);obtain⟨n,hnn⟩:=ajl ((r::d').length);rw[hD]at g3⊢;rw[hnn]at g1 g2⊢;clear h0 h1 hz hc hkd hsub ht hd hdt hne hlen hD hnn;refine ajo jZ ?_;exact bz ⟨.inl rfl,True,[],rfl,trivial,ac h.o⟩;obtain⟨y,hy⟩:∃y,atE lk d'=some y:=by
  cases hq:atE lk d' with
  |none=>exact absurd (ht.find0.2 hq) (by rw[hz];exact hz0)
  |some y=>exact⟨y,rfl⟩
 have hyz:y.id=z:=by rw[<- hz];unfold aV;rw[hy]
 obtain⟨_,hyl,_⟩:=bW hy;have hzp:=(ht.ids y hyl).1;obtain⟨x',hx',hxi⟩:=hsub y hyl;rcases hc.node z with⟨e1,_⟩|⟨x,j,e1,hx,hxz,e2,e3,_⟩;exact absurd (akJ.1 e1 x' hx') (by simp[hxi,hyz]);have h:=h1 x hx (by rw[hxz,hz]);rw[hxz]at h;replace h:=hid h;unfold dc at e3;rw[hxz]at e3;obtain⟨q,hq⟩:=ajl (kd z);have hqb:=hkd z;rw[hq]at h e3 hqb;have w1:IntKind.i64.wrap (q+b)=q+b:=ae amM amM;have hkf:bw .int (.int .i64 z)=true:=rfl;have g4:(0:Int)<z:=amM;have g5:z>0:=g4;obtain⟨D,hD⟩:=ajl ((r::d').map ah);obtain⟨n,hnn⟩:=ajl ((r::d').length);rw[hD]at g3⊢;rw[hnn]at g1 g2⊢;clear h0 h1 hz hc hkd hsub ht hd hdt hne hlen hD hnn hy hyz hyl hzp hxi hx' e1 hx hxz hq hqb;refine ajo jZ ?_;exact⟨.inl rfl,True,[],rfl,trivial,ac h.o⟩
end
set_option maxHeartbeats 8000000
set_option maxRecDepth 100000
theorem abb{suf:List Rdn}{last:Int}{l:List aA}(ht:TOk suf last l)(hn:l.length<=1000000){rt:Nat}{c:Option Nat}{b:AV}{L:List Blk}(hL:L[rt]?=some (.cells [dnA suf,.sl (aX l) l.length c,b])){dn tn:List Rdn}{k:Int}{v:AV}(hdm:dnM dn)(htm:dnM tn){K:ajq}(h:K (.int .i64 (fe suf l k dn tn)) L):
  ajp 81 [.ptr rt 0,.agg [.int .i64 k,dnA dn,dnA tn,v]] L K:=by
 have hsm:=ht.sok.m;have hrl:=(ajr.1 hL).1;have ar:∀X:List Blk,(L++X)[rt]?=some (.cells [dnA suf,.sl (aX l) l.length c,b]):=λX=>by rw[ajw hrl];exact hL
 have hel:=oP l;obtain⟨⟨ps,pe⟩,hp⟩:∃q,prS dn=q:=⟨_,rfl⟩;have kk1:Hid (Ctr Tryz.prog 37 [dnA dn] (.tup [.str ps,.int .i64 pe])):=@hid _ (by intro L K q;exact gO hdm.1 hdm.2 (by rw[hp];exact q));have kk2:Hid (Ctr Tryz.prog 129 [dnA dn,dnA suf] (.bool (gF dn suf))):=@hid _ (by intro L K q;exact ab0 hdm hsm q);have p1:OkD dn↔pe=0:=by unfold OkD;rw[hp]
 have kk3:Hid (∀{X:List Blk}{K:ajq},K (.int .i64 (atI l dn)) (L++X)->ajp 82 [.ptr rt 0,dnA dn] (L++X) K):=@hid _ (by intro X K q;exact YB ht.ok hdm amM (ar X) q)
 unfold fe at h;by_cases hk:k<1\/4<k;rw[if_pos hk]at h;replace h:=hid h;clear hp p1;by_cases d1:k<1;refine ajo az ?_;exact ab rfl h.o;have d2:4<k:=amM;have d3:k>4:=d2;refine ajo az ?_;exact ab rfl h.o;rw[if_neg hk]at h;have d1:¬k<1:=amM;have d2:¬4<k:=amM;have d3:¬k>4:=d2;by_cases k1:k=1
 .subst k1;rw[if_pos rfl]at h;by_cases c1:pe=0;rotate_left;rw[if_pos (λc=>c1 (p1.1 c))]at h;replace h:=hid h;clear hp p1 hk;refine ajo az ?_;exact ab rfl h.o;have hod:=p1.2 c1;subst c1;rw[if_neg (λc=>c hod)]at h;rcases yA l dn with⟨q1,q2⟩|⟨n,hlt,q1,q2⟩
  rotate_left
  rw[if_pos (by rw[q2];simp)]at h;rw[q1]at kk3;have g0:(0:Int)<=(n:Int):=amM;have g1:(n:Int)≥0:=g0;replace h:=hid h;clear hp p1 hk;refine ajo az ?_;exact ab rfl h.o;rw[if_neg (λc=>c q2)]at h;rw[q1]at kk3;have hdl:=hod.len;obtain⟨sm,hsmm⟩:=ajl (gF dn suf);rw[hsmm]at h kk2;have hlast:∀{h4:K (.int .i64 (if 4096<=l.length then 80 else 0)) L},(4096<=l.length/\K (.int .i64 80) L)\/(¬4096<=l.length/\K (.int .i64 0) L):=λ{h4}=>by by_cases c:4096<=l.length;rw[if_pos c]at h4;exact .inl ⟨c,h4⟩;rw[if_neg c]at h4;exact .inr ⟨c,h4⟩
  cases sm with
  | true =>
    rw[if_neg (λc=>by cases c.1)]at h;rcases hlast (h4:=h)with⟨c,h⟩|⟨c,h⟩
    .have c':(4096:Int)<=(l.length:Int):=amM;have c'':(l.length:Int)≥4096:=c';replace h:=hid h;clear hlast hp p1 hk;refine ajo az ?_;exact ab rfl h.o
    .have c':¬(4096:Int)<=(l.length:Int):=amM;have c'':¬(l.length:Int)≥4096:=c';replace h:=hid h;clear hlast hp p1 hk;refine ajo az ?_;exact ab rfl h.o
  | false =>
    by_cases c3:dn=[]
    .rw[if_pos ⟨rfl,.inl c3⟩]at h;subst c3;replace h:=hid h;clear hlast hp p1 hk;refine ajo az ?_;exact ab rfl h.o
    have hl3:¬(dn.length:Int)=0:=λc=>c3 (aj4.1 amM)
    have hl4:(1:Int)<=(dn.length:Int):=amM;have htt:dn.tail.length=dn.length-1:=ak5;have hdr:List.take (dn.length-1) (List.drop 1 (dn.map ah))=dn.tail.map ah:=(by rw[amc,List.map_tail,aj3 amN]);have kk4:Hid (∀{c:Option Nat}{X:List Blk}{K:ajq},K (.int .i64 (atI l dn.tail)) (L++X)->ajp 82 [.ptr rt 0,.sl (List.take (dn.length-1) (List.drop 1 (dn.map ah))) (dn.length-1) c] (L++X) K):=@hid _ (by intro c X K q;rw[hdr,<- htt];exact YB ht.ok hod.tail.m amM (ar X) q)
    rcases yA l dn.tail with⟨r1,r2⟩|⟨n,hlt,r1,r2⟩
    .rw[if_pos ⟨rfl,.inr r2⟩]at h;rw[r1]at kk4;replace h:=hid h;clear hlast hp p1 hk hdr;refine ajo az ?_;exact ab rfl h.o
    rw[if_neg (λc=>c.2.elim c3 λc=>by rw[r2]at c;cases c)]at h;rw[r1]at kk4;have g0:¬(n:Int)<0:=amM;rcases hlast (h4:=h)with⟨c,h⟩|⟨c,h⟩
    .have c':(4096:Int)<=(l.length:Int):=amM;have c'':(l.length:Int)≥4096:=c';replace h:=hid h;clear hlast hp p1 hk hdr;refine ajo az ?_;exact ab rfl h.o
    .have c':¬(4096:Int)<=(l.length:Int):=amM;have c'':¬(l.length:Int)≥4096:=c';replace h:=hid h;clear hlast hp p1 hk hdr;refine ajo az ?_;exact ab rfl h.o
 rw[if_neg k1]at h;have hkk:k=2\/k=3\/k=4:=amM;rcases yA l dn with⟨q1,hx⟩|⟨n,hlt,q1,hx⟩;rw[hx]at h;rw[q1]at kk3;simp only at h;replace h:=hid h;clear hp p1 hk;refine ajo az ?_;exact ab rfl h.o;obtain⟨x,hxe⟩:=ajl (l.getD n default);rw[hxe]at hx;rw[hx]at h;rw[q1]at kk3;simp only at h;obtain⟨hod,hxl,hxn⟩:=bW hx;have g0:¬(n:Int)<0:=amM;have g1:(0:Int)<=(n:Int):=amM;have g2:(n:Int)<(l.length:Int):=amM;obtain⟨e5,_,_⟩:=xA hlt;rw[hxe]at e5;have e4:n*3<(aX l).length:=by rw[hel];omega
 have kk4:Hid (∀{X:List Blk}{K:ajq},K (.int .i64 (aZ (dx l) (NK x.nm):Nat)) (L++X)->ajp 130 [.ptr rt 0,.int .i64 x.id] (L++X) K):=@hid _ (by intro X K q;refine af2 ht amM (ar X) ?_;rw[ht.kidsE hxl];exact q)
 obtain⟨kn,hkn⟩:=ajl (aZ (dx l) (NK x.nm));rw[hkn]at kk4 h;by_cases k2:k=2
 .subst k2;rw[if_pos rfl]at h;by_cases ck:kn=0
  .rw[if_neg (λe=>e ck)]at h;subst ck;replace h:=hid h;clear hp p1 hk hkk hkn;refine ajo az ?_
   all_goals exact ab rfl h.o
  rw[if_pos ck]at h;have c1:(0:Int)<(kn:Int):=amM;have c2:(kn:Int)>0:=c1;replace h:=hid h;clear hp p1 hk hkk hkn;refine ajo az ?_;exact ab rfl h.o
 rw[if_neg k2]at h;by_cases k3:k=3;subst k3;rw[if_pos rfl]at h;replace h:=hid h;clear hp p1 hk hkk hkn;refine ajo az ?_;exact ab rfl h.o;rw[if_neg k3]at h;have k4:k=4:=amM;subst k4;clear hkk hk k1 k2 k3 kk4 hkn;unfold Xx at h;obtain⟨⟨ts,te⟩,htp⟩:∃q,prS tn=q:=⟨_,rfl⟩;have kk1:Hid (Ctr Tryz.prog 37 [dnA tn] (.tup [.str ts,.int .i64 te])):=@hid _ (by intro L K q;exact gO htm.1 htm.2 (by rw[htp];exact q));have pt:OkD tn↔te=0:=by unfold OkD;rw[htp]
 by_cases c1:gF dn suf=true;rw[if_pos c1]at h;rw[c1]at kk2;replace h:=hid h;clear hp p1 htp pt;refine ajo az ?_;exact ab rfl h.o;rw[if_neg c1]at h;rw[amw.2 c1]at kk2;by_cases c2:te=0;rotate_left;rw[if_pos (.inl λc=>c2 (pt.1 c))]at h;replace h:=hid h;clear hp p1 htp pt;refine ajo az ?_;exact ab rfl h.o;have hto:=pt.2 c2;have ht32:=hto.len;subst c2;by_cases c3:tn=[];rw[if_pos (.inr c3)]at h;replace h:=hid h;subst c3;clear hp p1 htp pt;refine ajo az ?_;exact ab rfl h.o;rw[if_neg (λc=>c.elim (λc=>c hto) c3)]at h;have hl3:¬(tn.length:Int)=0:=λc=>c3 (aj4.1 amM)
 have hl4:(1:Int)<=(tn.length:Int):=amM;have htt:tn.tail.length=tn.length-1:=ak5;have hdr:List.take (tn.length-1) (List.drop 1 (tn.map ah))=tn.tail.map ah:=by rw[amc,List.map_tail,aj3 amN]
 have hot:=hto.tail;have kk4:Hid (∀{c:Option Nat}{L:List Blk}{K:ajq},K (.bool (bA tn.tail dn)) L->ajp 38 [.sl (List.take (tn.length-1) (List.drop 1 (tn.map ah))) (tn.length-1) c,dnA dn] L K):=@hid _ (by intro c L K q;rw[hdr,<- htt];exact kO hot.m hdm q)
 have kk5:Hid (∀{c:Option Nat}{X:List Blk}{K:ajq},K (.int .i64 (atI l tn.tail)) (L++X)->ajp 82 [.ptr rt 0,.sl (List.take (tn.length-1) (List.drop 1 (tn.map ah))) (tn.length-1) c] (L++X) K):=@hid _ (by intro c X K q;rw[hdr,<- htt];exact YB ht.ok hot.m amM (ar X) q)
 by_cases c4:bA tn.tail dn=true;rw[if_pos c4]at h;rw[c4]at kk4;replace h:=hid h;clear hp p1 htp pt hdr kk5;refine ajo az ?_;exact ab rfl h.o;rw[if_neg c4]at h;rw[amw.2 c4]at kk4;rcases yA l tn.tail with⟨r1,r2⟩|⟨n2,hlt2,r1,r2⟩;rw[if_pos r2]at h;rw[r1]at kk5;replace h:=hid h;clear hp p1 htp pt hdr;refine ajo az ?_;exact ab rfl h.o;rw[if_neg (by rw[r2];simp)]at h;rw[r1]at kk5;have g3:¬(n2:Int)<0:=amM;have kk6:Hid (∀{X:List Blk}{K:ajq},K (.int .i64 (atI l tn)) (L++X)->ajp 82 [.ptr rt 0,dnA tn] (L++X) K):=@hid _ (by intro X K q;exact YB ht.ok hto.m amM (ar X) q)
 have hoth:Z3 l x.id tn=(decide (0<=atI l tn)&&decide (atI l tn≠(n:Int))):=by unfold Z3;rcases yA l tn with⟨s1,s2⟩|⟨n3,hlt3,s1,s2⟩;rw[s1,s2];rfl;rw[s1,s2];simp only;rw[decide_eq_true (by omega:(0:Int)<=(n3:Int)),aj7];congr 1;apply propext;have hm3:l.getD n3 default∈l:=(by simp[hlt3]);constructor;intro e e2;have:n3=n:=amM;subst this;exact e (by rw[hxe]);intro e e2;have:=ht.byI hm3 hxl e2;rw[<- hxe]at this;have hnd:=ht.nodup;rw[ajO,ajO,ajF hlt3,ajF hlt]at this;simp only[aks]at this;rcases alO n3 n with q|q|q;exact akB.1 hnd n3 n hlt3 hlt q this;exact e amM;exact akB.1 hnd n n3 hlt hlt3 q this.symm
 rw[hoth]at h;obtain⟨w,hw⟩:=ajl (atI l tn);rw[hw]at kk6 h;by_cases c6:0<=w/\w≠(n:Int);obtain⟨c6,c7⟩:=c6;have c6':w≥0:=c6;rw[if_pos (by rw[decide_eq_true c6,decide_eq_true c7];rfl)]at h;replace h:=hid h;clear hp p1 htp pt hdr hoth hw;refine ajo az ?_;exact ab rfl h.o;rw[if_neg (by intro c;rw[ajv,decide_eq_true_eq,decide_eq_true_eq]at c;exact c6 c)]at h
 have c9:(¬0<=w/\¬w≥0)\/(0<=w/\w≥0/\w=(n:Int)):=amM;have kU:Hid (∀y∈l,∀{L:List Blk}{K:ajq},K (.bool (bA y.nm dn)) L->ajp 38 [dnA y.nm,dnA dn] L K):=@hid _ (by intro y hy L K q;exact kO (ht.ok y hy).m hdm q);replace h:=hid h;replace ht:=hid ht;clear hp p1 htp pt hdr hoth hw c6;rcases c9 with⟨c9,c9'⟩|⟨c9,c9',rfl⟩
 all_goals
  refine ajo az ?_;clear kk1 kk2 kk3 kk4 kk5 kk6;refine aq (λm T' L'=>∃j:Nat,m=l.length-j/\j<=l.length/\Hid (∀i,i<j->(bA (l.getD i default).nm dn && !decide (OkD (gm (l.getD i default).nm dn.length tn)))=false)/\Hid (∃Z,L'=L++(.cells [.int .i64 4,dnA dn,dnA tn,v]::Z))/\T'=[(139,.int .i64 (j:Int)),(138,.int .i64 l.length),(137,.sl (aX l) l.length c),(3,.ptr L.length 0),(0,.ptr rt 0)]) amQ ⟨0,rfl,aju _,hid (λi hi=>absurd hi (alX _)),hid ⟨[],rfl⟩,rfl⟩ ?_;rintro _ _ L1 ⟨j,rfl,hj,hI,hZ,rfl⟩;have hb1:∀X:List Blk,(L1++X)[L.length]?=some (.cells [.int .i64 4,dnA dn,dnA tn,v]):=λX=>by obtain⟨Z,rfl⟩:=hZ.o;rw[ajD,ajG (ajs _)];simp
  have hgt:∀(b:Blk) (X:List Blk),(L1++b::X)[L1.length]?=some b:=λb X=>by rw[ajG (ajs _)];simp
  have hL1l:L.length+1<=L1.length:=(by obtain⟨Z,rfl⟩:=hZ.o;simp);have hZ1:∀X,Hid (∃Z,L1++X=L++(.cells [.int .i64 4,dnA dn,dnA tn,v]::Z)):=λX=>by obtain⟨Z,rfl⟩:=hZ.o;exact hid ⟨Z++X,amN⟩
  by_cases hjl:j<l.length
  .have j1:(j:Int)<(l.length:Int):=amM;have j2:=ajn j amM;have e6:=qd hjl;have e7:j*3+3<=(aX l).length:=(by rw[hel];omega);have hym:l.getD j default∈l:=(by simp[hjl]);obtain⟨y,hy⟩:=ajl (l.getD j default);rw[hy]at e6 hym;unfold Om atR at e6;have hoy:=ht.o.ok y hym;have kk1:=@hid _ (λ{L:List Blk}{K:ajq}=>kU.o y hym (L:=L) (K:=K));obtain⟨u,hu⟩:=ajl (bA y.nm dn);rw[hu]at kk1;have hnext:(u && !decide (OkD (gm y.nm dn.length tn)))=false->Hid (∀i,i<j+1->(bA (l.getD i default).nm dn && !decide (OkD (gm (l.getD i default).nm dn.length tn)))=false):=λhb=>hid λi hi=>by by_cases e:i=j;subst e;rw[hy,hu];exact hb;exact hI.o i amM
   obtain⟨yi,hyi⟩:=ajl (y.id);obtain⟨ya,hya⟩:=ajl (aB y.av);obtain⟨yk,hyk⟩:=ajl (y.av.length);rw[hyi,hya,hyk]at e6;cases u with
   | false =>
     have hn2:=hnext rfl;clear hnext hI hZ hyi hya hyk hoy hy kU;refine wk ?_;exact amR amM (CutL (b:=by simp;omega)) ⟨j+1,rfl,hjl,hn2,hZ1 _,rfl⟩
   | true =>
     have hyle:dn.length<=y.nm.length:=by have:=(bL.1 hu).2.2.length_le;rwa[aW,aW]at this
     have hy32:=hoy.len;obtain⟨Z,hZe⟩:=ajl (gm y.nm dn.length tn);have hZm:dnM Z:=by rw[<- hZe];unfold gm;refine⟨by simp;omega,λr hr=>?_⟩;rcases ajx.1 hr with hr|hr;exact hoy.m.2 r (amg hr);exact htm.2 r hr
     have kk2:Hid (Ctr Tryz.prog 83 [dnA y.nm,.int .i64 (dn.length:Int),dnA tn] (dnA Z)):=@hid _ (by intro L K q;exact Xw amM amM hyle (by rw[hZe];exact q))
     obtain⟨⟨zs,ze⟩,hzp⟩:∃u,prS Z=u:=⟨_,rfl⟩;have kk3:Hid (Ctr Tryz.prog 37 [dnA Z] (.tup [.str zs,.int .i64 ze])):=@hid _ (by intro L K u;exact gO hZm.1 hZm.2 (by rw[hzp];exact u));have pz:OkD Z↔ze=0:=(by unfold OkD;rw[hzp]);by_cases hz0:ze=0;have hn2:=hnext (by rw[hZe,decide_eq_true (pz.2 hz0)];rfl);subst hz0;clear hnext hI hZ hyi hya hyk hoy hy kU hZe hZm hzp pz hyle;refine wk ?_;exact amR amM (CutL (b:=by simp;omega)) ⟨j+1,rfl,hjl,hn2,hZ1 _,rfl⟩;have hbad:aaG l dn tn=true:=akX.2 ⟨y,hym,by rw[hu,hZe,decide_eq_false (λc=>hz0 (pz.1 c))];rfl⟩;have h':=h.o;rw[if_pos hbad]at h';replace h':=hid h';have hZ2:=hZ1;clear hnext hI hyi hya hyk hoy hy kU hZe hZm hzp pz hyle hbad hZ1;refine wk ?_;obtain⟨Z2,rfl⟩:=hZ.o;rw[ajD];exact ab rfl h'.o
  .have hje:j=l.length:=amM;subst hje;have j1:¬(l.length:Int)<(l.length:Int):=amM;have hgood:¬aaG l dn tn=true:=λcc=>by obtain⟨y,hy,hb⟩:=akX.1 cc;obtain⟨i,hi,rfl⟩:=akk.1 hy;have:=hI.o i hi;rw[show l.getD i default=l[i]by simp[hi]]at this;rw[this]at hb;cases hb
   have h':=h.o;rw[if_neg hgood]at h';replace h':=hid h';clear hI hgood kU;refine wk ?_;obtain⟨Z2,rfl⟩:=hZ.o;exact ab rfl h'.o
end Go.Proofs.YtdnfjhflkkpokaaGreatDoor.Av
