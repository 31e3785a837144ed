/- Joined texts of the walk, made small by a program. -/
import Derived.Test.YtkkgmgmgcgiffaaGreatDoorUE2
import Derived.Test.YtkkgmgmgcgiffaaGreatDoorUP4
set_option linter.unusedSimpArgs false
set_option linter.unusedVariables false
namespace Go.Proofs.YtkkgmgmgcgiffaaGreatDoor.Av
open Go
set_option maxHeartbeats 8000000
set_option maxRecDepth 100000
abbrev PAt:=Nat×Atr
abbrev pC (q:PAt):List AV:=[.str q.2.1,.lsl q.1 0 q.2.2.length none 1]
def psC (ps:List PAt):List AV:=ps.flatMap pC
abbrev noP:PAt:=(0,[],[])
def Qq (L:List Blk) (b p:Nat) (s1 s2:AV) (ps:List PAt):Prop :=
 b≤p∧(ps.map (·.1)).Nodup∧(∀ q∈ps,b≤q.1∧q.1≠p∧∃ rest,L[q.1]?=some (.cells (q.2.2.map AV.str++rest))) ∧
 ((L[p]?=some (.cells [s1,s2,.sl [] 0 (some 0)])∧ps=[])∨∃ r rest,L[p]?=some (.cells [s1,s2,.lsl r 0 ps.length none 2])∧L[r]?=some (.cells (psC ps++rest))∧b≤r∧r≠p∧∀ q∈ps,q.1≠r)
theorem Qq.row {L:List Blk} {b p:Nat} {s1 s2:AV} {ps:List PAt} (h:Qq L b p s1 s2 ps):∃ row,L[p]?=some (.cells [s1,s2,row])∧Td L (psC ps) ps.length 2 row∧(row=.sl [] 0 (some 0)∧ps=[]∨∃ r rest,row=.lsl r 0 ps.length none 2∧L[r]?=some (.cells (psC ps++rest))∧b≤r∧r≠p∧∀ q∈ps,q.1≠r):=by
 obtain ⟨_,_,_,h4⟩:=h
 rcases h4 with ⟨h1,rfl⟩|⟨r,rest,h1,h2,h3⟩
 · exact ⟨_,h1,.inl ⟨some 0,rfl⟩,.inl ⟨rfl,rfl⟩⟩
 · exact ⟨_,h1,.inr ⟨r,none,rest,rfl,h2⟩,.inr ⟨r,rest,rfl,h2,h3⟩⟩
def Kpt (b:Nat) (L L':List Blk):Prop:=b≤L'.length∧∀ k,k<b→L'[k]?=L[k]?
theorem Kpt.trans {b:Nat} {L L1 L2:List Blk} (h:Kpt b L L1) (k:Kpt b L1 L2):Kpt b L L2:=⟨k.1,fun i hi=>(k.2 i hi).trans (h.2 i hi)⟩
theorem Kpt.app {b:Nat} {L:List Blk} (h:b≤L.length) (X:List Blk):Kpt b L (L++X):=⟨by simp;omega,fun k hk=>by rw [List.getElem?_append_left (by omega)]⟩
theorem Rv {l:List Atr} {n:List UInt8} (hr:jS db l):dU l n=if OQ db l (ah n)=true then (l.getD (dK db l (ah n)) ([],[])).2 else []:=by
 rw [On n l hr,MM hr (d:=([],[]))]
 by_cases hc:dK db l (ah n)<l.length
 · rw [List.getElem?_eq_getElem hc];simp [hc]
 · rw [List.getElem?_eq_none (by omega)];simp [hc]
theorem Tc {syn:Int} {single:Bool} {l:List (List UInt8)} {v:List UInt8} {vs:List (List UInt8)} (h:bU syn v=none):dx syn single l (v::vs)=([],21):=by rw [dx,h]
theorem Ta {syn:Int} {single:Bool} {l:List (List UInt8)} {v n:List UInt8} {vs:List (List UInt8)} (h:bU syn v=some n):dx syn single l (v::vs)=if inM syn l n=true then ([],20) else dx syn single (eM syn v false l) vs:=by rw [dx,h]
theorem Qq.frame {L L':List Blk} {b p:Nat} {s1 s2:AV} {ps:List PAt} (h:Qq L b p s1 s2 ps) (hf:∀ k,k<L.length→L'[k]?=L[k]?):Qq L' b p s1 s2 ps:=by
 have up:∀ (i:Nat) (k:Blk),L[i]?=some k→L'[i]?=some k:=fun i k hk=>by rw [hf i (List.getElem?_eq_some_iff.1 hk).1];exact hk
 obtain ⟨h1,h2,h3,h4⟩:=h
 refine ⟨h1,h2,fun q hq=>?_,?_⟩
 · obtain ⟨a,c,rest,d⟩:=h3 q hq
   exact ⟨a,c,rest,up _ _ d⟩
 · rcases h4 with ⟨a,c⟩|⟨r,rest,a,c,d⟩
   · exact .inl ⟨up _ _ a,c⟩
   · exact .inr ⟨r,rest,up _ _ a,up _ _ c,d⟩
theorem Sw {l:List Nat} {c x:Nat} (h:l.Nodup) (hx:∀ i:Nat,i≠c→l[i]?≠some x):(l.set c x).Nodup:=by
 rw [List.nodup_iff_pairwise_ne,List.pairwise_iff_getElem] at h ⊢
 intro i j hi hj hij
 simp only [List.length_set] at hi hj
 rw [List.getElem_set,List.getElem_set]
 split
 · rename_i e1
   rw [if_neg (by omega)]
   intro e
   exact hx j (by omega) (by rw [List.getElem?_eq_getElem hj,e])
 · split
   · intro e
     exact hx i (by omega) (by rw [List.getElem?_eq_getElem hi,← e])
   · exact h i j hi hj hij
theorem KU {α:Type} {l:List α} {c:Nat} {x q:α} (h:q∈l.set c x):q=x∨∃ i,i≠c∧l[i]?=some q:=by
 obtain ⟨i,hi⟩:=List.mem_iff_getElem?.1 h
 rw [List.getElem?_set] at hi
 split at hi
 · split at hi
   · cases hi;exact .inl rfl
   · cases hi
 · rename_i e
   exact .inr ⟨i,fun e'=>e e'.symm,hi⟩
theorem RP {ps:List PAt} (h:(ps.map (·.1)).Nodup) {i c:Nat} {q a:PAt} (hi:ps[i]?=some q) (hc:ps[c]?=some a) (hne:i≠c):q.1≠a.1:=fun e=>by
 obtain ⟨h1,rfl⟩:=List.getElem?_eq_some_iff.1 hi
 obtain ⟨h2,rfl⟩:=List.getElem?_eq_some_iff.1 hc
 rw [List.nodup_iff_pairwise_ne,List.pairwise_iff_getElem] at h
 rcases Nat.lt_or_gt_of_ne hne with h3|h3
 · exact h i c (by simpa using h1) (by simpa using h2) h3 (by simpa using e)
 · exact h c i (by simpa using h2) (by simpa using h1) h3 (by simpa using e.symm)
theorem Qq.vals {L L' L2:List Blk} {b p:Nat} {s1 s2:AV} {ps:List PAt} {c j:Nat} {u:List (List UInt8)} {rest:List AV} (h:Qq L b p s1 s2 ps) (hc:c<ps.length) {l0 jat:Nat} (hl0:L.length≤l0) (hjat:jat=(ps.getD c noP).1) (hfr:∀ k,k<l0→k≠jat→L'[k]?=L[k]?∨L.length≤k)
   (hj:j=jat∨l0≤j) (hLj:L'[j]?=some (.cells (u.map AV.str++rest))) {r:Nat} {rest2:List AV} (hLp:L[p]?=some (.cells [s1,s2,.lsl r 0 ps.length none 2])) (hLr:L[r]?=some (.cells (psC ps++rest2))) (hbr:b≤r) (hrp:r≠p) (hqr:∀ q∈ps,q.1≠r)
   (h2:L2=L'.set r (.cells (psC (ps.set c (j,(ps.getD c noP).2.1,u))++rest2))):Qq L2 b p s1 s2 (ps.set c (j,(ps.getD c noP).2.1,u)):=by
 obtain ⟨g1,g2,g3,g4⟩:=h
 have hcg:ps[c]?=some (ps.getD c noP):=by simp [hc]
 have hm:ps.getD c noP∈ps:=List.mem_of_getElem? hcg
 have lt:∀ (i:Nat) (k:Blk),L[i]?=some k→i<L.length:=fun i k hk=>(List.getElem?_eq_some_iff.1 hk).1
 obtain ⟨m1,m2,mr,m3⟩:=g3 _ hm
 rw [← hjat] at m1 m2 m3
 have hjl:=lt _ _ m3
 have hrl:=lt _ _ hLr
 have hpl:=lt _ _ hLp
 have keep:∀ k,k<L.length→k≠jat→k≠r→L2[k]?=L[k]?:=fun k hk hkj hkr=>by
   rw [h2,List.getElem?_set_ne (Ne.symm hkr)]
   rcases hfr k (by omega) hkj with e|e
   · exact e
   · omega
 have hrj:r≠jat:=by rw [hjat];exact (hqr _ hm).symm
 have hjr:j≠r:=by rcases hj with e|e<;>omega
 have hrl':r<L'.length:=by
   rcases hfr r (by omega) hrj with e|e
   · rw [hLr] at e;exact (List.getElem?_eq_some_iff.1 e).1
   · omega
 refine ⟨g1,?_,fun q hq=>?_,.inr ⟨r,rest2,?_,?_,hbr,hrp,fun q hq=>?_⟩⟩
 · rw [List.map_set]
   refine Sw g2 fun i hi e=>?_
   rw [List.getElem?_map,Option.map_eq_some_iff] at e
   obtain ⟨q,e1,e2⟩:=e
   have:=RP g2 e1 hcg hi
   rw [← hjat] at this
   obtain ⟨_,_,_,q3⟩:=g3 q (List.mem_of_getElem? e1)
   have:=lt _ _ q3
   omega
 · rcases KU hq with rfl|⟨i,hi,e⟩
   · refine ⟨by simp only;omega,?_,rest,?_⟩
     · simp only
       rcases hj with e|e
       · rw [e];exact m2
       · omega
     · simp only
       rw [h2,List.getElem?_set_ne (Ne.symm hjr)];exact hLj
   · obtain ⟨q1,q2,qr,q3⟩:=g3 q (List.mem_of_getElem? e)
     have hne:=RP g2 e hcg hi
     rw [← hjat] at hne
     refine ⟨q1,q2,qr,?_⟩
     rw [keep _ (lt _ _ q3) hne (hqr q (List.mem_of_getElem? e))];exact q3
 · rw [keep p hpl (fun e=>m2 e.symm) (Ne.symm hrp),List.length_set];exact hLp
 · rw [h2];simp [hrl']
 · rcases KU hq with rfl|⟨i,hi,e⟩
   · exact hjr
   · exact hqr q (List.mem_of_getElem? e)
def O4 (ts:List Typ):Prop:=ts.length≤1100000∧(∀ ty∈ts,bf ty.1)∧∀ ty∈ts,fJ ts ty.1=some ty
theorem LW {n:List UInt8} {vs:List (List UInt8)} {a:Atr}:∀ {d:Bool} {l:List Atr},a∈kM n vs d l→a=(n,vs)∨a∈l
 | d,[],h=>by
   rw [kM] at h
   split at h
   · cases h
   · simp at h;exact .inl h
 | d,x::t,h=>by
   rw [kM,List.mem_append,List.mem_append] at h
   rcases h with (h|h)|h
   · split at h
     · simp at h;exact .inl h
     · cases h
   · split at h
     · simp at h;exact .inr (by simp [h])
     · cases h
   · rcases LW h with e|e
     · exact .inl e
     · exact .inr (by simp [e])
theorem Ot {n:List UInt8} {vs:List (List UInt8)}:∀ {d:Bool} {l:List Atr},(kM n vs d l).length≤l.length+(if d=true then 0 else 1)
 | d,[]=>by rw [kM];split<;>simp
 | d,x::t=>by
   have ih:=@Ot n vs (d || !decide (ah x.1<ah n)) t
   rw [kM]
   simp only [List.length_append,List.length_cons]
   have h1:(if ah n≠ah x.1 then [x] else []).length≤1:=by split<;>simp
   obtain ⟨z,hz⟩:∃ z,(if ah n≠ah x.1 then [x] else []).length=z:=⟨_,rfl⟩
   rw [hz] at h1 ⊢
   cases d with
   | true =>
     simp only [Bool.true_eq_false,false_and,if_false,List.length_nil,Bool.true_or,if_true] at ih ⊢
     omega
   | false =>
     by_cases hx:ah x.1<ah n
     · simp only [hx,decide_true,Bool.not_true,Bool.or_self,Bool.false_eq_true,if_false] at ih ⊢
       simp;omega
     · simp only [hx,decide_false,Bool.not_false,Bool.or_true,if_true] at ih ⊢
       simp;omega
theorem UA {ts:List Typ} {l:List Atr} {a:Atr} {ty:Typ} (h:InA ts l) (ha:a∈l) (ht:fJ ts ty.1=some ty) (e:ah a.1=ah ty.1):a.1=ty.1∧InV ty.2.1 a.2:=by
 obtain ⟨ty',h1,h2,h3,h4,h5⟩:=h.2 a ha
 rw [JJ e,ht] at h1
 cases h1
 exact ⟨h2.symm,h4⟩
theorem N5 {ts:List Typ} {l:List Atr} {a:Atr} (hts:O4 ts) (h:InA ts l) (ha:a∈l):bf a.1∧a.2≠[]:=by
 obtain ⟨ty',h1,h2,h3,_⟩:=h.2 a ha
 exact ⟨by rw [← h2];exact hts.2.1 _ (Dw h1).1,h3⟩
theorem Qu {l:List Atr} {n:List UInt8} {m:Nat} (h:∀ a∈l,a.2.length≤m):(dU l n).length≤m:=by
 induction l with
 | nil=>simp [dU]
 | cons a l ih =>
   rw [dU]
   split
   · exact h a (by simp)
   · exact ih fun b hb=>h b (by simp [hb])
variable {L:List Blk} {K:AV→List Blk→Prop}
theorem Qf (l:List Atr):Yu l (bn l):=by
 exact ⟨jR l,fun h hh=>⟨mA (l.getD h ([],[])).2,.inl ⟨_,_,_,rfl⟩,mw hh⟩⟩
theorem Xw {l:List Atr} {cap:Option Nat} {n:List UInt8} (hl:l.length≤1100000) (hr:jS db l) (hz:∀ a∈l,bf a.1∧a.2.length≤1100000) (hn:bf n) (h:K (mA (dU l n)) L) :
   ad Tryz.prog 37 [.sl (bn l) l.length cap,.str n] L K:=by
 obtain ⟨c,hc⟩:∃ c,dK db l (ah n)=c:=⟨_,rfl⟩
 obtain ⟨fd,hfd⟩:∃ fd,OQ db l (ah n)=fd:=⟨_,rfl⟩
 have hv:=Rv (n:=n) hr
 rw [hfd,hc] at hv
 rw [hv] at h
 have hpc:∀ {K:AV→List Blk→Prop},K (.tup [.int .i64 c,.bool fd]) L→ad Tryz.prog 78 [.sl (bn l) l.length cap,.str n] L K:=fun {K} q =>
   RE hl (Qf l) (.inl ⟨cap,rfl⟩) hr hn (fun a ha=>(hz a ha).1) (by rw [hc,hfd];exact q)
 have kk1:=@hid _ @hpc
 clear hpc
 rcases fd with _|_
 · rw [if_neg (by simp)] at h
   replace h:=hid h
   refine ae lw (by simp [dS]) ?_
   simp only [dS,ar]
   refine wk ?_
   exact bE (aa h.out)
 · rw [if_pos rfl] at h
   have h0:=MM (key:=db) (k:=ah n) hr (d:=([],[]))
   rw [hfd,hc] at h0
   have h1:c<l.length:=by simpa using ((Bool.and_eq_true _ _).mp h0.symm).1
   have e5:=Qe h1
   have hm:l.getD c ([],[])∈l:=by simp [h1]
   have hln:=(hz _ hm).2
   obtain ⟨vs,hvs⟩:∃ vs,(l.getD c ([],[])).2=vs:=⟨_,rfl⟩
   rw [hvs] at h e5 hln
   have e6:(c:Int)<(l.length:Int):=by omega
   have e7:c * 2+1<(bn l).length:=by rw [jR];omega
   replace h:=hid h
   clear h0 hm hvs hv hfd hc
   by_cases h2:vs.length=0
   · obtain rfl:vs=[]:=by simpa using h2
     refine ae lw (by simp [dS]) ?_
     simp only [dS,ar]
     have kk2:=@hid _ (fun L K=>S2 (cap:=none) (L:=L) (K:=K))
     refine wk ?_
     exact bE (aa h.out)
   · refine ae lw (by simp [dS]) ?_
     simp only [dS,ar]
     have kk2:=@hid _ (fun L K=>U3 (cap:=none) (L:=L) (K:=K) h2 hln)
     refine wk ?_
     refine Vl (i:=L.length) (l:=vs.map AV.str) (by rw [List.getElem?_append_right (Nat.le_refl _),Nat.sub_self];rfl) ?_
     have e8:((vs.map AV.str).drop 0).take (vs.length * 1)=vs.map AV.str:=by
       rw [List.drop_zero,Nat.mul_one,List.take_of_length_le (by simp)]
     simp only [AV.snap,if_true,e8]
     rw [List.set_append_right _ _ (Nat.le_refl _)]
     refine ab ?_ h.out
     simp only [AV.refs,kD]
def UB (ts:List Typ) (l:List Atr) (n v:List UInt8):Bool:=match fJ ts n with
 | none=>false
 | some ty=>match bU ty.2.1 v with
   | none=>false
   | some m=>inM ty.2.1 (dU l n) m
theorem Xv {ts:List Typ} {capT:Option Nat} {c2:List AV} {n2:Nat} {cap2:Option Nat} {l:List Atr} {cap:Option Nat} {n v:List UInt8} (hts:O4 ts) (hin:InA ts l) (hl:l.length≤1100000) (hz:∀ a∈l,a.2.length≤1100000) (hn:bf n) (h:K (.bool (UB ts l n v)) L) :
   ad Tryz.prog 40 [.agg [.sl (bc ts) ts.length capT,.sl c2 n2 cap2],.sl (bn l) l.length cap,.str n,.str v] L K:=by
 have hr:=hin.1
 obtain ⟨c,hc⟩:∃ c,dK db l (ah n)=c:=⟨_,rfl⟩
 obtain ⟨fd,hfd⟩:∃ fd,OQ db l (ah n)=fd:=⟨_,rfl⟩
 have hv:=Rv (n:=n) hr
 rw [hfd,hc] at hv
 unfold UB at h
 rw [hv] at h
 have hpc:∀ (X:List Blk) {K:AV→List Blk→Prop},K (.tup [.int .i64 c,.bool fd]) (L++X)→ad Tryz.prog 78 [.sl (bn l) l.length cap,.str n] (L++X) K:=fun X {K} q =>
   RE hl (Qf l) (.inl ⟨cap,rfl⟩) hr hn (fun a ha=>(N5 hts hin ha).1) (by rw [hc,hfd];exact q)
 have hfind:∀ (X:List Blk) {K:AV→List Blk→Prop},K (Jx (fJ ts n)) (L++X)→ad Tryz.prog 36 [.agg [.sl (bc ts) ts.length capT,.sl c2 n2 cap2],.str n] (L++X) K:=fun X {K} q=>UW hts.1 hts.2.1 hn q
 replace hpc:=@hid _ @hpc
 replace hfind:=@hid _ @hfind
 refine ae M7 (by simp [Di]) ?_
 simp only [Di,ar]
 refine wk ?_
 refine hfind.out _ ?_
 unfold Jx
 rcases hty:fJ ts n with _|ty
 · rw [hty] at h
   replace h:=hid h
   simp only [Option.getD_none,Option.isSome_none,tyC]
   clear hty hv hc hfd
   refine sk ?_
   refine wk ?_
   refine hpc.out _ ?_
   refine sk ?_
   refine wk ?_
   exact ab rfl h.out
 rw [hty] at h
 simp only at h
 simp only [Option.getD_some,Option.isSome_some,tyC]
 rcases fd with _|_
 · have h':K (.bool false) L:=by
     rcases hno:bU ty.2.1 v with _|m
     · rw [hno] at h;exact h
     · rw [hno] at h
       simpa [inM] using h
   replace h':=hid h'
   clear hv h hc hfd
   refine sk ?_
   refine wk ?_
   refine hpc.out _ ?_
   refine sk ?_
   refine wk ?_
   exact ab rfl h'.out
 rw [if_pos rfl] at h
 have h0:=MM (key:=db) (k:=ah n) hr (d:=([],[]))
 rw [hfd,hc] at h0
 have h1:c<l.length:=by simpa using ((Bool.and_eq_true _ _).mp h0.symm).1
 have h2:=of_decide_eq_true ((Bool.and_eq_true _ _).mp h0.symm).2
 have e5:=Qe h1
 have hm:l.getD c ([],[])∈l:=by simp [h1]
 have hln:=hz _ hm
 have hiv:InV ty.2.1 (l.getD c ([],[])).2:=by
   have:=Dw hty
   exact (UA hin hm (hts.2.2 ty this.1) (h2.trans this.2.symm)).2
 obtain ⟨vs,hvs⟩:∃ vs,(l.getD c ([],[])).2=vs:=⟨_,rfl⟩
 rw [hvs] at h e5 hln hiv
 have e6:(c:Int)<(l.length:Int):=by omega
 have e7:c * 2+1<(bn l).length:=by rw [jR];omega
 have hval:∀ (X:List Blk) {K:AV→List Blk→Prop},K (Vz ty.2.1 vs v) (L++X)→ad Tryz.prog 87 [.agg [.str ty.1,.int .i64 ty.2.1,.bool ty.2.2.1,.bool ty.2.2.2],mA vs,.str v] (L++X) K:=fun X {K} q=>UZ hln (.inl ⟨none,rfl⟩) hiv.1 q
 replace hval:=@hid _ @hval
 clear h0 hm hvs hv hfd hc h2 hty
 unfold Vz at hval
 rcases hno:bU ty.2.1 v with _|m
 · rw [hno] at h hval
   replace h:=hid h
   refine sk ?_
   refine wk ?_
   refine hpc.out _ ?_
   refine sk ?_
   refine wk ?_
   refine aq (hval.out _ ⟨rfl,rfl⟩) ?_
   refine sk ?_
   refine wk ?_
   exact ab rfl h.out
 · rw [hno] at h hval
   replace h:=hid h
   refine sk ?_
   refine wk ?_
   refine hpc.out _ ?_
   refine sk ?_
   refine wk ?_
   refine aq (hval.out _ ⟨rfl,rfl⟩) ?_
   refine sk ?_
   refine wk ?_
   exact ab rfl h.out
end Go.Proofs.YtkkgmgmgcgiffaaGreatDoor.Av
