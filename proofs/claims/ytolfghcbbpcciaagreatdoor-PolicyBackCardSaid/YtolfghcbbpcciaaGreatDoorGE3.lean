/- Joined texts of the walk, made small by a program. -/
import Derived.Test.YtolfghcbbpcciaaGreatDoorGE2
import Derived.Test.YtolfghcbbpcciaaGreatDoorGP4
set_option linter.unusedSimpArgs false
set_option linter.unusedVariables false
namespace Go.Proofs.YtolfghcbbpcciaaGreatDoor.Av
open Go
set_option maxHeartbeats 8000000
set_option maxRecDepth 100000
abbrev PAt:=Nat×Atr
abbrev pC (q:PAt):List AV:=[.str q.2.1,.lsl q.1 0 q.2.2.length none 1]
def psC (ps:List PAt):List AV:=ps.flatMap pC
abbrev noP:PAt:=(0,[],[])
def Pk (L:List Blk) (b p:Nat) (s1 s2:AV) (ps:List PAt):Prop :=
 b≤p∧(ps.map (·.1)).Nodup∧(∀ q∈ps,b≤q.1∧q.1≠p∧∃ rest,L[q.1]?=some (.cells (q.2.2.map AV.str++rest))) ∧
 ((L[p]?=some (.cells [s1,s2,.sl [] 0 (some 0)])∧ps=[])∨∃ r rest,L[p]?=some (.cells [s1,s2,.lsl r 0 ps.length none 2])∧L[r]?=some (.cells (psC ps++rest))∧b≤r∧r≠p∧∀ q∈ps,q.1≠r)
theorem Pk.row {L:List Blk} {b p:Nat} {s1 s2:AV} {ps:List PAt} (h:Pk L b p s1 s2 ps):∃ row,L[p]?=some (.cells [s1,s2,row])∧WB L (psC ps) ps.length 2 row∧(row=.sl [] 0 (some 0)∧ps=[]∨∃ r rest,row=.lsl r 0 ps.length none 2∧L[r]?=some (.cells (psC ps++rest))∧b≤r∧r≠p∧∀ q∈ps,q.1≠r):=by
 obtain ⟨_,_,_,h4⟩:=h
 rcases h4 with ⟨h1,rfl⟩|⟨r,rest,h1,h2,h3⟩
 · exact ⟨_,h1,.inl ⟨some 0,rfl⟩,.inl ⟨rfl,rfl⟩⟩
 · exact ⟨_,h1,.inr ⟨r,none,rest,rfl,h2⟩,.inr ⟨r,rest,rfl,h2,h3⟩⟩
def Kpt (b:Nat) (L L':List Blk):Prop:=b≤L'.length∧∀ k,k<b→L'[k]?=L[k]?
theorem Kpt.trans {b:Nat} {L L1 L2:List Blk} (h:Kpt b L L1) (k:Kpt b L1 L2):Kpt b L L2:=⟨k.1,fun i hi=>(k.2 i hi).trans (h.2 i hi)⟩
theorem Kpt.app {b:Nat} {L:List Blk} (h:b≤L.length) (X:List Blk):Kpt b L (L++X):=⟨by simp;omega,fun k hk=>by rw [List.getElem?_append_left (by omega)]⟩
theorem UH {l:List Atr} {n:List UInt8} (hr:gR du l):bm l n=if RW du l (ak n)=true then (l.getD (fm du l (ak n)) ([],[])).2 else []:=by
 rw [Kt n l hr,P8 hr (d:=([],[]))]
 by_cases hc:fm du l (ak n)<l.length
 · rw [List.getElem?_eq_getElem hc];simp [hc]
 · rw [List.getElem?_eq_none (by omega)];simp [hc]
theorem Sa {syn:Int} {single:Bool} {l:List (List UInt8)} {v:List UInt8} {vs:List (List UInt8)} (h:bX syn v=none):cf syn single l (v::vs)=([],21):=by rw [cf,h]
theorem R9 {syn:Int} {single:Bool} {l:List (List UInt8)} {v n:List UInt8} {vs:List (List UInt8)} (h:bX syn v=some n):cf syn single l (v::vs)=if inM syn l n=true then ([],20) else cf syn single (d9 syn v false l) vs:=by rw [cf,h]
theorem Pk.frame {L L':List Blk} {b p:Nat} {s1 s2:AV} {ps:List PAt} (h:Pk L b p s1 s2 ps) (hf:∀ k,k<L.length→L'[k]?=L[k]?):Pk L' b p s1 s2 ps:=by
 have up:∀ (i:Nat) (k:Blk),L[i]?=some k→L'[i]?=some k:=fun i k hk=>by rw [hf i (List.getElem?_eq_some_iff.1 hk).1];exact hk
 obtain ⟨h1,h2,h3,h4⟩:=h
 refine ⟨h1,h2,fun q hq=>?_,?_⟩
 · obtain ⟨a,c,rest,d⟩:=h3 q hq
   exact ⟨a,c,rest,up _ _ d⟩
 · rcases h4 with ⟨a,c⟩|⟨r,rest,a,c,d⟩
   · exact .inl ⟨up _ _ a,c⟩
   · exact .inr ⟨r,rest,up _ _ a,up _ _ c,d⟩
theorem RC {l:List Nat} {c x:Nat} (h:l.Nodup) (hx:∀ i:Nat,i≠c→l[i]?≠some x):(l.set c x).Nodup:=by
 rw [List.nodup_iff_pairwise_ne,List.pairwise_iff_getElem] at h ⊢
 intro i j hi hj hij
 simp only [List.length_set] at hi hj
 rw [List.getElem_set,List.getElem_set]
 split
 · rename_i e1
   rw [if_neg (by omega)]
   intro e
   exact hx j (by omega) (by rw [List.getElem?_eq_getElem hj,e])
 · split
   · intro e
     exact hx i (by omega) (by rw [List.getElem?_eq_getElem hi,← e])
   · exact h i j hi hj hij
theorem JP {α:Type} {l:List α} {c:Nat} {x q:α} (h:q∈l.set c x):q=x∨∃ i,i≠c∧l[i]?=some q:=by
 obtain ⟨i,hi⟩:=List.mem_iff_getElem?.1 h
 rw [List.getElem?_set] at hi
 split at hi
 · split at hi
   · cases hi;exact .inl rfl
   · cases hi
 · rename_i e
   exact .inr ⟨i,fun e'=>e e'.symm,hi⟩
theorem QN {ps:List PAt} (h:(ps.map (·.1)).Nodup) {i c:Nat} {q a:PAt} (hi:ps[i]?=some q) (hc:ps[c]?=some a) (hne:i≠c):q.1≠a.1:=fun e=>by
 obtain ⟨h1,rfl⟩:=List.getElem?_eq_some_iff.1 hi
 obtain ⟨h2,rfl⟩:=List.getElem?_eq_some_iff.1 hc
 rw [List.nodup_iff_pairwise_ne,List.pairwise_iff_getElem] at h
 rcases Nat.lt_or_gt_of_ne hne with h3|h3
 · exact h i c (by simpa using h1) (by simpa using h2) h3 (by simpa using e)
 · exact h c i (by simpa using h2) (by simpa using h1) h3 (by simpa using e.symm)
theorem Pk.vals {L L' L2:List Blk} {b p:Nat} {s1 s2:AV} {ps:List PAt} {c j:Nat} {u:List (List UInt8)} {rest:List AV} (h:Pk L b p s1 s2 ps) (hc:c<ps.length) {l0 jat:Nat} (hl0:L.length≤l0) (hjat:jat=(ps.getD c noP).1) (hfr:∀ k,k<l0→k≠jat→L'[k]?=L[k]?∨L.length≤k)
   (hj:j=jat∨l0≤j) (hLj:L'[j]?=some (.cells (u.map AV.str++rest))) {r:Nat} {rest2:List AV} (hLp:L[p]?=some (.cells [s1,s2,.lsl r 0 ps.length none 2])) (hLr:L[r]?=some (.cells (psC ps++rest2))) (hbr:b≤r) (hrp:r≠p) (hqr:∀ q∈ps,q.1≠r)
   (h2:L2=L'.set r (.cells (psC (ps.set c (j,(ps.getD c noP).2.1,u))++rest2))):Pk L2 b p s1 s2 (ps.set c (j,(ps.getD c noP).2.1,u)):=by
 obtain ⟨g1,g2,g3,g4⟩:=h
 have hcg:ps[c]?=some (ps.getD c noP):=by simp [hc]
 have hm:ps.getD c noP∈ps:=List.mem_of_getElem? hcg
 have lt:∀ (i:Nat) (k:Blk),L[i]?=some k→i<L.length:=fun i k hk=>(List.getElem?_eq_some_iff.1 hk).1
 obtain ⟨m1,m2,mr,m3⟩:=g3 _ hm
 rw [← hjat] at m1 m2 m3
 have hjl:=lt _ _ m3
 have hrl:=lt _ _ hLr
 have hpl:=lt _ _ hLp
 have keep:∀ k,k<L.length→k≠jat→k≠r→L2[k]?=L[k]?:=fun k hk hkj hkr=>by
   rw [h2,List.getElem?_set_ne (Ne.symm hkr)]
   rcases hfr k (by omega) hkj with e|e
   · exact e
   · omega
 have hrj:r≠jat:=by rw [hjat];exact (hqr _ hm).symm
 have hjr:j≠r:=by rcases hj with e|e<;>omega
 have hrl':r<L'.length:=by
   rcases hfr r (by omega) hrj with e|e
   · rw [hLr] at e;exact (List.getElem?_eq_some_iff.1 e).1
   · omega
 refine ⟨g1,?_,fun q hq=>?_,.inr ⟨r,rest2,?_,?_,hbr,hrp,fun q hq=>?_⟩⟩
 · rw [List.map_set]
   refine RC g2 fun i hi e=>?_
   rw [List.getElem?_map,Option.map_eq_some_iff] at e
   obtain ⟨q,e1,e2⟩:=e
   have:=QN g2 e1 hcg hi
   rw [← hjat] at this
   obtain ⟨_,_,_,q3⟩:=g3 q (List.mem_of_getElem? e1)
   have:=lt _ _ q3
   omega
 · rcases JP hq with rfl|⟨i,hi,e⟩
   · refine ⟨by simp only;omega,?_,rest,?_⟩
     · simp only
       rcases hj with e|e
       · rw [e];exact m2
       · omega
     · simp only
       rw [h2,List.getElem?_set_ne (Ne.symm hjr)];exact hLj
   · obtain ⟨q1,q2,qr,q3⟩:=g3 q (List.mem_of_getElem? e)
     have hne:=QN g2 e hcg hi
     rw [← hjat] at hne
     refine ⟨q1,q2,qr,?_⟩
     rw [keep _ (lt _ _ q3) hne (hqr q (List.mem_of_getElem? e))];exact q3
 · rw [keep p hpl (fun e=>m2 e.symm) (Ne.symm hrp),List.length_set];exact hLp
 · rw [h2];simp [hrl']
 · rcases JP hq with rfl|⟨i,hi,e⟩
   · exact hjr
   · exact hqr q (List.mem_of_getElem? e)
def Qg (ts:List Typ):Prop:=ts.length≤1100000∧(∀ ty∈ts,bH ty.1)∧∀ ty∈ts,gU ts ty.1=some ty
theorem vA {n:List UInt8} {vs:List (List UInt8)} {a:Atr}:∀ {d:Bool} {l:List Atr},a∈dN n vs d l→a=(n,vs)∨a∈l
 | d,[],h=>by
   rw [dN] at h
   split at h
   · cases h
   · simp at h;exact .inl h
 | d,x::t,h=>by
   rw [dN,List.mem_append,List.mem_append] at h
   rcases h with (h|h)|h
   · split at h
     · simp at h;exact .inl h
     · cases h
   · split at h
     · simp at h;exact .inr (by simp [h])
     · cases h
   · rcases vA h with e|e
     · exact .inl e
     · exact .inr (by simp [e])
theorem Kw {n:List UInt8} {vs:List (List UInt8)}:∀ {d:Bool} {l:List Atr},(dN n vs d l).length≤l.length+(if d=true then 0 else 1)
 | d,[]=>by rw [dN];split<;>simp
 | d,x::t=>by
   have ih:=@Kw n vs (d || !decide (ak x.1<ak n)) t
   rw [dN]
   simp only [List.length_append,List.length_cons]
   have h1:(if ak n≠ak x.1 then [x] else []).length≤1:=by split<;>simp
   obtain ⟨z,hz⟩:∃ z,(if ak n≠ak x.1 then [x] else []).length=z:=⟨_,rfl⟩
   rw [hz] at h1 ⊢
   cases d with
   | true =>
     simp only [Bool.true_eq_false,false_and,if_false,List.length_nil,Bool.true_or,if_true] at ih ⊢
     omega
   | false =>
     by_cases hx:ak x.1<ak n
     · simp only [hx,decide_true,Bool.not_true,Bool.or_self,Bool.false_eq_true,if_false] at ih ⊢
       simp;omega
     · simp only [hx,decide_false,Bool.not_false,Bool.or_true,if_true] at ih ⊢
       simp;omega
theorem RI {ts:List Typ} {l:List Atr} {a:Atr} (hts:Qg ts) (h:InA ts l) (ha:a∈l):bH a.1∧a.2≠[]:=by
 obtain ⟨ty',h1,h2,h3,_⟩:=h.2 a ha
 exact ⟨by rw [← h2];exact hts.2.1 _ (i7 h1).1,h3⟩
theorem Nj {l:List Atr} {n:List UInt8} {m:Nat} (h:∀ a∈l,a.2.length≤m):(bm l n).length≤m:=by
 induction l with
 | nil=>simp [bm]
 | cons a l ih =>
   rw [bm]
   split
   · exact h a (by simp)
   · exact ih fun b hb=>h b (by simp [hb])
variable {L:List Blk} {K:AV→List Blk→Prop}
theorem Ud (l:List Atr):Xi l (be l):=by
 exact ⟨jL l,fun h hh=>⟨FN (l.getD h ([],[])).2,.inl ⟨_,_,_,rfl⟩,kQ hh⟩⟩
theorem Wn {l:List Atr} {cap:Option Nat} {n:List UInt8} (hl:l.length≤1100000) (hr:gR du l) (hz:∀ a∈l,bH a.1∧a.2.length≤1100000) (hn:bH n) (h:K (FN (bm l n)) L) :
   ao Tryz.prog 41 [.sl (be l) l.length cap,.str n] L K:=by
 obtain ⟨c,hc⟩:∃ c,fm du l (ak n)=c:=⟨_,rfl⟩
 obtain ⟨fd,hfd⟩:∃ fd,RW du l (ak n)=fd:=⟨_,rfl⟩
 have hv:=UH (n:=n) hr
 rw [hfd,hc] at hv
 rw [hv] at h
 have hpc:∀ {K:AV→List Blk→Prop},K (.tup [.int .i64 c,.bool fd]) L→ao Tryz.prog 60 [.sl (be l) l.length cap,.str n] L K:=fun {K} q =>
   U7 hl (Ud l) (.inl ⟨cap,rfl⟩) hr hn (fun a ha=>(hz a ha).1) (by rw [hc,hfd];exact q)
 have kk1:=@hid _ @hpc
 clear hpc
 rcases fd with _|_
 · rw [if_neg (by simp)] at h
   replace h:=hid h
   refine ag jK (by simp [fh]) ?_
   simp only [fh,aN]
   refine wk ?_
   exact aX (ab h.out)
 · rw [if_pos rfl] at h
   have h0:=P8 (key:=du) (k:=ak n) hr (d:=([],[]))
   rw [hfd,hc] at h0
   have h1:c<l.length:=by simpa using ((Bool.and_eq_true _ _).mp h0.symm).1
   have e5:=Uc h1
   have hm:l.getD c ([],[])∈l:=by simp [h1]
   have hln:=(hz _ hm).2
   obtain ⟨vs,hvs⟩:∃ vs,(l.getD c ([],[])).2=vs:=⟨_,rfl⟩
   rw [hvs] at h e5 hln
   have e6:(c:Int)<(l.length:Int):=by omega
   have e7:c * 2+1<(be l).length:=by rw [jL];omega
   replace h:=hid h
   clear h0 hm hvs hv hfd hc
   by_cases h2:vs.length=0
   · obtain rfl:vs=[]:=by simpa using h2
     refine ag jK (by simp [fh]) ?_
     simp only [fh,aN]
     have kk2:=@hid _ (fun L K=>R3 (cap:=none) (L:=L) (K:=K))
     refine wk ?_
     exact aX (ab h.out)
   · refine ag jK (by simp [fh]) ?_
     simp only [fh,aN]
     have kk2:=@hid _ (fun L K=>T8 (cap:=none) (L:=L) (K:=K) h2 hln)
     refine wk ?_
     refine Mk (i:=L.length) (l:=vs.map AV.str) (by rw [List.getElem?_append_right (Nat.le_refl _),Nat.sub_self];rfl) ?_
     have e8:((vs.map AV.str).drop 0).take (vs.length * 1)=vs.map AV.str:=by
       rw [List.drop_zero,Nat.mul_one,List.take_of_length_le (by simp)]
     simp only [AV.snap,if_true,e8]
     rw [List.set_append_right _ _ (Nat.le_refl _)]
     refine aa ?_ h.out
     simp only [AV.refs,fM]
end Go.Proofs.YtolfghcbbpcciaaGreatDoor.Av
