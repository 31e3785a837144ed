/- Joined texts of the walk, made small by a program. -/
import Derived.Test.YtohflefnbajajaaGreatDoorVE2
import Derived.Test.YtohflefnbajajaaGreatDoorVP5
set_option linter.unusedSimpArgs false
set_option linter.unusedVariables false
namespace Go.Proofs.YtohflefnbajajaaGreatDoor.Av
open Go
set_option maxHeartbeats 8000000
set_option maxRecDepth 100000
theorem GX {L:List Blk} {i:Nat} {a b:Blk}:((L.set i .dead)++[a]).set L.length b=L.set i .dead++[b]:=by
 rw [List.set_append_right _ _ (by simp)];simp
theorem Uv {u:List (List UInt8)} {k:Nat} {x:List UInt8} {i:Nat} {rest:List AV} {cap:Option Nat} {L:List Blk} {K:AV→List Blk→Prop} (hn:u.length≤1000000) (hk:k≤u.length) (hL:L[i]?=some (.cells (u.map AV.str++rest)))
   (h:K (.lsl L.length 0 (u.length+1) none 1) (L.set i .dead++[.cells ((u.take k++x::u.drop k).map AV.str)])) :
   af Tryz.prog 76 [.lsl i 0 u.length none 1,.int .i64 k,.sl [.str x] 1 cap] L K:=by
 refine Ek (Uu hn hk (by simp) (IE u) hL fun rest'=>?_)
 refine ⟨L.length,(u.take k++x::u.drop k).map AV.str,rest',?_,?_⟩
 · rw [List.getElem?_append_right (by simp)];simp
 · rw [GX];exact h
abbrev PAt:=Nat×Atr
abbrev pC (q:PAt):List AV:=[.str q.2.1,.lsl q.1 0 q.2.2.length none 1]
def psC (ps:List PAt):List AV:=ps.flatMap pC
theorem kr (ps:List PAt):(psC ps).length=ps.length * 2:=by
 induction ps with
 | nil=>rfl
 | cons a l ih=>simp only [psC,List.flatMap_cons,List.length_append,pC,List.length_cons,List.length_nil] at ih ⊢;omega
theorem SR (l m:List PAt):psC (l++m)=psC l++psC m:=by simp [psC]
theorem fi (q:PAt) (m:List PAt):psC (q::m)=.str q.2.1 :: .lsl q.1 0 q.2.2.length none 1::psC m:=rfl
theorem Ix:∀ (ps:List PAt) (k:Nat),(psC ps).take (k * 2)=psC (ps.take k)
 | [],k=>by simp [psC]
 | a::l,0=>by simp [psC]
 | a::l,k+1=>by rw [show (k+1) * 2=k * 2+1+1 by omega,fi];simp only [List.take_succ_cons,fi,Ix l k]
theorem Fw:∀ (ps:List PAt) (k:Nat),(psC ps).drop (k * 2)=psC (ps.drop k)
 | [],k=>by simp [psC]
 | a::l,0=>by simp [psC]
 | a::l,k+1=>by rw [show (k+1) * 2=k * 2+1+1 by omega,fi];simp only [List.drop_succ_cons,Fw l k]
theorem SO (ps:List PAt):(psC ps).all AV.one=true:=by
 induction ps with
 | nil=>rfl
 | cons a l ih=>rw [fi];simpa [AV.one] using ih
abbrev noP:PAt:=(0,[],[])
theorem Oz {ps:List PAt} {k:Nat} (hk:k<ps.length):((psC ps).drop (k * 2)).take 2=pC (ps.getD k noP):=by
 rw [Fw,List.drop_eq_getElem_cons hk,fi]
 simp [hk]
theorem SP {ps:List PAt} {k:Nat} (hk:k<ps.length) (rest:List AV):(psC ps++rest).getD (k * 2+1) .undef=.lsl (ps.getD k noP).1 0 (ps.getD k noP).2.2.length none 1:=by
 have h:=Oz hk
 have h2:=congrArg (fun l=>l[1]?) h
 simp only [List.getElem?_take_of_lt (show 1<2 by omega),List.getElem?_drop] at h2
 rw [List.getD_eq_getElem?_getD,List.getElem?_append_left (by rw [kr];omega),h2]
 rfl
theorem KR:∀ (ps:List PAt) (k:Nat) (j:Nat) (u:List (List UInt8)),k<ps.length→(psC ps).set (k * 2+1) (.lsl j 0 u.length none 1)=psC (ps.set k (j,(ps.getD k noP).2.1,u))
 | a::l,0,j,u,_=>rfl
 | a::l,k+1,j,u,h=>by
   rw [show (k+1) * 2+1=k * 2+1+1+1 by omega,fi]
   simp only [List.set_cons_succ,List.getD_cons_succ,fi,KR l k j u (by simpa using h)]
theorem SQ {ps:List PAt} {l:List Atr} (h:ps.map (·.2)=l):VK l (psC ps):=by
 subst h
 refine ⟨by rw [kr];simp,fun h hh=>?_⟩
 have hh':h<ps.length:=by simpa using hh
 refine ⟨.lsl (ps.getD h noP).1 0 (ps.getD h noP).2.2.length none 1,.inr ⟨_,_,_,_,_,rfl⟩,?_⟩
 rw [Oz hh']
 simp [hh',pC]
theorem Ux {ps:List PAt} {k:Nat} {y:List UInt8} {q:Nat} {vs:List (List UInt8)} {i:Nat} {rest:List AV} {cap:Option Nat} {L:List Blk} {K:AV→List Blk→Prop} (hq:q<L.length) (hn:ps.length≤1000000) (hk:k≤ps.length) (hL:L[i]?=some (.cells (psC ps++rest)))
   (h:K (.lsl L.length 0 (ps.length+1) none 2) (L.set i .dead++[.cells (psC (ps.take k++(q,y,vs)::ps.drop k))])) :
   af Tryz.prog 77 [.lsl i 0 ps.length none 2,.int .i64 k,.sl [.str y,.lsl q 0 vs.length none 1] 1 cap] L K:=by
 refine Ek (Uw hq hn hk (kr ps) (SO ps) hL fun rest'=>?_)
 have e:(psC ps).take (k * 2) ++ .str y :: .lsl q 0 vs.length none 1::(psC ps).drop (k * 2)=psC (ps.take k++(q,y,vs)::ps.drop k):=by
   rw [Ix,Fw,SR,fi]
 refine ⟨L.length,psC (ps.take k++(q,y,vs)::ps.drop k),rest',?_,?_⟩
 · rw [List.getElem?_append_right (by simp),← e];simp
 · rw [GX];exact h
def ta (L:List Blk) (b p:Nat) (s1 s2:AV) (ps:List PAt):Prop :=
 b≤p∧(ps.map (·.1)).Nodup∧(∀ q∈ps,b≤q.1∧q.1≠p∧∃ rest,L[q.1]?=some (.cells (q.2.2.map AV.str++rest))) ∧
 ((L[p]?=some (.cells [s1,s2,.sl [] 0 (some 0)])∧ps=[])∨∃ r rest,L[p]?=some (.cells [s1,s2,.lsl r 0 ps.length none 2])∧L[r]?=some (.cells (psC ps++rest))∧b≤r∧r≠p∧∀ q∈ps,q.1≠r)
theorem ta.row {L:List Blk} {b p:Nat} {s1 s2:AV} {ps:List PAt} (h:ta L b p s1 s2 ps):∃ row,L[p]?=some (.cells [s1,s2,row])∧KF L (psC ps) ps.length 2 row∧(row=.sl [] 0 (some 0)∧ps=[]∨∃ r rest,row=.lsl r 0 ps.length none 2∧L[r]?=some (.cells (psC ps++rest))∧b≤r∧r≠p∧∀ q∈ps,q.1≠r):=by
 obtain ⟨_,_,_,h4⟩:=h
 rcases h4 with ⟨h1,rfl⟩|⟨r,rest,h1,h2,h3⟩
 · exact ⟨_,h1,.inl ⟨some 0,rfl⟩,.inl ⟨rfl,rfl⟩⟩
 · exact ⟨_,h1,.inr ⟨r,none,rest,rfl,h2⟩,.inr ⟨r,rest,rfl,h2,h3⟩⟩
def Kpt (b:Nat) (L L':List Blk):Prop:=b≤L'.length∧∀ k,k<b→L'[k]?=L[k]?
theorem Kpt.trans {b:Nat} {L L1 L2:List Blk} (h:Kpt b L L1) (k:Kpt b L1 L2):Kpt b L L2:=⟨k.1,fun i hi=>(k.2 i hi).trans (h.2 i hi)⟩
theorem Kpt.app {b:Nat} {L:List Blk} (h:b≤L.length) (X:List Blk):Kpt b L (L++X):=⟨by simp;omega,fun k hk=>by rw [List.getElem?_append_left (by omega)]⟩
theorem Kpt.eq {b:Nat} {L L':List Blk} (h:Kpt b L L') (hb:b=L.length):∃ X,L'=L++X:=by
 refine ⟨L'.drop L.length,?_⟩
 apply List.ext_getElem?
 intro i
 rw [List.getElem?_append]
 split
 · rename_i hi;rw [h.2 i (by omega)]
 · rw [List.getElem?_drop];congr 1;omega
set_option maxHeartbeats 8000000
set_option maxRecDepth 100000
theorem Li {P:Program} {f:FuncId} {xs:List Opd} {T:Tm} {L:List Blk} {args:List AV} {k:AV→List Blk→Prop} (v:AV) (L2:List Blk) (h:af P f args L fun av L'=>av=v∧L'=L2) (hx:dm T xs=some args) (hk:k v L2) :
   ∃ v L2,EQv P ⟨none,.call f xs,none⟩ T L v L2∧k v L2:=⟨v,L2,by simp only [EQv,hx];exact h,hk⟩
theorem QN {l:List Atr} {n:List UInt8} (hr:fT ch l):eB l n=if C6 ch l (ae n)=true then (l.getD (dt ch l (ae n)) ([],[])).2 else []:=by
 rw [HB n l hr,C5 hr (d:=([],[]))]
 by_cases hc:dt ch l (ae n)<l.length
 · rw [List.getElem?_eq_getElem hc];simp [hc]
 · rw [List.getElem?_eq_none (by omega)];simp [hc]
theorem S7 {syn:Int} {u:List (List UInt8)} {v n:List UInt8} (hu:InV syn u) (hn:eT syn v=some n) (hf:inM syn u n=false) :
   InV syn (u.take (dt (cx syn) u n)++v::u.drop (dt (cx syn) u n))∧eU syn v false u=u.take (dt (cx syn) u n)++v::u.drop (dt (cx syn) u n):=by
 have hk:cx syn v=n:=by simp [cx,hn]
 have hin:inM syn u (cx syn v)=false:=by rw [hk];exact hf
 have hm:=Ck syn v u hin
 rw [hk] at hm
 refine ⟨⟨?_,fun x hx=>?_⟩,hm⟩
 · have:=oa (key:=cx syn) (v:=v) hu.1 (fun x hx e=>by
     simp only [inM,List.any_eq_false,decide_eq_true_eq] at hin
     exact hin x hx e)
   rwa [hk] at this
 · rcases oK.1 hx with rfl|hx
   · rw [hn];rfl
   · exact hu.2 x hx
theorem Hx {syn:Int} {single:Bool} {l:List (List UInt8)} {v:List UInt8} {vs:List (List UInt8)} (h:eT syn v=none):dp syn single l (v::vs)=([],21):=by rw [dp,h]
theorem Hw {syn:Int} {single:Bool} {l:List (List UInt8)} {v n:List UInt8} {vs:List (List UInt8)} (h:eT syn v=some n):dp syn single l (v::vs)=if inM syn l n=true then ([],20) else dp syn single (eU syn v false l) vs:=by rw [dp,h]
theorem L8 {l:List Atr} {n:List UInt8} (h:C6 ch l (ae n)=false):fp n [] true l=l:=by
 rw [GZ,List.filter_eq_self]
 intro a ha
 simp only [C6,List.any_eq_false,decide_eq_true_eq] at h
 simpa using h a ha
theorem ta.frame {L L':List Blk} {b p:Nat} {s1 s2:AV} {ps:List PAt} (h:ta L b p s1 s2 ps) (hf:∀ k,k<L.length→L'[k]?=L[k]?):ta L' b p s1 s2 ps:=by
 have up:∀ (i:Nat) (k:Blk),L[i]?=some k→L'[i]?=some k:=fun i k hk=>by rw [hf i (List.getElem?_eq_some_iff.1 hk).1];exact hk
 obtain ⟨h1,h2,h3,h4⟩:=h
 refine ⟨h1,h2,fun q hq=>?_,?_⟩
 · obtain ⟨a,c,rest,d⟩:=h3 q hq
   exact ⟨a,c,rest,up _ _ d⟩
 · rcases h4 with ⟨a,c⟩|⟨r,rest,a,c,d⟩
   · exact .inl ⟨up _ _ a,c⟩
   · exact .inr ⟨r,rest,up _ _ a,up _ _ c,d⟩
theorem LL {l:List Nat} {c x:Nat} (h:l.Nodup) (hx:∀ i:Nat,i≠c→l[i]?≠some x):(l.set c x).Nodup:=by
 rw [List.nodup_iff_pairwise_ne,List.pairwise_iff_getElem] at h ⊢
 intro i j hi hj hij
 simp only [List.length_set] at hi hj
 rw [List.getElem_set,List.getElem_set]
 split
 · rename_i e1
   rw [if_neg (by omega)]
   intro e
   exact hx j (by omega) (by rw [List.getElem?_eq_getElem hj,e])
 · split
   · intro e
     exact hx i (by omega) (by rw [List.getElem?_eq_getElem hi,← e])
   · exact h i j hi hj hij
theorem D5 {α:Type} {l:List α} {c:Nat} {x q:α} (h:q∈l.set c x):q=x∨∃ i,i≠c∧l[i]?=some q:=by
 obtain ⟨i,hi⟩:=List.mem_iff_getElem?.1 h
 rw [List.getElem?_set] at hi
 split at hi
 · split at hi
   · cases hi;exact .inl rfl
   · cases hi
 · rename_i e
   exact .inr ⟨i,fun e'=>e e'.symm,hi⟩
theorem K2 {ps:List PAt} (h:(ps.map (·.1)).Nodup) {i c:Nat} {q a:PAt} (hi:ps[i]?=some q) (hc:ps[c]?=some a) (hne:i≠c):q.1≠a.1:=fun e=>by
 obtain ⟨h1,rfl⟩:=List.getElem?_eq_some_iff.1 hi
 obtain ⟨h2,rfl⟩:=List.getElem?_eq_some_iff.1 hc
 rw [List.nodup_iff_pairwise_ne,List.pairwise_iff_getElem] at h
 rcases Nat.lt_or_gt_of_ne hne with h3|h3
 · exact h i c (by simpa using h1) (by simpa using h2) h3 (by simpa using e)
 · exact h c i (by simpa using h2) (by simpa using h1) h3 (by simpa using e.symm)
theorem Q3 {l:List Atr} {n:List UInt8} {vs:List (List UInt8)} (hr:fT ch l) (h:C6 ch l (ae n)=false):fp n vs false l=l.take (dt ch l (ae n))++(n,vs)::l.drop (dt ch l (ae n)):=by
 rw [EL n vs l hr]
 rw [C5 hr (d:=([],[]))] at h
 by_cases hc:dt ch l (ae n)<l.length
 · rw [decide_eq_true hc,Bool.true_and,decide_eq_false_iff_not] at h
   rw [List.getElem?_eq_getElem hc]
   simp only
   rw [if_neg]
   simpa [hc] using h
 · have:=xF ch l (ae n)
   have e:dt ch l (ae n)=l.length:=by omega
   rw [e,List.getElem?_eq_none (by omega),List.take_length,List.drop_length]
theorem Ub {l:List Atr} {n:List UInt8} {vs:List (List UInt8)} (hr:fT ch l) (h:C6 ch l (ae n)=true):fp n vs false l=l.set (dt ch l (ae n)) (n,vs):=by
 rw [EL n vs l hr]
 rw [C5 hr (d:=([],[])),Bool.and_eq_true,decide_eq_true_eq,decide_eq_true_eq] at h
 obtain ⟨hc,h⟩:=h
 rw [List.getElem?_eq_getElem hc]
 simp only
 rw [if_pos]
 simpa [hc] using h
theorem ta.vals {L L' L2:List Blk} {b p:Nat} {s1 s2:AV} {ps:List PAt} {c j:Nat} {u:List (List UInt8)} {rest:List AV} (h:ta L b p s1 s2 ps) (hc:c<ps.length) {l0 jat:Nat} (hl0:L.length≤l0) (hjat:jat=(ps.getD c noP).1) (hfr:∀ k,k<l0→k≠jat→L'[k]?=L[k]?∨L.length≤k)
   (hj:j=jat∨l0≤j) (hLj:L'[j]?=some (.cells (u.map AV.str++rest))) {r:Nat} {rest2:List AV} (hLp:L[p]?=some (.cells [s1,s2,.lsl r 0 ps.length none 2])) (hLr:L[r]?=some (.cells (psC ps++rest2))) (hbr:b≤r) (hrp:r≠p) (hqr:∀ q∈ps,q.1≠r)
   (h2:L2=L'.set r (.cells (psC (ps.set c (j,(ps.getD c noP).2.1,u))++rest2))):ta L2 b p s1 s2 (ps.set c (j,(ps.getD c noP).2.1,u)):=by
 obtain ⟨g1,g2,g3,g4⟩:=h
 have hcg:ps[c]?=some (ps.getD c noP):=by simp [hc]
 have hm:ps.getD c noP∈ps:=List.mem_of_getElem? hcg
 have lt:∀ (i:Nat) (k:Blk),L[i]?=some k→i<L.length:=fun i k hk=>(List.getElem?_eq_some_iff.1 hk).1
 obtain ⟨m1,m2,mr,m3⟩:=g3 _ hm
 rw [← hjat] at m1 m2 m3
 have hjl:=lt _ _ m3
 have hrl:=lt _ _ hLr
 have hpl:=lt _ _ hLp
 have keep:∀ k,k<L.length→k≠jat→k≠r→L2[k]?=L[k]?:=fun k hk hkj hkr=>by
   rw [h2,List.getElem?_set_ne (Ne.symm hkr)]
   rcases hfr k (by omega) hkj with e|e
   · exact e
   · omega
 have hrj:r≠jat:=by rw [hjat];exact (hqr _ hm).symm
 have hjr:j≠r:=by rcases hj with e|e<;>omega
 have hrl':r<L'.length:=by
   rcases hfr r (by omega) hrj with e|e
   · rw [hLr] at e;exact (List.getElem?_eq_some_iff.1 e).1
   · omega
 refine ⟨g1,?_,fun q hq=>?_,.inr ⟨r,rest2,?_,?_,hbr,hrp,fun q hq=>?_⟩⟩
 · rw [List.map_set]
   refine LL g2 fun i hi e=>?_
   rw [List.getElem?_map,Option.map_eq_some_iff] at e
   obtain ⟨q,e1,e2⟩:=e
   have:=K2 g2 e1 hcg hi
   rw [← hjat] at this
   obtain ⟨_,_,_,q3⟩:=g3 q (List.mem_of_getElem? e1)
   have:=lt _ _ q3
   omega
 · rcases D5 hq with rfl|⟨i,hi,e⟩
   · refine ⟨by simp only;omega,?_,rest,?_⟩
     · simp only
       rcases hj with e|e
       · rw [e];exact m2
       · omega
     · simp only
       rw [h2,List.getElem?_set_ne (Ne.symm hjr)];exact hLj
   · obtain ⟨q1,q2,qr,q3⟩:=g3 q (List.mem_of_getElem? e)
     have hne:=K2 g2 e hcg hi
     rw [← hjat] at hne
     refine ⟨q1,q2,qr,?_⟩
     rw [keep _ (lt _ _ q3) hne (hqr q (List.mem_of_getElem? e))];exact q3
 · rw [keep p hpl (fun e=>m2 e.symm) (Ne.symm hrp),List.length_set];exact hLp
 · rw [h2];simp [hrl']
 · rcases D5 hq with rfl|⟨i,hi,e⟩
   · exact hjr
   · exact hqr q (List.mem_of_getElem? e)
theorem ta.more {L L2:List Blk} {b p c j r:Nat} {s1 s2:AV} {ps:List PAt} {n:List UInt8} {u:List (List UInt8)} {rest:List AV} (h:ta L b p s1 s2 ps) (hc:c≤ps.length) (hkeep:∀ q∈ps,L2[q.1]?=L[q.1]?)
   (hjb:b≤j) (hjp:j≠p) (hjq:∀ q∈ps,q.1≠j) (hLj:L2[j]?=some (.cells (u.map AV.str++rest))) (hLp:L2[p]?=some (.cells [s1,s2,.lsl r 0 (ps.length+1) none 2])) (hLr:L2[r]?=some (.cells (psC (ps.take c++(j,n,u)::ps.drop c)))) (hbr:b≤r) (hrp:r≠p) (hrj:j≠r) (hqr:∀ q∈ps,q.1≠r) :
   ta L2 b p s1 s2 (ps.take c++(j,n,u)::ps.drop c):=by
 obtain ⟨g1,g2,g3,g4⟩:=h
 have hperm:(ps.take c++(j,n,u)::ps.drop c).Perm ((j,n,u)::ps):=Fu ps c _
 refine ⟨g1,?_,fun q hq=>?_,.inr ⟨r,[],?_,by rw [List.append_nil];exact hLr,hbr,hrp,fun q hq=>?_⟩⟩
 · refine ((hperm.map (·.1)).nodup_iff).2 ?_
   simp only [List.map_cons,List.nodup_cons]
   refine ⟨fun hm=>?_,g2⟩
   obtain ⟨q,hq,e⟩:=List.mem_map.1 hm
   exact hjq q hq e
 · rcases oK.1 hq with rfl|hq
   · exact ⟨hjb,hjp,rest,hLj⟩
   · obtain ⟨q1,q2,qr,q3⟩:=g3 q hq
     exact ⟨q1,q2,qr,by rw [hkeep q hq];exact q3⟩
 · have:(ps.take c++(j,n,u)::ps.drop c).length=ps.length+1:=by simpa using hperm.length_eq
   rw [this];exact hLp
 · rcases oK.1 hq with rfl|hq
   · exact hrj
   · exact hqr q hq
theorem UM {ty:Typ} {vs:List (List UInt8)} {capV:Option Nat} {b p:Nat} {s1 s2:AV} {ps:List PAt} {L:List Blk} (hb:b≤L.length) (hH:ta L b p s1 s2 ps) (hl:ps.length+1≤1000000)
   (hz:∀ q∈ps,a6 q.2.1∧q.2.2.length+vs.length≤1000000∧q.2.2≠[]) (hvs:vs.length≤1000000) (hty:a6 ty.1) (hr:fT ch (ps.map (·.2))) (hin:∀ q∈ps,ae q.2.1=ae ty.1→q.2.1=ty.1∧InV ty.2.1 q.2.2)
   {R:List (List UInt8)×Int} (hR:dp ty.2.1 ty.2.2.1 (eB (ps.map (·.2)) ty.1) vs=R) {K:AV→List Blk→Prop}
   (h:∀ (code:Int) (L':List Blk),Kpt b L L'→code=R.2→(code=0→∃ ps',ta L' b p s1 s2 ps'∧ps'.map (·.2)=fp ty.1 R.1 R.1.isEmpty (ps.map (·.2)))→K (.int .i64 code) L') :
   af Tryz.prog 50 [.ptr p 0,.agg (tyC ty),.sl (vs.map AV.str) vs.length capV] L K:=by
 obtain ⟨row,hp,hrow,hcase⟩:=hH.row
 obtain ⟨c,hc⟩:∃ c,dt ch (ps.map (·.2)) (ae ty.1)=c:=⟨_,rfl⟩
 obtain ⟨fd,hfd⟩:∃ fd,C6 ch (ps.map (·.2)) (ae ty.1)=fd:=⟨_,rfl⟩
 have hpl:p<L.length:=(List.getElem?_eq_some_iff.1 hp).1
 have hL1:∀ (i:Nat) (k:Blk),L[i]?=some k→(L++[Blk.cells (tyC ty)])[i]?=some k:=fun i k hk=>by
   rw [List.getElem?_append_left (List.getElem?_eq_some_iff.1 hk).1];exact hk
 have hpl1:=hL1 p _ hp
 have hpc:∀ {K:AV→List Blk→Prop},K (.tup [.int .i64 c,.bool fd]) (L++[Blk.cells (tyC ty)])→af Tryz.prog 54 [row,.str ty.1] (L++[Blk.cells (tyC ty)]) K:=fun {K} q=>by
   refine ST (l:=ps.map (·.2)) (C:=psC ps) (by simp;omega) (SQ rfl) ?_ hr hty (fun a ha=>?_) (by rw [hc,hfd];exact q)
   · rw [List.length_map]
     rcases hrow with ⟨cap,e⟩|⟨i,cp,rest,e,hi⟩
     · exact .inl ⟨cap,e⟩
     · exact .inr ⟨i,cp,rest,e,hL1 _ _ hi⟩
   · obtain ⟨q,hq,rfl⟩:=List.mem_map.1 ha
     exact (hz q hq).1
 replace hpc:=@hid _ @hpc
 replace h:=hid h
 replace hH:=hid hH
 replace hz:=hid hz
 replace hin:=hid hin
 refine ai xh (by simp [fS]) ?_
 simp only [fS,ar]
 have kk1:=@hid _ @hpc.out
 have hfc:fd=true→c<ps.length∧ae (ps.getD c noP).2.1=ae ty.1:=fun e=>by
   have h0:=C5 (key:=ch) (k:=ae ty.1) hr (d:=([],[]))
   rw [hfd,hc,e] at h0
   have h1:=(Bool.and_eq_true _ _).mp h0.symm
   have h2:c<ps.length:=by simpa using h1.1
   refine ⟨h2,?_⟩
   have h3:=of_decide_eq_true h1.2
   simpa [h2] using h3
 obtain ⟨u0,hu0⟩:∃ u,eB (ps.map (·.2)) ty.1=u:=⟨_,rfl⟩
 have hv0:u0=if fd=true then (ps.getD c noP).2.2 else []:=by
   rw [← hu0,QN hr,hfd,hc]
   rcases fd with _|_
   · rfl
   · obtain ⟨h1,h2⟩:=hfc rfl
     simp [h1]
 rw [hu0] at hR
 obtain ⟨cur,hcur⟩:∃ v,v=if fd=true then AV.lsl (ps.getD c noP).1 0 (ps.getD c noP).2.2.length none 1 else .sl [] 0 (some 0):=⟨_,rfl⟩
 clear hu0
 replace hv0:=hid hv0
 replace hR:=hid hR
 replace hcur:=hid hcur
 iterate 5 first
   | refine a8 ?_
   | (first|refine aM (by kernel_rfl) ?_|refine aA (by kernel_rfl) ?_|refine aB ?_|refine bV ?_|refine bc (fun _=>?_)|refine au ?_|refine aT ?_)
     simp (config:={ maxSteps:=2000000 }) only [Kon,push_cast,reduceIte,Nat.reduceEqDiff,Nat.reduceAdd,Nat.reduceMul,Nat.reduceSub,Nat.reduceLT,Nat.reduceLeDiff,Int.reduceLT,Int.reduceLE,Int.reduceAdd,Int.reduceSub,Int.reduceNeg,Int.reduceToNat,Int.reduceEq,reduceCtorEq, *]
   | (first|refine aP (by kernel_rfl) ?_|refine aN ?_|refine aO ?_|refine ba (ax ?_))
     simp only [push_cast,reduceIte,Nat.reduceEqDiff,Nat.reduceAdd,Nat.reduceMul,Nat.reduceSub,Nat.reduceLT,Nat.reduceLeDiff,Int.reduceLT,Int.reduceLE,Int.reduceAdd,Int.reduceSub,Int.reduceNeg,Int.reduceToNat,Int.reduceEq,reduceCtorEq, *]
   | exact bd
   | first|apply be|apply aQ|apply bf|apply aR|apply bg|apply aS
   | refine aC ?_
   | first|refine aD rfl ?_|refine aE rfl ?_|refine ao rfl ?_ ?_|refine aH rfl (fun _=>?_) (fun _=>?_)|refine aG rfl (fun _=>?_) (fun _=>?_)
   | ((first|refine an (fun _=>?_) (fun _=>?_)|refine aw (fun _=>?_) (fun _=>?_))<;>try simp (config:={ maxSteps:=2000000 }) only [Kon,push_cast,reduceIte,Nat.reduceEqDiff,Nat.reduceAdd,Nat.reduceMul,Nat.reduceSub,Nat.reduceLT,Nat.reduceLeDiff,Int.reduceLT,Int.reduceLE,Int.reduceAdd,Int.reduceSub,Int.reduceNeg,Int.reduceToNat,Int.reduceEq,reduceCtorEq, *])
   | refine And.intro trivial ?_
   | refine And.intro (by omega) ?_
   | refine aI rfl (fun _=>?_) (fun _=>?_)
   | refine And.intro ?_ ?_
 refine aK (kk1.out ⟨rfl,rfl⟩) ?_
 refine sk ?_
 iterate 4 first
   | refine a8 ?_
   | (first|refine aM (by kernel_rfl) ?_|refine aA (by kernel_rfl) ?_|refine aB ?_|refine bV ?_|refine bc (fun _=>?_)|refine au ?_|refine aT ?_)
     simp (config:={ maxSteps:=2000000 }) only [Kon,push_cast,reduceIte,Nat.reduceEqDiff,Nat.reduceAdd,Nat.reduceMul,Nat.reduceSub,Nat.reduceLT,Nat.reduceLeDiff,Int.reduceLT,Int.reduceLE,Int.reduceAdd,Int.reduceSub,Int.reduceNeg,Int.reduceToNat,Int.reduceEq,reduceCtorEq, *]
   | (first|refine aP (by kernel_rfl) ?_|refine aN ?_|refine aO ?_|refine ba (ax ?_))
     simp only [push_cast,reduceIte,Nat.reduceEqDiff,Nat.reduceAdd,Nat.reduceMul,Nat.reduceSub,Nat.reduceLT,Nat.reduceLeDiff,Int.reduceLT,Int.reduceLE,Int.reduceAdd,Int.reduceSub,Int.reduceNeg,Int.reduceToNat,Int.reduceEq,reduceCtorEq, *]
   | exact bd
   | first|apply be|apply aQ|apply bf|apply aR|apply bg|apply aS
   | refine aC ?_
   | first|refine aD rfl ?_|refine aE rfl ?_|refine ao rfl ?_ ?_|refine aH rfl (fun _=>?_) (fun _=>?_)|refine aG rfl (fun _=>?_) (fun _=>?_)
   | ((first|refine an (fun _=>?_) (fun _=>?_)|refine aw (fun _=>?_) (fun _=>?_))<;>try simp (config:={ maxSteps:=2000000 }) only [Kon,push_cast,reduceIte,Nat.reduceEqDiff,Nat.reduceAdd,Nat.reduceMul,Nat.reduceSub,Nat.reduceLT,Nat.reduceLeDiff,Int.reduceLT,Int.reduceLE,Int.reduceAdd,Int.reduceSub,Int.reduceNeg,Int.reduceToNat,Int.reduceEq,reduceCtorEq, *])
   | refine And.intro trivial ?_
   | refine And.intro (by omega) ?_
   | refine aI rfl (fun _=>?_) (fun _=>?_)
   | refine And.intro ?_ ?_
 refine CM (fun T2 L2=>T2=[(9,cur),(8,.bool fd),(7,.int .i64 c),(4,.ptr L.length 0),(0,.ptr p 0),(2,.sl (vs.map AV.str) vs.length capV)]∧L2=L++[Blk.cells (tyC ty)]) ?_ ?_
 · rcases fd with _|_
   · have hcur:=hcur.out
     rw [if_neg (by simp)] at hcur
     subst hcur
     clear hfc hcase hv0 hH hin hz
     refine wk ?_
     exact iA _ _ (CutL (b:=by simp)) ⟨rfl,rfl⟩
   · obtain ⟨h1,h2⟩:=hfc rfl
     have hcur:=hcur.out
     rw [if_pos rfl] at hcur
     rcases hcase with ⟨_,rfl⟩|⟨r,rest,rfl,hLr,_⟩
     · simp at h1
     have hLr1:=hL1 r _ hLr
     have e5:=SP h1 rest
     rw [← hcur] at e5
     have e6:(c:Int)<(ps.length:Int):=by omega
     have e7:c * 2+1<(psC ps).length+rest.length:=by rw [kr];omega
     clear hfc hv0 hH hin hz h2 hcur hLr hL1 hpc kk1 hrow hp
     refine wk ?_
     exact iA _ _ (CutL (b:=by simp)) ⟨rfl,rfl⟩
 rintro _ _ ⟨rfl,rfl⟩ -
 have hhold:=hH.out
 obtain ⟨hbp,hnd,hps,hrw⟩:=hhold
 obtain ⟨jat,hjat⟩:∃ j,j=if fd=true then (ps.getD c noP).1 else L.length+1:=⟨_,rfl⟩
 have hpj:p≠jat∧L.length≠jat∧b≤jat:=by
   rw [hjat]
   rcases fd with _|_
   · simp;omega
   · obtain ⟨h1,_⟩:=hfc rfl
     have:=hps (ps.getD c noP) (by simp [h1])
     rw [if_pos rfl]
     obtain ⟨q1,q2,rest,q3⟩:=this
     have:=(List.getElem?_eq_some_iff.1 q3).1
     omega
 replace hjat:=hid hjat
 replace hps:=hid hps
 replace hrw:=hid hrw
 replace hnd:=hid hnd
 replace hfc:=hid hfc
 replace hcase:=hid hcase
 replace hrow:=hid hrow
 obtain ⟨hpj1,hpj2,hpj3⟩:=hpj
 refine wk ?_
 refine am (fun n T' L'=>∃ (i:Nat) (u:List (List UInt8)) (w:AV),n=vs.length - i∧i≤vs.length∧u.length≤u0.length+i∧Hid (dp ty.2.1 ty.2.2.1 u (vs.drop i)=R)∧Hid (InV ty.2.1 u)∧T'=[(36,.int .i64 (i:Int)),(35,.int .i64 vs.length),(34,.sl (vs.map AV.str) vs.length capV),(9,w),(8,.bool fd),(7,.int .i64 c),(4,.ptr L.length 0),(0,.ptr p 0),(2,.sl (vs.map AV.str) vs.length capV)] ∧
   L.length+1≤L'.length∧(∀ k,k<L.length+1→k≠jat→L'[k]?=(L++[Blk.cells (tyC ty)])[k]?)∧((w=.sl [] 0 (some 0)∧u=[]∧fd=false)∨∃ j rest,w=.lsl j 0 u.length none 1∧L'[j]?=some (.cells (u.map AV.str++rest))∧(j=jat∨L.length+1≤j)∧u≠[]))
   (CutS (b:=by simp)) ⟨0,u0,cur,rfl,Nat.zero_le _,Nat.le_refl _,hid (by simpa using hR.out),hid ?_,rfl,by simp,fun _ _ _=>rfl,?_⟩ ?_
 · rw [hv0.out]
   rcases fd with _|_
   · exact ⟨List.Pairwise.nil,fun v hv=>by cases hv⟩
   · obtain ⟨h1,h2⟩:=hfc.out rfl
     exact (hin.out (ps.getD c noP) (by simp [h1]) h2).2
 · have hv:=hv0.out
   have hcu:=hcur.out
   have hja:=hjat.out
   rcases fd with _|_
   · exact .inl ⟨by simpa using hcu,by simpa using hv,rfl⟩
   · obtain ⟨h1,h2⟩:=hfc.out rfl
     rw [if_pos rfl] at hv hcu hja
     have hm:ps.getD c noP∈ps:=by simp [h1]
     obtain ⟨_,_,rest,q3⟩:=hps.out _ hm
     exact .inr ⟨jat,rest,by rw [hcu,hja,hv],by rw [hja,hv];exact hL1 _ _ q3,.inl rfl,by rw [hv];exact (hz.out _ hm).2.2⟩
 rintro _ _ L' ⟨i,u,w,rfl,hi,hul,hI,hu,rfl,hlen,hfr,hw⟩
 replace hfr:=hid hfr
 have hty4:L'[L.length]?=some (.cells (tyC ty)):=by
   rw [hfr.out _ (by omega) hpj2];simp
 have hu0l:u0.length+vs.length≤1000000:=by
   rw [hv0.out]
   rcases fd with _|_
   · simp;omega
   · obtain ⟨h1,_⟩:=hfc.out rfl
     have:=(hz.out (ps.getD c noP) (by simp [h1])).2.1
     simpa using this
 have hkp:Kpt b L L':=⟨by omega,fun k hk=>by rw [hfr.out k (by omega) (by omega),List.getElem?_append_left (by omega)]⟩
 replace hkp:=hid hkp
 simp only [tyC] at hty4
 by_cases hlt:i<vs.length
 · have g1:(i:Int)<(vs.length:Int):=by omega
   have g2:IntKind.i64.wrap ((i:Int)+1)=(i:Int)+1:=ab (by omega) (by omega)
   obtain ⟨v,hv⟩:∃ v,vs.getD i []=v:=⟨_,rfl⟩
   have g3:(vs.map AV.str).getD i .undef=.str v:=by rw [← hv];simp [hlt]
   have hdr:vs.drop i=v::vs.drop (i+1):=by rw [List.drop_eq_getElem_cons hlt,← hv];simp [hlt]
   have hI2:=hI.out
   rw [hdr] at hI2
   have hu1:u.length≤1000000:=by omega
   have hrow':KF L' (u.map AV.str) u.length 1 w:=by
     rcases hw with ⟨rfl,rfl,_⟩|⟨j,rest,rfl,h1,_⟩
     · exact .inl ⟨_,rfl⟩
     · exact .inr ⟨j,none,rest,rfl,h1⟩
   have hval:∀ {K:AV→List Blk→Prop},K (QO ty.2.1 u v) L'→af Tryz.prog 56 [.agg [.str ty.1,.int .i64 ty.2.1,.bool ty.2.2.1,.bool ty.2.2.2],w,.str v] L' K:=fun q=>Pv hu1 hrow' hu.out.1 q
   replace hval:=@hid _ @hval
   replace hw:=hid hw
   replace hrow':=hid hrow'
   clear hv hdr hI hfc hjat hps hrw hnd hH hz hin hv0 hcur hcase hpc kk1 hR
   refine wk ?_
   refine hval.out ?_
   unfold QO
   rcases hn:eT ty.2.1 v with _|n
   · rw [Hx hn] at hI2
     have hf:=h.out 21 L' hkp.out (by rw [← hI2]) (fun e=>by cases e)
     replace hf:=hid hf
     simp only
     clear hI2 hn hw
     refine sk ?_
     refine wk ?_
     exact aa hf.out
   rw [Hw hn] at hI2
   simp only
   rcases hfn:C6 (cx ty.2.1) u n with _|_
   rotate_left
   · rw [if_pos (show inM ty.2.1 u n=true from hfn)] at hI2
     have hf:=h.out 20 L' hkp.out (by rw [← hI2]) (fun e=>by cases e)
     replace hf:=hid hf
     clear hI2 hn hw hfn
     refine sk ?_
     refine wk ?_
     exact aa hf.out
   have hfn':inM ty.2.1 u n=false:=hfn
   rw [if_neg (by rw [hfn'];simp)] at hI2
   obtain ⟨hu',hmo⟩:=S7 hu.out hn hfn'
   rw [hmo] at hI2
   have hck:=xF (cx ty.2.1) u n
   obtain ⟨k,hk⟩:∃ k,dt (cx ty.2.1) u n=k:=⟨_,rfl⟩
   rw [hk] at hI2 hu' hck ⊢
   replace hI2:=hid hI2
   replace hu':=hid hu'
   clear hfn' hfn hn hmo hk
   rcases hw.out with ⟨rfl,rfl,hfd0⟩|⟨j,rest,rfl,hLj,hj,hune⟩
   · obtain rfl:k=0:=by simpa using hck
     replace hfd0:=hid hfd0
     refine sk ?_
     have kk1:=@hid _ @S9
     refine wk ?_
     refine aj _ _ _ (by omega) (CutL (b:=by simp;omega)) ⟨i+1,[v],.lsl L'.length 0 1 none 1,rfl,hlt,by simp;omega,hI2,hu',rfl,by simp;omega,fun k hk hkj=>?_,.inr ⟨L'.length,[],rfl,by simp,.inr hlen,by simp⟩⟩
     rw [List.getElem?_append_left (by omega)]
     exact hfr.out k hk hkj
   · have hjl:j<L'.length:=(List.getElem?_eq_some_iff.1 hLj).1
     have kk1:Hid (∀ {K:AV→List Blk→Prop},K (.lsl L'.length 0 (u.length+1) none 1) (L'.set j .dead++[.cells ((u.take k++v::u.drop k).map AV.str)])→af Tryz.prog 76 [.lsl j 0 u.length none 1,.int .i64 (k:Nat),.sl [.str v] 1 (some 1)] L' K):=hid fun q=>Uv hu1 hck hLj q
     obtain ⟨u',hu'e⟩:∃ u',u.take k++v::u.drop k=u':=⟨_,rfl⟩
     have hu'l:u.length+1=u'.length:=by rw [← hu'e];simp;omega
     rw [hu'e] at kk1 hI2 hu'
     rw [hu'l] at kk1
     clear hu'e
     refine sk ?_
     refine wk ?_
     refine aj _ _ _ (by omega) (CutL (b:=by simp;omega)) ⟨i+1,u',.lsl L'.length 0 u'.length none 1,rfl,hlt,by omega,hI2,hu',rfl,by simp;omega,fun k hk hkj=>?_,.inr ⟨L'.length,[],rfl,?_,.inr hlen,fun e=>by rw [e] at hu'l;simp at hu'l⟩⟩
     · rw [List.getElem?_append_left (by simp;omega),List.getElem?_set_ne (by omega)]
       exact hfr.out k hk hkj
     · rw [List.getElem?_append_right (by simp)];simp
 · have hke:i=vs.length:=by omega
   subst hke
   have g1:¬ (vs.length:Int)<(vs.length:Int):=by omega
   have hI2:=hI.out
   rw [List.drop_length,dp] at hI2
   rcases hw with ⟨rfl,rfl,rfl⟩|⟨j,rest,rfl,hLj,hj,hune⟩
   · have hjj:jat=L.length+1:=by rw [hjat.out];simp
     rw [if_neg (by simp)] at hI2
     have hf:=h.out 0 L' hkp.out (by rw [← hI2]) (fun _=>⟨ps,hH.out.frame fun k hk=>by rw [hfr.out k (by omega) (by omega),List.getElem?_append_left hk],by rw [← hI2];exact (L8 hfd).symm⟩)
     replace hf:=hid hf
     clear hI hI2 hfc hjat hps hrw hnd hH hz hin hv0 hcur hcase hpc kk1 hR h
     refine wk ?_
     exact aa hf.out
   have g2:¬ (u.length:Int)=0:=by
     rcases u with _|⟨x,t⟩
     · exact absurd rfl hune
     · simp;omega
   by_cases hs:ty.2.2.1=true∧1<u.length
   · rw [if_pos hs] at hI2
     have hf:=h.out 19 L' hkp.out (by rw [← hI2]) (fun e=>by cases e)
     replace hf:=hid hf
     obtain ⟨hs1,hs2⟩:=hs
     have g3:(1:Int)<(u.length:Int):=by omega
     clear hI hI2 hfc hjat hps hrw hnd hH hz hin hv0 hcur hcase hpc kk1 hR h hs2 g2 hune
     refine wk ?_
     exact aa hf.out
   rw [if_neg hs] at hI2
   have g3:(ty.2.2.1 && decide ((1:Int)<(u.length:Int)))=false:=by
     rcases hsg:ty.2.2.1 with _|_
     · rfl
     · simp only [Bool.true_and,decide_eq_false_iff_not]
       intro e
       exact hs ⟨hsg,by omega⟩
   replace hj:=hid hj
   replace hune:=hid hune
   replace hu:=hid hu
   rcases hfd':fd with _|_
   · subst hfd'
     have hjj:jat=L.length+1:=by rw [hjat.out];simp
     have hfrL:∀ k,k<L.length→L'[k]?=L[k]?:=fun k hk=>by rw [hfr.out k (by omega) (by omega),List.getElem?_append_left hk]
     have hjL:L.length+1≤j:=by
       rcases hj.out with e|e
       · omega
       · exact e
     rcases hrw.out with ⟨hLp,e⟩|⟨r,rest2,hLp,hLr,hbr,hrp,hqr⟩
     · subst e
       have hc0:c=0:=by rw [← hc];rfl
       subst hc0
       have hLp':L'[p]?=some (.cells [s1,s2,.sl [] 0 (some 0)]):=by rw [hfrL p (by omega)];exact hLp
       replace hLp:=hid hLp
       replace hpl1:=hid hpl1
       replace hp:=hid hp
       replace hfrL:=hid hfrL
       clear hfc kk1 hpc hcase hrow hcur
       have hpl':p<L'.length:=by omega
       have hjl':j<L'.length:=(List.getElem?_eq_some_iff.1 hLj).1
       have ep:∀ X:List Blk,(L'++X)[p]?=some (.cells [s1,s2,.sl [] 0 (some 0)]):=fun X=>by rw [List.getElem?_append_left hpl'];exact hLp'
       refine wk ?_
       refine Li (.lsl L'.length 0 1 none 2) (L'++[.cells [.str ty.1,.lsl j 0 u.length none 1]]) (Ta hjl' ⟨rfl,rfl⟩) rfl ?_
       refine sk ?_
       refine wk ?_
       have hf:=h.out 0 ((L'++[Blk.cells [.str ty.1,.lsl j 0 u.length none 1]]).set p (Blk.cells [s1,s2,.lsl L'.length 0 1 none 2])) (hkp.out.trans ⟨by simp;omega,fun k hk=>by rw [List.getElem?_set_ne (by omega),List.getElem?_append_left (by omega)]⟩) (by rw [← hI2]) (fun _=>⟨[(j,ty.1,u)],?_,?_⟩)
       · exact aa hf
       · refine ta.more (c:=0) (rest:=rest) (r:=L'.length) (ps:=[]) hH.out (Nat.le_refl _) (by simp) (by omega) (by omega) (by simp) ?_ ?_ ?_ (by omega) (by omega) (by omega) (by simp)
         · rw [List.getElem?_set_ne (by omega),List.getElem?_append_left hjl'];exact hLj
         · rw [List.getElem?_set_self (by simp;omega)];rfl
         · rw [List.getElem?_set_ne (by omega),List.getElem?_append_right (Nat.le_refl _),Nat.sub_self];rfl
       · have hem:u.isEmpty=false:=by simpa using hune.out
         rw [← hI2]
         simp only
         rw [hem];rfl
     · have hrl:r<L.length:=(List.getElem?_eq_some_iff.1 hLr).1
       have hpl':p<L'.length:=by omega
       have hjl':j<L'.length:=(List.getElem?_eq_some_iff.1 hLj).1
       have hck:c≤ps.length:=by rw [← hc];simpa using xF ch (ps.map (·.2)) (ae ty.1)
       have hLp':L'[p]?=some (.cells [s1,s2,.lsl r 0 ps.length none 2]):=by rw [hfrL p (by omega)];exact hLp
       have hLr':L'[r]?=some (.cells (psC ps++rest2)):=by rw [hfrL r (by omega)];exact hLr
       have ep:∀ (X:List Blk) (Y:Blk),(L'.set r Y++X)[p]?=some (.cells [s1,s2,.lsl r 0 ps.length none 2]):=fun X Y=>by rw [List.getElem?_append_left (by simpa using hpl'),List.getElem?_set_ne hrp];exact hLp'
       replace hLp:=hid hLp
       replace hLr:=hid hLr
       replace hpl1:=hid hpl1
       replace hp:=hid hp
       replace hqr:=hid hqr
       replace hfrL:=hid hfrL
       clear hfc kk1 hpc hcase hrow hcur
       refine wk ?_
       refine Li (.lsl L'.length 0 (ps.length+1) none 2) (L'.set r .dead++[.cells (psC (ps.take c++(j,ty.1,u)::ps.drop c))]) (Ux hjl' (by omega) hck hLr' ⟨rfl,rfl⟩) rfl ?_
       refine sk ?_
       refine wk ?_
       have hf:=h.out 0 ((L'.set r .dead++[Blk.cells (psC (ps.take c++(j,ty.1,u)::ps.drop c))]).set p (Blk.cells [s1,s2,.lsl L'.length 0 (ps.length+1) none 2])) (hkp.out.trans ⟨by simp;omega,fun k hk=>by rw [List.getElem?_set_ne (by omega),List.getElem?_append_left (by simp;omega),List.getElem?_set_ne (by omega)]⟩) (by rw [← hI2]) (fun _=>⟨ps.take c++(j,ty.1,u)::ps.drop c,?_,?_⟩)
       · exact aa hf
       · have lt:∀ q∈ps,q.1<L.length∧q.1≠p:=fun q hq=>by
           obtain ⟨_,h1,_,h2⟩:=hps.out q hq
           exact ⟨(List.getElem?_eq_some_iff.1 h2).1,h1⟩
         refine ta.more (rest:=rest) (r:=L'.length) hH.out hck (fun q hq=>?_) (by omega) (by omega) (fun q hq=>?_) ?_ ?_ ?_ (by omega) (by omega) (by omega) (fun q hq=>?_)
         · rw [List.getElem?_set_ne (Ne.symm (lt q hq).2),List.getElem?_append_left (by have:=(lt q hq).1;simp;omega),List.getElem?_set_ne (Ne.symm (hqr.out q hq))]
           exact hfrL.out _ (lt q hq).1
         · have:=(lt q hq).1;omega
         · rw [List.getElem?_set_ne (by omega),List.getElem?_append_left (by simpa using hjl'),List.getElem?_set_ne (by omega)];exact hLj
         · rw [List.getElem?_set_self (by simp;omega)]
         · rw [List.getElem?_set_ne (by omega),List.getElem?_append_right (by simp)];simp
         · have:=(lt q hq).1;omega
       · have hem:u.isEmpty=false:=by simpa using hune.out
         rw [← hI2]
         simp only
         rw [hem,Q3 hr hfd,hc]
         simp
   · subst hfd'
     obtain ⟨h1,h2⟩:=hfc.out rfl
     have hjj:jat=(ps.getD c noP).1:=by rw [hjat.out];simp
     rcases hrw.out with ⟨_,e⟩|⟨r,rest2,hLp,hLr,hbr,hrp,hqr⟩
     · rw [e] at h1;simp at h1
     have hm:ps.getD c noP∈ps:=by simp [h1]
     have hrj:r≠jat:=by rw [hjj];exact (hqr _ hm).symm
     have hrl:r<L.length:=(List.getElem?_eq_some_iff.1 hLr).1
     have hLp':L'[p]?=some (.cells [s1,s2,.lsl r 0 ps.length none 2]):=by rw [hfr.out p (by omega) hpj1];exact hL1 _ _ hLp
     have hLr':L'[r]?=some (.cells (psC ps++rest2)):=by rw [hfr.out r (by omega) hrj];exact hL1 _ _ hLr
     have e6:(c:Int)<(ps.length:Int):=by omega
     have e7:c * 2+1+1≤(psC ps).length+rest2.length:=by rw [kr];omega
     replace hLp:=hid hLp
     replace hLr:=hid hLr
     replace hqr:=hid hqr
     replace hpl1:=hid hpl1
     replace hp:=hid hp
     replace h2:=hid h2
     clear hfc kk1 hpc
     refine wk ?_
     have hnm:=(hin.out _ hm h2.out).1
     have e8:(psC ps++rest2).take (c * 2+1)++AV.lsl j 0 u.length none 1::(psC ps++rest2).drop (c * 2+1+1)=psC (ps.set c (j,(ps.getD c noP).2.1,u))++rest2:=by
       rw [← KR _ _ _ _ h1,List.set_eq_take_append_cons_drop,if_pos (by rw [kr];omega),List.take_append_of_le_length (by rw [kr];omega),List.drop_append_of_le_length (by rw [kr];omega)]
       simp
     rw [e8]
     refine aa (h.out 0 _ (hkp.out.trans ⟨by simp;omega,fun k hk=>by rw [List.getElem?_set_ne (by omega)]⟩) (by rw [← hI2]) fun _=>⟨_,hH.out.vals (l0:=L.length+1) h1 (by omega) hjj (fun k hk hkj=>?_) hj.out hLj hLp.out hLr.out hbr hrp hqr.out rfl,?_⟩)
     · by_cases hkl:k<L.length
       · exact .inl (by rw [hfr.out k hk hkj,List.getElem?_append_left hkl])
       · exact .inr (by omega)
     · have hem:u.isEmpty=false:=by simpa using hune.out
       rw [← hI2,hnm,List.map_set]
       simp only
       rw [hem,Ub hr hfd,hc]
set_option maxHeartbeats 8000000
set_option maxRecDepth 100000
theorem GW {i:Nat} {l:List AV}:∀ {c:List AV} {k:Nat} {a':AV},(AV.snapL i l c)[k]?=some a'→∃ a,c[k]?=some a∧a'=a.snap i l
 | [],_,_,h=>by simp [AV.snapL] at h
 | a::c,0,a',h=>by simp [AV.snapL] at h;exact ⟨a,rfl,h.symm⟩
 | a::c,k+1,a',h=>by simp [AV.snapL] at h;simpa using GW h
theorem GV {i:Nat} {l:List AV}:∀ c:List AV,(AV.snapL i l c).length=c.length
 | []=>rfl
 | a::c=>by simp [AV.snapL,GV c]
theorem CQ {i:Nat} {l:List AV}:∀ c d:List AV,AV.snapL i l (c++d)=AV.snapL i l c++AV.snapL i l d
 | [],d=>rfl
 | a::c,d=>by simp [AV.snapL,CQ c d]
theorem MG {L0 L:List Blk} {r:AV} {Q:AV→List Blk→Prop} {i j:Nat} {l c:List AV} (hj:L[j]?=some (.cells l)) (hi:L[i]?=some (.cells c)) (hij:i≠j) (h:Fin L0 r ((L.set j .dead).set i (.cells (AV.snapL j l c))) Q):Fin L0 r L Q:=fun w0 S0 E0 E w v h0 hn hw hR hv=>by
 obtain ⟨cl,cs,ty,fr,h1,_⟩:=hR.blk j _ hj
 obtain ⟨E',g1,g2,g3,g4⟩:=hR.snap hj h1
 have hi':(L.set j .dead)[i]?=some (.cells c):=by rw [List.getElem?_set_ne (Ne.symm hij)];exact hi
 refine h w0 S0 E0 E' w v (h0.trans g1) hn hw (g2.reblkLe hi' (by rw [GV];exact Nat.le_refl _) fun k a' ha=>?_) (VR.mono g1 _ _ hv)
 obtain ⟨a,e1,rfl⟩:=GW ha
 exact ⟨a,e1,fun v hv=>VR.snap (by rw [g4];exact h1) g3 _ _ hv⟩
abbrev atA (a:Atr):List AV:=[.str a.1,.sl (a.2.map AV.str) a.2.length none]
def a7 (l:List Atr):List AV:=l.flatMap atA
theorem i8 (a:Atr) (l:List Atr):a7 (a::l)=.str a.1 :: .sl (a.2.map AV.str) a.2.length none::a7 l:=rfl
theorem CK (l m:List Atr):a7 (l++m)=a7 l++a7 m:=by simp [a7]
theorem im (l:List Atr):(a7 l).length=l.length * 2:=by
 induction l with
 | nil=>rfl
 | cons a l ih=>rw [i8];simp only [List.length_cons];omega
theorem oz (p:Nat→Bool):∀ l:List Atr,AV.refsL p (a7 l)=true
 | []=>rfl
 | a::l=>by rw [i8];simp [AV.refsL,AV.refs,xu,oz p l]
theorem Hv {i:Nat} {l:List AV}:∀ m:List Atr,AV.snapL i l (a7 m)=a7 m
 | []=>rfl
 | a::m=>by rw [i8];simp [AV.snapL,AV.snap,Hv m]
theorem Iy {i:Nat} {l:List AV}:∀ {ps:List PAt},(∀ q∈ps,q.1≠i)→AV.snapL i l (psC ps)=psC ps
 | [],_=>rfl
 | q::ps,h=>by rw [fi];simp only [AV.snapL,AV.snap];rw [if_neg (h q (by simp)),Iy fun x hx=>h x (by simp [hx])]
theorem eK (l:List (List UInt8)):AV.frzL (l.map AV.str)=l.map AV.str:=by rw [AV.frzL_eq,List.map_map];rfl
theorem CJ:∀ l:List Atr,AV.frzL (a7 l)=a7 l
 | []=>rfl
 | a::l=>by rw [i8];simp only [AV.frzL,AV.frz,eK,CJ l]
theorem iW:∀ {l:List Atr} {k:Nat},k<l.length→((a7 l).drop (k * 2)).take 2=atA (l.getD k ([],[]))
 | a::l,0,_=>rfl
 | a::l,k+1,h=>by
   have ih:=@iW l k (by simpa using h)
   rw [show (k+1) * 2=k * 2+1+1 by omega,i8]
   simpa using ih
theorem Lh {L0:List Blk} {r:Nat} {x:AV} {Q:AV→List Blk→Prop} (hrb:L0.length≤r) (hx:∀ i l,x.snap i l=x):∀ {rs:List PAt} {ds:List Atr} {L:List Blk} {rest:List AV},Kpt L0.length L0 L→(rs.map (·.1)).Nodup→(∀ q∈rs,L0.length≤q.1∧q.1≠r∧∃ rest,L[q.1]?=some (.cells (q.2.2.map AV.str++rest))) →
   L[r]?=some (.cells (a7 ds++psC rs++rest))→(∀ X:List Blk,Fin L0 (.tup [.sl (a7 (ds++rs.map (·.2))) (ds.length+rs.length) none,x]) (L0++X) Q)→Fin L0 (.tup [.lsl r 0 (ds.length+rs.length) none 2,x]) L Q
 | [],ds,L,rest,hk,_,_,hr,h=>by
   refine JC hr ?_
   have e:((a7 ds++psC []++rest).drop 0).take ((ds.length+0) * 2)=a7 ds:=by
     rw [List.drop_zero,show psC []=[] from rfl,List.append_nil,Nat.add_zero,← im,List.take_left'];rfl
   simp only [AV.snap,AV.snapL,if_true,List.length_nil,e,hx]
   have hk2:Kpt L0.length L0 (L.set r .dead):=⟨by simpa using hk.1,fun k hkk=>by rw [List.getElem?_set_ne (by omega)];exact hk.2 k hkk⟩
   obtain ⟨X,hX⟩:=hk2.eq rfl
   rw [hX]
   have:=h X
   simpa only [List.map_nil,List.append_nil,List.length_nil] using this
 | q::rs,ds,L,rest,hk,hnd,hq,hr,h=>by
   obtain ⟨h1,h2,rest1,h3⟩:=hq q (by simp)
   simp only [List.map_cons,List.nodup_cons] at hnd
   have hno:∀ q'∈rs,q'.1≠q.1:=fun q' hq' e=>hnd.1 (List.mem_map.2 ⟨q',hq',e⟩)
   refine MG h3 hr (Ne.symm h2) ?_
   have e:AV.snapL q.1 (q.2.2.map AV.str++rest1) (a7 ds++psC (q::rs)++rest)=a7 (ds++[q.2])++psC rs++AV.snapL q.1 (q.2.2.map AV.str++rest1) rest:=by
     rw [CQ,CQ,Hv,fi]
     simp only [AV.snapL,AV.snap,if_true]
     rw [Iy hno,CK,i8]
     simp only [List.drop_zero,Nat.mul_one,show a7 []=[] from rfl]
     rw [List.take_left' (by simp)]
     simp
   rw [e]
   have hrl:r<L.length:=(List.getElem?_eq_some_iff.1 hr).1
   have:=Lh (Q:=Q) (x:=x) hrb hx (rs:=rs) (ds:=ds++[q.2]) (L:=(L.set q.1 .dead).set r (.cells (a7 (ds++[q.2])++psC rs++AV.snapL q.1 (q.2.2.map AV.str++rest1) rest))) (rest:=AV.snapL q.1 (q.2.2.map AV.str++rest1) rest)
     ⟨by simpa using hk.1,fun k hkk=>by rw [List.getElem?_set_ne (by omega),List.getElem?_set_ne (by omega)];exact hk.2 k hkk⟩ hnd.2 (fun q' hq'=>?_) (by simp [hrl]) (fun X=>?_)
   · rw [show ds.length+(q::rs).length=(ds++[q.2]).length+rs.length by simp;omega]
     exact this
   · obtain ⟨a1,a2,rest2,a3⟩:=hq q' (by simp [hq'])
     exact ⟨a1,a2,rest2,by rw [List.getElem?_set_ne (Ne.symm a2),List.getElem?_set_ne (Ne.symm (hno q' hq'))];exact a3⟩
   · have:=h X
     rw [show ds.length+(q::rs).length=(ds++[q.2]).length+rs.length by simp;omega] at this
     simpa using this
theorem Qx {L0 L:List Blk} {b p:Nat} {s1 s2 row x:AV} {ps:List PAt} {Q:AV→List Blk→Prop} (hx:∀ i l,x.snap i l=x) (hxr:x.refs (fun i=>decide (i<L0.length))=true) (hb:L0.length≤b) (hH:ta L b p s1 s2 ps) (hk:Kpt L0.length L0 L) (hrow:L[p]?=some (.cells [s1,s2,row]))
   (hxf:x.frz=x) (h:Q (.tup [.sl (a7 (ps.map (·.2))) ps.length none,x]) L0):Fin L0 (.tup [row,x]) L Q:=by
 obtain ⟨g1,g2,g3,g4⟩:=hH
 rcases g4 with ⟨e,rfl⟩|⟨r,rest,e1,e2,e3,e4,e5⟩
 · rw [hrow] at e
   simp only [Option.some.injEq,Blk.cells.injEq,List.cons.injEq,true_and,and_true] at e
   subst e
   obtain ⟨X,rfl⟩:=hk.eq rfl
   refine bB (ad ?_ ?_)
   · simp only [AV.frz,AV.frzL,hxf,AV.refs,AV.refsL,hxr];rfl
   · simp only [AV.frz,AV.frzL,hxf];exact h
 · rw [hrow] at e1
   simp only [Option.some.injEq,Blk.cells.injEq,List.cons.injEq,true_and,and_true] at e1
   subst e1
   have:=Lh (L0:=L0) (x:=x) (Q:=Q) (r:=r) (by omega) hx (rs:=ps) (ds:=[]) (L:=L) (rest:=rest) hk g2 (fun q hq=>?_) (by simpa [a7] using e2) (fun X=>?_)
   · simpa using this
   · obtain ⟨a1,a2,rest',a3⟩:=g3 q hq
     exact ⟨by omega,e5 q hq,rest',a3⟩
   · refine ad ?_ (by simpa using h)
     simp only [AV.refs,AV.refsL,oz,hxr];rfl
def Ql (ts:List Typ):Prop:=ts.length≤1000000∧(∀ ty∈ts,a6 ty.1)∧∀ ty∈ts,gq ts ty.1=some ty
theorem AP {n:List UInt8} {vs:List (List UInt8)} {a:Atr}:∀ {d:Bool} {l:List Atr},a∈fp n vs d l→a=(n,vs)∨a∈l
 | d,[],h=>by
   rw [fp] at h
   split at h
   · cases h
   · simp at h;exact .inl h
 | d,x::t,h=>by
   rw [fp,List.mem_append,List.mem_append] at h
   rcases h with (h|h)|h
   · split at h
     · simp at h;exact .inl h
     · cases h
   · split at h
     · simp at h;exact .inr (by simp [h])
     · cases h
   · rcases AP h with e|e
     · exact .inl e
     · exact .inr (by simp [e])
theorem EM {n:List UInt8} {vs:List (List UInt8)}:∀ {d:Bool} {l:List Atr},(fp n vs d l).length≤l.length+(if d=true then 0 else 1)
 | d,[]=>by rw [fp];split<;>simp
 | d,x::t=>by
   have ih:=@EM n vs (d || !decide (ae x.1<ae n)) t
   rw [fp]
   simp only [List.length_append,List.length_cons]
   have h1:(if ae n≠ae x.1 then [x] else []).length≤1:=by split<;>simp
   obtain ⟨z,hz⟩:∃ z,(if ae n≠ae x.1 then [x] else []).length=z:=⟨_,rfl⟩
   rw [hz] at h1 ⊢
   cases d with
   | true =>
     simp only [Bool.true_eq_false,false_and,if_false,List.length_nil,Bool.true_or,if_true] at ih ⊢
     omega
   | false =>
     by_cases hx:ae x.1<ae n
     · simp only [hx,decide_true,Bool.not_true,Bool.or_self,Bool.false_eq_true,if_false] at ih ⊢
       simp;omega
     · simp only [hx,decide_false,Bool.not_false,Bool.or_true,if_true] at ih ⊢
       simp;omega
theorem O9 {ts:List Typ} {l:List Atr} {a:Atr} {ty:Typ} (h:InA ts l) (ha:a∈l) (ht:gq ts ty.1=some ty) (e:ae a.1=ae ty.1):a.1=ty.1∧InV ty.2.1 a.2:=by
 obtain ⟨ty',h1,h2,h3,h4,h5⟩:=h.2 a ha
 rw [GR e,ht] at h1
 cases h1
 exact ⟨h2.symm,h4⟩
theorem LR {ts:List Typ} {l:List Atr} {a:Atr} (hts:Ql ts) (h:InA ts l) (ha:a∈l):a6 a.1∧a.2≠[]:=by
 obtain ⟨ty',h1,h2,h3,_⟩:=h.2 a ha
 exact ⟨by rw [← h2];exact hts.2.1 _ (CO h1).1,h3⟩
theorem JH {l:List Atr} {n:List UInt8} {m:Nat} (h:∀ a∈l,a.2.length≤m):(eB l n).length≤m:=by
 induction l with
 | nil=>simp [eB]
 | cons a l ih =>
   rw [eB]
   split
   · exact h a (by simp)
   · exact ih fun b hb=>h b (by simp [hb])
theorem Qj {ts:List Typ} {l:List Atr} {ty:Typ} {vs:List (List UInt8)} (h:InA ts l) (ht:gq ts ty.1=some ty) (hne:vs≠[]) (h0:(dp ty.2.1 ty.2.2.1 (eB l ty.1) vs).2=0) :
   InA ts (fp ty.1 (dp ty.2.1 ty.2.2.1 (eB l ty.1) vs).1 (dp ty.2.1 ty.2.2.1 (eB l ty.1) vs).1.isEmpty l):=by
 have h1:=La (l:=eB l ty.1) (.inr hne) h0
 have hem:(dp ty.2.1 ty.2.2.1 (eB l ty.1) vs).1.isEmpty=false:=by simpa using h1
 rw [hem]
 exact Q4 h ht rfl h1 (Lb (QP h ht) h0) (Ei h0)
theorem K5 {ts:List Typ} {capT:Option Nat} {c2:List AV} {n2:Nat} {cap2:Option Nat} {list:List Atr} {cap:Option Nat} (hts:Ql ts) (hl:list.length≤100) (hv:∀ a∈list,a6 a.1∧a.2.length≤9000) {R:List Atr×Int} (hR:wV ts [] list=R) {L:List Blk} {K:AV→List Blk→Prop} (h:K (.tup [.sl (a7 R.1) R.1.length none,.int .i64 R.2]) L) :
   af Tryz.prog 26 [.agg [.sl (b9 ts) ts.length capT,.sl c2 n2 cap2],.sl (a7 list) list.length cap] L K:=by
 replace h:=hid h
 refine ai EF (by simp [pl]) ?_
 simp only [pl,ar]
 refine wk ?_
 obtain ⟨sT,hsT⟩:∃ s,AV.sl (b9 ts) ts.length capT=s:=⟨_,rfl⟩
 obtain ⟨sC,hsC⟩:∃ s,AV.sl c2 n2 cap2=s:=⟨_,rfl⟩
 refine am (fun n T' L'=>∃ (i:Nat) (ps:List PAt),n=list.length - i∧i≤list.length∧Hid (wV ts (ps.map (·.2)) (list.drop i)=R)∧Hid (InA ts (ps.map (·.2)))∧ps.length≤i∧Hid (∀ q∈ps,q.2.2.length≤9000 * i)∧T'=[(17,.int .i64 (i:Int)),(16,.int .i64 list.length),(15,.sl (a7 list) list.length cap),(6,.ptr (L.length+1) 0),(2,.ptr L.length 0)] ∧
   Hid (Kpt (L.length+1) (L++[Blk.cells [sT,sC]]) L')∧Hid (ta L' (L.length+1) (L.length+1) sT sC ps)) (CutS (b:=by simp)) ⟨0,[],rfl,Nat.zero_le _,hid (by simpa using hR),hid ⟨List.Pairwise.nil,fun a ha=>by cases ha⟩,Nat.le_refl _,hid (by simp),rfl,hid ?_,hid ?_⟩ ?_
 · refine ⟨by simp,fun k hk=>?_⟩
   rw [hsT,hsC,show L++[Blk.cells [sT,sC],Blk.cells [sT,sC,.sl [] 0 (some 0)]]=(L++[Blk.cells [sT,sC]])++[Blk.cells [sT,sC,.sl [] 0 (some 0)]] by simp,List.getElem?_append_left (by simpa using hk)]
 · refine ⟨Nat.le_refl _,by simp,by simp,.inl ⟨?_,rfl⟩⟩
   rw [hsT,hsC,List.getElem?_append_right (by simp)];simp
 rintro _ _ L' ⟨i,ps,rfl,hi,hI,hin,hpl,hlen,rfl,hkp,hH⟩
 have hLl:L.length+1≤L'.length:=hkp.out.1
 have hkL:Kpt L.length L L':=⟨by omega,fun k hk=>by rw [hkp.out.2 k (by omega),List.getElem?_append_left hk]⟩
 have hbS:∀ X:List Blk,(L'++X)[L.length]?=some (.cells [sT,sC]):=fun X=>by
   rw [List.getElem?_append_left (by omega),hkp.out.2 _ (by omega)];simp
 obtain ⟨row,hp,_,_⟩:=hH.out.row
 have hpl1:L.length+1<L'.length:=(List.getElem?_eq_some_iff.1 hp).1
 replace hkL:=hid hkL
 by_cases hlt:i<list.length
 · have g1:(i:Int)<(list.length:Int):=by omega
   have g2:IntKind.i64.wrap ((i:Int)+1)=(i:Int)+1:=ab (by omega) (by omega)
   have e3:=iW hlt
   have e4:i * 2+2≤(a7 list).length:=by rw [im];omega
   obtain ⟨⟨nm,vs⟩,ha⟩:∃ a,list.getD i ([],[])=a:=⟨_,rfl⟩
   have hdr:list.drop i=(nm,vs)::list.drop (i+1):=by rw [List.drop_eq_getElem_cons hlt,← ha];simp [hlt]
   obtain ⟨hnm,hvs⟩:=hv (nm,vs) (by rw [← ha];simp [hlt])
   simp only at hnm hvs
   rw [ha] at e3
   simp only [atA] at e3
   have hI2:=hI.out
   rw [hdr,wV] at hI2
   simp only at hI2
   have hfind:∀ (X:List Blk) {K:AV→List Blk→Prop},K (Ed (gq ts nm)) (L'++X)→af Tryz.prog 49 [.agg [sT,sC],.str nm] (L'++X) K:=fun X {K} q=>by
     rw [← hsT,← hsC];exact UF hts.1 hts.2.1 hnm q
   replace hfind:=@hid _ @hfind
   replace hp:=hid hp
   replace hI2:=hid hI2
   clear hI hdr ha hv hR
   refine wk ?_
   refine hfind.out _ ?_
   unfold Ed
   rcases hty:gq ts nm with _|ty
   · have hI3:=hI2.out
     rw [hty] at hI3
     simp only at hI3
     have h':=h.out
     rw [← hI3] at h'
     replace h':=hid h'
     simp only [Option.getD_none,Option.isSome_none,tyC]
     clear hI2 hI3 hty
     refine sk ?_
     refine wk ?_
     obtain ⟨X,rfl⟩:=hkL.out.eq rfl
     rw [List.append_assoc]
     exact bB (ad rfl h'.out)
   have htn:=CO hty
   have htt:=hts.2.2 ty htn.1
   have hI3:=hI2.out
   rw [hty] at hI3
   simp only at hI3
   simp only [Option.getD_some,Option.isSome_some,tyC]
   by_cases hvn:vs=[]
   · rw [if_pos hvn] at hI3
     have h':=h.out
     rw [← hI3] at h'
     replace h':=hid h'
     subst hvn
     clear hI2 hI3 hty htn htt
     refine sk ?_
     refine wk ?_
     obtain ⟨X,rfl⟩:=hkL.out.eq rfl
     rw [List.append_assoc]
     exact bB (ad rfl h'.out)
   rw [if_neg hvn,← Im htn.2] at hI3
   have g5:¬ (vs.length:Int)=0:=by
     rcases vs with _|⟨x,t⟩
     · exact absurd rfl hvn
     · simp;omega
   obtain ⟨A,hA⟩:∃ A,dp ty.2.1 ty.2.2.1 (eB (ps.map (·.2)) ty.1) vs=A:=⟨_,rfl⟩
   rw [hA] at hI3
   replace hI3:=hid hI3
   clear hI2
   replace hvn:=hid hvn
   replace hlen:=hid hlen.out
   have hadd:∀ (X:List Blk) {K:AV→List Blk→Prop},(∀ (code:Int) (L3:List Blk),Kpt (L.length+1) (L'++X) L3→code=A.2→(code=0→∃ ps',ta L3 (L.length+1) (L.length+1) sT sC ps'∧ps'.map (·.2)=fp ty.1 A.1 A.1.isEmpty (ps.map (·.2)))→K (.int .i64 code) L3) →
       af Tryz.prog 50 [.ptr (L.length+1) 0,.agg [.str ty.1,.int .i64 ty.2.1,.bool ty.2.2.1,.bool ty.2.2.2],.sl (vs.map AV.str) vs.length none] (L'++X) K:=fun X {K} q=>by
     refine UM (by simp;omega) (hH.out.frame fun k hk=>by rw [List.getElem?_append_left hk]) (by omega) (fun q hq=>?_) (by omega) (hts.2.1 ty htn.1) hin.out.1 (fun q hq e=>O9 hin.out (List.mem_map.2 ⟨q,hq,rfl⟩) htt e) hA q
     have:=LR hts hin.out (List.mem_map.2 ⟨q,hq,rfl⟩)
     have h2:=hlen.out q hq
     exact ⟨this.1,by omega,this.2⟩
   replace hadd:=@hid _ @hadd
   clear htn
   replace hts:=hid hts
   refine sk ?_
   refine wk ?_
   refine hadd.out _ fun code L3 hk3 hc hHd=>?_
   have hkL3:Kpt L.length L L3:=hkL.out.trans ⟨by have:=hk3.1;omega,fun k hk=>by rw [hk3.2 k (by omega),List.getElem?_append_left (by omega)]⟩
   by_cases hc0:code=0
   · subst hc0
     obtain ⟨ps',hH',hps'⟩:=hHd rfl
     have hI4:=hI3.out
     rw [if_neg (by rw [← hc];simp)] at hI4
     have hin':=Qj hin.out htt hvn.out (by rw [hA,← hc])
     rw [hA] at hin'
     have hlA:=CL (by rw [hA,← hc]:(dp ty.2.1 ty.2.2.1 (eB (ps.map (·.2)) ty.1) vs).2=0)
     rw [hA] at hlA
     have hvl:=JH (l:=ps.map (·.2)) (n:=ty.1) (m:=9000 * i) (fun a ha=>by
       obtain ⟨q,hq,rfl⟩:=List.mem_map.1 ha
       exact hlen.out q hq)
     rw [← hps'] at hI4 hin'
     have hl':ps'.length≤i+1:=by
       have:=@EM ty.1 A.1 A.1.isEmpty (ps.map (·.2))
       rw [← hps'] at this
       simp only [List.length_map] at this
       split at this<;>omega
     have hq':∀ q∈ps',q.2.2.length≤9000 * (i+1):=fun q hq=>by
       have hm:q.2∈ps'.map (·.2):=List.mem_map.2 ⟨q,hq,rfl⟩
       rw [hps'] at hm
       rcases AP hm with e|e
       · rw [e];simp only;omega
       · obtain ⟨q2,h2,h3⟩:=List.mem_map.1 e
         have:=hlen.out q2 h2
         rw [← h3];omega
     have hkp':Kpt (L.length+1) (L++[Blk.cells [sT,sC]]) L3:=hkp.out.trans ⟨hk3.1,fun k hk=>by rw [hk3.2 k hk,List.getElem?_append_left (by omega)]⟩
     replace hI4:=hid hI4
     replace hin':=hid hin'
     replace hq':=hid hq'
     replace hkp':=hid hkp'
     replace hH':=hid hH'
     have hL3:=hk3.1
     clear hHd hc hI3 hadd hfind hbS hps' hlA hk3 hkL3
     refine sk ?_
     refine wk ?_
     obtain ⟨row',hp',_,_⟩:=hH'.out.row
     have hpl':L.length+1<L3.length:=(List.getElem?_eq_some_iff.1 hp').1
     exact aj _ _ _ (by omega) (CutL (b:=by omega)) ⟨i+1,ps',rfl,hlt,hI4,hin',hl',hq',rfl,hkp',hH'⟩
   · have hI4:=hI3.out
     rw [if_pos (by rw [← hc];exact hc0)] at hI4
     have h':=h.out
     rw [← hI4,← hc] at h'
     replace h':=hid h'
     replace hkL3:=hid hkL3
     clear hHd hc hI3 hadd hfind hbS hI4 hk3
     refine sk ?_
     refine wk ?_
     obtain ⟨X,rfl⟩:=hkL3.out.eq rfl
     exact bB (ad rfl h'.out)
 · have hke:i=list.length:=by omega
   subst hke
   have g1:¬ (list.length:Int)<(list.length:Int):=by omega
   have hI2:=hI.out
   rw [List.drop_length,wV] at hI2
   have h':=h.out
   rw [← hI2] at h'
   rw [List.length_map] at h'
   replace h':=hid h'
   clear hI hI2 hR hv
   refine wk ?_
   exact Qx (fun _ _=>rfl) rfl (by omega) hH.out hkL.out hp rfl h'.out
set_option maxHeartbeats 8000000
set_option maxRecDepth 100000
abbrev xP (l:List (List UInt8)):AV:=.sl (l.map AV.str) l.length none
theorem abu (l:List Atr):VK l (a7 l):=by
 exact ⟨im l,fun h hh=>⟨xP (l.getD h ([],[])).2,.inl ⟨_,_,_,rfl⟩,iW hh⟩⟩
theorem Qg {l:List Atr} {k:Nat} (hk:k<l.length):(a7 l).getD (k * 2+1) .undef=xP (l.getD k ([],[])).2:=by
 have h2:=congrArg (fun l=>l[1]?) (iW hk)
 simp only [List.getElem?_take_of_lt (show 1<2 by omega),List.getElem?_drop] at h2
 rw [List.getD_eq_getElem?_getD,h2]
 rfl
theorem aaE {l:List Atr} {cap:Option Nat} {n:List UInt8} (hl:l.length≤1000000) (hr:fT ch l) (hz:∀ a∈l,a6 a.1∧a.2.length≤1000000) (hn:a6 n) {L:List Blk} {K:AV→List Blk→Prop} (h:K (xP (eB l n)) L) :
   af Tryz.prog 28 [.sl (a7 l) l.length cap,.str n] L K:=by
 obtain ⟨c,hc⟩:∃ c,dt ch l (ae n)=c:=⟨_,rfl⟩
 obtain ⟨fd,hfd⟩:∃ fd,C6 ch l (ae n)=fd:=⟨_,rfl⟩
 have hv:=QN (n:=n) hr
 rw [hfd,hc] at hv
 rw [hv] at h
 have hpc:∀ {K:AV→List Blk→Prop},K (.tup [.int .i64 c,.bool fd]) L→af Tryz.prog 54 [.sl (a7 l) l.length cap,.str n] L K:=fun {K} q =>
   ST hl (abu l) (.inl ⟨cap,rfl⟩) hr hn (fun a ha=>(hz a ha).1) (by rw [hc,hfd];exact q)
 have kk1:=@hid _ @hpc
 clear hpc
 rcases fd with _|_
 · rw [if_neg (by simp)] at h
   replace h:=hid h
   refine ai abm (by simp [abn]) ?_
   simp only [abn,ar]
   refine wk ?_
   exact bB (aa h.out)
 · rw [if_pos rfl] at h
   have h0:=C5 (key:=ch) (k:=ae n) hr (d:=([],[]))
   rw [hfd,hc] at h0
   have h1:c<l.length:=by simpa using ((Bool.and_eq_true _ _).mp h0.symm).1
   have e5:=Qg h1
   have hm:l.getD c ([],[])∈l:=by simp [h1]
   have hln:=(hz _ hm).2
   obtain ⟨vs,hvs⟩:∃ vs,(l.getD c ([],[])).2=vs:=⟨_,rfl⟩
   rw [hvs] at h e5 hln
   have e6:(c:Int)<(l.length:Int):=by omega
   have e7:c * 2+1<(a7 l).length:=by rw [im];omega
   replace h:=hid h
   clear h0 hm hvs hv hfd hc
   by_cases h2:vs.length=0
   · obtain rfl:vs=[]:=by simpa using h2
     refine ai abm (by simp [abn]) ?_
     simp only [abn,ar]
     have kk2:=@hid _ (fun L K=>aaP (cap:=none) (L:=L) (K:=K))
     refine wk ?_
     exact bB (aa h.out)
   · refine ai abm (by simp [abn]) ?_
     simp only [abn,ar]
     have kk2:=@hid _ (fun L K=>aaO (cap:=none) (L:=L) (K:=K) h2 hln)
     refine wk ?_
     refine JC (i:=L.length) (l:=vs.map AV.str) (by rw [List.getElem?_append_right (Nat.le_refl _),Nat.sub_self];rfl) ?_
     have e8:((vs.map AV.str).drop 0).take (vs.length * 1)=vs.map AV.str:=by
       rw [List.drop_zero,Nat.mul_one,List.take_of_length_le (by simp)]
     simp only [AV.snap,if_true,e8]
     rw [List.set_append_right _ _ (Nat.le_refl _)]
     refine ad ?_ h.out
     simp only [AV.refs,xu]
end Go.Proofs.YtohflefnbajajaaGreatDoor.Av
