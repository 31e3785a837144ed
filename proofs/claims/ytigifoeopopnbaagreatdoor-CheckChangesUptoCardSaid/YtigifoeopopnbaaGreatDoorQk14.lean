/- Joined texts of the walk, made small by a program. -/
import Derived.Test.YtigifoeopopnbaaGreatDoorQk13
import Derived.Test.YtigifoeopopnbaaGreatDoorQk6
import Derived.Test.YtigifoeopopnbaaGreatDoorQk8
set_option linter.unusedSimpArgs false
set_option linter.unusedVariables false
namespace Go.Proofs.YtigifoeopopnbaaGreatDoor.Av
open Go
variable {L:List Blk} {K:aef}
set_option maxHeartbeats 8000000
set_option maxRecDepth 100000
theorem Sm {L:List Blk} {i:Nat} {a b:Blk}:((L.set i .dead)++[a]).set L.length b=L.set i .dead++[b]:=by
 rw [ae5 _ _ (by simp)];simp
theorem acQ {u:List (List UInt8)} {k:Nat} {x:List UInt8} {i:Nat} {rest:List AV} {cap:Option Nat} (hn:u.length<=1100000) (hk:k<=u.length) (hL:L[i]?=some (.cells (u.map AV.str++rest)))
  (h:K (.lsl L.length 0 (u.length+1) none 1) (L.set i .dead++[.cells ((u.take k++x::u.drop k).map AV.str)])) :
  aee 107 [.lsl i 0 u.length none 1,.int .i64 k,.sl [.str x] 1 cap] L K:=by
 refine Pw (acP hn hk (by simp) (NB u) hL fun rest'=>?_);refine ⟨L.length,(u.take k++x::u.drop k).map AV.str,rest',?_,?_⟩
 ·rw [aes (by simp)];simp
 ·rw [Sm];exact h
abbrev PAt:=Nat×Atr
abbrev pC (q:PAt):List AV:=[.str q.2.1,.lsl q.1 0 q.2.2.length none 1]
def psC (ps:List PAt):List AV:=ps.flatMap pC
theorem fq (ps:List PAt):(psC ps).length=ps.length * 2:=by
 induction ps with
 | nil=>rfl
 | cons a l ih=>simp only [psC,ae4,aeF,pC,aet,afk] at ih ⊢;omega
theorem Tl (l m:List PAt):psC (l++m)=psC l++psC m:=by simp [psC]
theorem gi (q:PAt) (m:List PAt):psC (q::m)=.str q.2.1 :: .lsl q.1 0 q.2.2.length none 1::psC m:=rfl
theorem QH:∀ (ps:List PAt) (k:Nat),(psC ps).take (k * 2)=psC (ps.take k)
 | [],k=>by simp [psC]
 | a::l,0=>by simp [psC]
 | a::l,k+1=>by rw [show (k+1) * 2=k * 2+1+1 by omega,gi];simp only [afx,gi,QH l k]
theorem Nt:∀ (ps:List PAt) (k:Nat),(psC ps).drop (k * 2)=psC (ps.drop k)
 | [],k=>by simp [psC]
 | a::l,0=>by simp [psC]
 | a::l,k+1=>by rw [show (k+1) * 2=k * 2+1+1 by omega,gi];simp only [agp,Nt l k]
theorem WS (ps:List PAt):(psC ps).all AV.one=true:=by
 induction ps with
 | nil=>rfl
 | cons a l ih=>rw [gi];simpa [AV.one] using ih
abbrev noP:PAt:=(0,[],[])
theorem Zm {ps:List PAt} {k:Nat} (hk:k<ps.length):((psC ps).drop (k * 2)).take 2=pC (ps.getD k noP):=by
 rw [Nt,aeH hk,gi];simp [hk]
theorem WT {ps:List PAt} {k:Nat} (hk:k<ps.length) (rest:List AV):(psC ps++rest).getD (k * 2+1) .undef=.lsl (ps.getD k noP).1 0 (ps.getD k noP).2.2.length none 1:=by
 have h:=Zm hk;have h2:=congrArg (fun l=>l[1]?) h;simp only [ae1 (show 1<2 by omega),aeZ] at h2;rw [aew,aem (by rw [fq];omega),h2];rfl
theorem Tj:∀ (ps:List PAt) (k:Nat) (j:Nat) (u:List (List UInt8)),k<ps.length->(psC ps).set (k * 2+1) (.lsl j 0 u.length none 1)=psC (ps.set k (j,(ps.getD k noP).2.1,u))
 | a::l,0,j,u,_=>rfl
 | a::l,k+1,j,u,h=>by
   rw [show (k+1) * 2+1=k * 2+1+1+1 by omega,gi];simp only [afX,afS,gi,Tj l k j u (by simpa using h)]
theorem Tk {ps:List PAt} {l:List Atr} (h:ps.map (·.2)=l):adB l (psC ps):=by
 subst h;refine ⟨by rw [fq];simp,fun h hh=>?_⟩;have hh':h<ps.length:=by simpa using hh
 refine ⟨.lsl (ps.getD h noP).1 0 (ps.getD h noP).2.2.length none 1,.inr ⟨_,_,_,_,_,rfl⟩,?_⟩;rw [Zm hh'];simp [hh',pC]
theorem acS {ps:List PAt} {k:Nat} {y:List UInt8} {q:Nat} {vs:List (List UInt8)} {i:Nat} {rest:List AV} {cap:Option Nat} (hq:q<L.length) (hn:ps.length<=1100000) (hk:k<=ps.length) (hL:L[i]?=some (.cells (psC ps++rest)))
  (h:K (.lsl L.length 0 (ps.length+1) none 2) (L.set i .dead++[.cells (psC (ps.take k++(q,y,vs)::ps.drop k))])) :
  aee 108 [.lsl i 0 ps.length none 2,.int .i64 k,.sl [.str y,.lsl q 0 vs.length none 1] 1 cap] L K:=by
 refine Pw (acR hq hn hk (fq ps) (WS ps) hL fun rest'=>?_);have e:(psC ps).take (k * 2) ++ .str y :: .lsl q 0 vs.length none 1::(psC ps).drop (k * 2)=psC (ps.take k++(q,y,vs)::ps.drop k):=by
  rw [QH,Nt,Tl,gi]
 refine ⟨L.length,psC (ps.take k++(q,y,vs)::ps.drop k),rest',?_,?_⟩
 ·rw [aes (by simp),<- e];simp
 ·rw [Sm];exact h
def gr (L:List Blk) (b p:Nat) (s1 s2:AV) (ps:List PAt):Prop :=
 b<=p/\(ps.map (·.1)).Nodup/\(∀ q∈ps,b<=q.1/\q.1≠p/\∃ rest,L[q.1]?=some (.cells (q.2.2.map AV.str++rest))) /\
 ((L[p]?=some (.cells [s1,s2,.sl [] 0 (some 0)])/\ps=[])\/∃ r rest,L[p]?=some (.cells [s1,s2,.lsl r 0 ps.length none 2])/\L[r]?=some (.cells (psC ps++rest))/\b<=r/\r≠p/\∀ q∈ps,q.1≠r)
theorem gr.row {L:List Blk} {b p:Nat} {s1 s2:AV} {ps:List PAt} (h:gr L b p s1 s2 ps):∃ row,L[p]?=some (.cells [s1,s2,row])/\Vs L (psC ps) ps.length 2 row/\(row=.sl [] 0 (some 0)/\ps=[]\/∃ r rest,row=.lsl r 0 ps.length none 2/\L[r]?=some (.cells (psC ps++rest))/\b<=r/\r≠p/\∀ q∈ps,q.1≠r):=by
 obtain ⟨_,_,_,h4⟩:=h;rcases h4 with ⟨h1,rfl⟩|⟨r,rest,h1,h2,h3⟩
 ·exact ⟨_,h1,.inl ⟨some 0,rfl⟩,.inl ⟨rfl,rfl⟩⟩
 ·exact ⟨_,h1,.inr ⟨r,none,rest,rfl,h2⟩,.inr ⟨r,rest,rfl,h2,h3⟩⟩
def Kpt (b:Nat) (L L':List Blk):Prop:=b<=L'.length/\∀ k,k<b->L'[k]?=L[k]?
theorem Kpt.trans {b:Nat} {L L1 L2:List Blk} (h:Kpt b L L1) (k:Kpt b L1 L2):Kpt b L L2:=⟨k.1,fun i hi=>(k.2 i hi).trans (h.2 i hi)⟩
theorem Kpt.app {b:Nat} {L:List Blk} (h:b<=L.length) (X:List Blk):Kpt b L (L++X):=⟨by simp;omega,fun k hk=>by rw [aem (by omega)]⟩
theorem Kpt.eq {b:Nat} {L L':List Blk} (h:Kpt b L L') (hb:b=L.length):∃ X,L'=L++X:=by
 refine ⟨L'.drop L.length,?_⟩;apply agb;intro i;rw [afg];split
 ·rename_i hi;rw [h.2 i (by omega)]
 ·rw [aeZ];congr 1;omega
theorem N4 {P:Program} {f:FuncId} {xs:List Opd} {T:Tm} {L:List Blk} {args:List AV} {k:AV->List Blk->Prop} (v:AV) (L2:List Blk) (h:ae P f args L fun av L'=>av=v/\L'=L2) (hx:gw T xs=some args) (hk:k v L2) :
 ∃ v L2,EQv P ⟨none,.call f xs,none⟩ T L v L2/\k v L2:=⟨v,L2,by simp only [EQv,hx];exact h,hk⟩
theorem LN {l:List Atr} {n:List UInt8} (hr:fI bq l):bu l n=if lP bq l (aa n)=true then (l.getD (bQ bq l (aa n)) ([],[])).2 else []:=by
 rw [P0 n l hr,jv hr (d:=([],[]))];by_cases hc:bQ bq l (aa n)<l.length
 ·rw [aev hc];simp [hc]
 ·rw [afm (by omega)];simp [hc]
theorem abB {syn:Int} {u:List (List UInt8)} {v n:List UInt8} (hu:InV syn u) (hn:ci syn v=some n) (hf:inM syn u n=false) :
  InV syn (u.take (bQ (bP syn) u n)++v::u.drop (bQ (bP syn) u n))/\gy syn v false u=u.take (bQ (bP syn) u n)++v::u.drop (bQ (bP syn) u n):=by
 have hk:bP syn v=n:=by simp [bP,hn]
 have hin:inM syn u (bP syn v)=false:=by rw [hk];exact hf
 have hm:=NC syn v u hin;rw [hk] at hm;refine ⟨⟨?_,fun x hx=>?_⟩,hm⟩
 ·have:=tN (key:=bP syn) (v:=v) hu.1 (fun x hx e=>by
   simp only [inM,afe,decide_eq_true_eq] at hin;exact hin x hx e)
  rwa [hk] at this
 ·rcases uk.1 hx with rfl|hx
  ·rw [hn];rfl
  ·exact hu.2 x hx
theorem S6 {syn:Int} {single:Bool} {l:List (List UInt8)} {v:List UInt8} {vs:List (List UInt8)} (h:ci syn v=none):ek syn single l (v::vs)=([],21):=by rw [ek,h]
theorem S5 {syn:Int} {single:Bool} {l:List (List UInt8)} {v n:List UInt8} {vs:List (List UInt8)} (h:ci syn v=some n):ek syn single l (v::vs)=if inM syn l n=true then ([],20) else ek syn single (gy syn v false l) vs:=by rw [ek,h]
theorem Yb {l:List Atr} {n:List UInt8} (h:lP bq l (aa n)=false):fp n [] true l=l:=by
 rw [gV,agJ];intro a ha;simp only [lP,afe,decide_eq_true_eq] at h;simpa using h a ha
theorem gr.frame {L L':List Blk} {b p:Nat} {s1 s2:AV} {ps:List PAt} (h:gr L b p s1 s2 ps) (hf:∀ k,k<L.length->L'[k]?=L[k]?):gr L' b p s1 s2 ps:=by
 have up:∀ (i:Nat) (k:Blk),L[i]?=some k->L'[i]?=some k:=fun i k hk=>by rw [hf i (aeh.1 hk).1];exact hk
 obtain ⟨h1,h2,h3,h4⟩:=h;refine ⟨h1,h2,fun q hq=>?_,?_⟩
 ·obtain ⟨a,c,rest,d⟩:=h3 q hq;exact ⟨a,c,rest,up _ _ d⟩
 ·rcases h4 with ⟨a,c⟩|⟨r,rest,a,c,d⟩
  ·exact .inl ⟨up _ _ a,c⟩
  ·exact .inr ⟨r,rest,up _ _ a,up _ _ c,d⟩
theorem XQ {l:List Nat} {c x:Nat} (h:l.Nodup) (hx:∀ i:Nat,i≠c->l[i]?≠some x):(l.set c x).Nodup:=by
 rw [List.nodup_iff_pairwise_ne,ag8] at h ⊢;intro i j hi hj hij;simp only [List.length_set] at hi hj;rw [List.getElem_set,List.getElem_set];split
 ·rename_i e1
  rw [if_neg (by omega)];intro e;exact hx j (by omega) (by rw [aev hj,e])
 ·split
  ·intro e;exact hx i (by omega) (by rw [aev hi,<- e])
  ·exact h i j hi hj hij
theorem Pl {α:Type} {l:List α} {c:Nat} {x q:α} (h:q∈l.set c x):q=x\/∃ i,i≠c/\l[i]?=some q:=by
 obtain ⟨i,hi⟩:=af1.1 h;rw [aeD] at hi;split at hi
 ·split at hi
  ·cases hi;exact .inl rfl
  ·cases hi
 ·rename_i e
  exact .inr ⟨i,fun e'=>e e'.symm,hi⟩
theorem Tw {ps:List PAt} (h:(ps.map (·.1)).Nodup) {i c:Nat} {q a:PAt} (hi:ps[i]?=some q) (hc:ps[c]?=some a) (hne:i≠c):q.1≠a.1:=fun e=>by
 obtain ⟨h1,rfl⟩:=aeh.1 hi;obtain ⟨h2,rfl⟩:=aeh.1 hc;rw [List.nodup_iff_pairwise_ne,ag8] at h;rcases Nat.lt_or_gt_of_ne hne with h3|h3
 ·exact h i c (by simpa using h1) (by simpa using h2) h3 (by simpa using e)
 ·exact h c i (by simpa using h2) (by simpa using h1) h3 (by simpa using e.symm)
theorem WM {l:List Atr} {n:List UInt8} {vs:List (List UInt8)} (hr:fI bq l) (h:lP bq l (aa n)=false):fp n vs false l=l.take (bQ bq l (aa n))++(n,vs)::l.drop (bQ bq l (aa n)):=by
 rw [P3 n vs l hr];rw [jv hr (d:=([],[]))] at h;by_cases hc:bQ bq l (aa n)<l.length
 ·rw [decide_eq_true hc,ae7,decide_eq_false_iff_not] at h;rw [aev hc];simp only;rw [if_neg];simpa [hc] using h
 ·have:=Ik bq l (aa n);have e:bQ bq l (aa n)=l.length:=by omega
  rw [e,afm (by omega),aeE,aeC]
theorem VG {l:List Atr} {n:List UInt8} {vs:List (List UInt8)} (hr:fI bq l) (h:lP bq l (aa n)=true):fp n vs false l=l.set (bQ bq l (aa n)) (n,vs):=by
 rw [P3 n vs l hr];rw [jv hr (d:=([],[])),aek,decide_eq_true_eq,decide_eq_true_eq] at h;obtain ⟨hc,h⟩:=h;rw [aev hc];simp only;rw [if_pos];simpa [hc] using h
theorem gr.vals {L L' L2:List Blk} {b p:Nat} {s1 s2:AV} {ps:List PAt} {c j:Nat} {u:List (List UInt8)} {rest:List AV} (h:gr L b p s1 s2 ps) (hc:c<ps.length) {l0 jat:Nat} (hl0:L.length<=l0) (hjat:jat=(ps.getD c noP).1) (hfr:∀ k,k<l0->k≠jat->L'[k]?=L[k]?\/L.length<=k)
  (hj:j=jat\/l0<=j) (hLj:L'[j]?=some (.cells (u.map AV.str++rest))) {r:Nat} {rest2:List AV} (hLp:L[p]?=some (.cells [s1,s2,.lsl r 0 ps.length none 2])) (hLr:L[r]?=some (.cells (psC ps++rest2))) (hbr:b<=r) (hrp:r≠p) (hqr:∀ q∈ps,q.1≠r)
  (h2:L2=L'.set r (.cells (psC (ps.set c (j,(ps.getD c noP).2.1,u))++rest2))):gr L2 b p s1 s2 (ps.set c (j,(ps.getD c noP).2.1,u)):=by
 obtain ⟨g1,g2,g3,g4⟩:=h;have hcg:ps[c]?=some (ps.getD c noP):=by simp [hc]
 have hm:ps.getD c noP∈ps:=aeQ hcg;have lt:∀ (i:Nat) (k:Blk),L[i]?=some k->i<L.length:=fun i k hk=>(aeh.1 hk).1
 obtain ⟨m1,m2,mr,m3⟩:=g3 _ hm;rw [<- hjat] at m1 m2 m3;have hjl:=lt _ _ m3;have hrl:=lt _ _ hLr;have hpl:=lt _ _ hLp;have keep:∀ k,k<L.length->k≠jat->k≠r->L2[k]?=L[k]?:=fun k hk hkj hkr=>by
  rw [h2,aeA (Ne.symm hkr)];rcases hfr k (by omega) hkj with e|e
  ·exact e
  ·omega
 have hrj:r≠jat:=by rw [hjat];exact (hqr _ hm).symm
 have hjr:j≠r:=by rcases hj with e|e<;>omega
 have hrl':r<L'.length:=by
  rcases hfr r (by omega) hrj with e|e
  ·rw [hLr] at e;exact (aeh.1 e).1
  ·omega
 refine ⟨g1,?_,fun q hq=>?_,.inr ⟨r,rest2,?_,?_,hbr,hrp,fun q hq=>?_⟩⟩
 ·rw [List.map_set];refine XQ g2 fun i hi e=>?_
  rw [afr,aeI] at e;obtain ⟨q,e1,e2⟩:=e;have:=Tw g2 e1 hcg hi;rw [<- hjat] at this;obtain ⟨_,_,_,q3⟩:=g3 q (aeQ e1);have:=lt _ _ q3;omega
 ·rcases Pl hq with rfl|⟨i,hi,e⟩
  ·refine ⟨by simp only;omega,?_,rest,?_⟩
   ·simp only;rcases hj with e|e
    ·rw [e];exact m2
    ·omega
   ·simp only;rw [h2,aeA (Ne.symm hjr)];exact hLj
  ·obtain ⟨q1,q2,qr,q3⟩:=g3 q (aeQ e);have hne:=Tw g2 e hcg hi;rw [<- hjat] at hne;refine ⟨q1,q2,qr,?_⟩;rw [keep _ (lt _ _ q3) hne (hqr q (aeQ e))];exact q3
 ·rw [keep p hpl (fun e=>m2 e.symm) (Ne.symm hrp),List.length_set];exact hLp
 ·rw [h2];simp [hrl']
 ·rcases Pl hq with rfl|⟨i,hi,e⟩
  ·exact hjr
  ·exact hqr q (aeQ e)
theorem gr.more {L L2:List Blk} {b p c j r:Nat} {s1 s2:AV} {ps:List PAt} {n:List UInt8} {u:List (List UInt8)} {rest:List AV} (h:gr L b p s1 s2 ps) (hc:c<=ps.length) (hkeep:∀ q∈ps,L2[q.1]?=L[q.1]?)
  (hjb:b<=j) (hjp:j≠p) (hjq:∀ q∈ps,q.1≠j) (hLj:L2[j]?=some (.cells (u.map AV.str++rest))) (hLp:L2[p]?=some (.cells [s1,s2,.lsl r 0 (ps.length+1) none 2])) (hLr:L2[r]?=some (.cells (psC (ps.take c++(j,n,u)::ps.drop c)))) (hbr:b<=r) (hrp:r≠p) (hrj:j≠r) (hqr:∀ q∈ps,q.1≠r) :
  gr L2 b p s1 s2 (ps.take c++(j,n,u)::ps.drop c):=by
 obtain ⟨g1,g2,g3,g4⟩:=h;have hperm:(ps.take c++(j,n,u)::ps.drop c).Perm ((j,n,u)::ps):=QG ps c _;refine ⟨g1,?_,fun q hq=>?_,.inr ⟨r,[],?_,by rw [aeJ];exact hLr,hbr,hrp,fun q hq=>?_⟩⟩
 ·refine ((hperm.map (·.1)).nodup_iff).2 ?_;simp only [aeG,af3];refine ⟨fun hm=>?_,g2⟩;obtain ⟨q,hq,e⟩:=aey.1 hm;exact hjq q hq e
 ·rcases uk.1 hq with rfl|hq
  ·exact ⟨hjb,hjp,rest,hLj⟩
  ·obtain ⟨q1,q2,qr,q3⟩:=g3 q hq;exact ⟨q1,q2,qr,by rw [hkeep q hq];exact q3⟩
 ·have:(ps.take c++(j,n,u)::ps.drop c).length=ps.length+1:=by simpa using hperm.length_eq
  rw [this];exact hLp
 ·rcases uk.1 hq with rfl|hq
  ·exact hrj
  ·exact hqr q hq
theorem Wo {ty:Typ} {vs:List (List UInt8)} {capV:Option Nat} {b p:Nat} {s1 s2:AV} {ps:List PAt} {L:List Blk} (hb:b<=L.length) (hH:gr L b p s1 s2 ps) (hl:ps.length+1<=1100000)
  (hz:∀ q∈ps,am q.2.1/\q.2.2.length+vs.length<=1100000/\q.2.2≠[]) (hvs:vs.length<=1100000) (hty:am ty.1) (hr:fI bq (ps.map (·.2))) (hin:∀ q∈ps,aa q.2.1=aa ty.1->q.2.1=ty.1/\InV ty.2.1 q.2.2)
  {R:List (List UInt8)×Int} (hR:ek ty.2.1 ty.2.2.1 (bu (ps.map (·.2)) ty.1) vs=R) {K:aef}
  (h:∀ (code:Int) (L':List Blk),Kpt b L L'->code=R.2->(code=0->∃ ps',gr L' b p s1 s2 ps'/\ps'.map (·.2)=fp ty.1 R.1 R.1.isEmpty (ps.map (·.2)))->K (.int .i64 code) L') :
  aee 88 [.ptr p 0,.agg (tyC ty),.sl (vs.map AV.str) vs.length capV] L K:=by
 obtain ⟨row,hp,hrow,hcase⟩:=hH.row;obtain ⟨c,hc⟩:=aea (bQ bq (ps.map (·.2)) (aa ty.1));obtain ⟨fd,hfd⟩:=aea (lP bq (ps.map (·.2)) (aa ty.1));have hpl:p<L.length:=(aeh.1 hp).1;have hL1:∀ (i:Nat) (k:Blk),L[i]?=some k->(L++[Blk.cells (tyC ty)])[i]?=some k:=fun i k hk=>by
  rw [aem (aeh.1 hk).1];exact hk
 have hpl1:=hL1 p _ hp;have hpc:∀ {K:aef},K (.tup [.int .i64 c,.bool fd]) (L++[Blk.cells (tyC ty)])->aee 45 [row,.str ty.1] (L++[Blk.cells (tyC ty)]) K:=fun {K} q=>by
  refine Nv (l:=ps.map (·.2)) (C:=psC ps) (by simp;omega) (Tk rfl) ?_ hr hty (fun a ha=>?_) (by rw [hc,hfd];exact q)
  ·rw [aeS];rcases hrow with ⟨cap,e⟩|⟨i,cp,rest,e,hi⟩
   ·exact .inl ⟨cap,e⟩
   ·exact .inr ⟨i,cp,rest,e,hL1 _ _ hi⟩
  ·obtain ⟨q,hq,rfl⟩:=aey.1 ha;exact (hz q hq).1
 replace hpc:=@hid _ @hpc;replace h:=hid h;replace hH:=hid hH;replace hz:=hid hz;replace hin:=hid hin;refine af HX (by simp [iF]) ?_;simp only [iF,aq];have kk1:=@hid _ @hpc.out;have hfc:fd=true->c<ps.length/\aa (ps.getD c noP).2.1=aa ty.1:=fun e=>by
  have h0:=jv (key:=bq) (k:=aa ty.1) hr (d:=([],[]));rw [hfd,hc,e] at h0;have h1:=(aek _ _).mp h0.symm;have h2:c<ps.length:=by simpa using h1.1
  refine ⟨h2,?_⟩;have h3:=of_decide_eq_true h1.2;simpa [h2] using h3
 obtain ⟨u0,hu0⟩:=aea (bu (ps.map (·.2)) ty.1);have hv0:u0=if fd=true then (ps.getD c noP).2.2 else []:=by
  rw [<- hu0,LN hr,hfd,hc];rcases fd with _|_
  ·rfl
  ·obtain ⟨h1,h2⟩:=hfc rfl;simp [h1]
 rw [hu0] at hR;obtain ⟨cur,hcur⟩:∃ v,v=if fd=true then AV.lsl (ps.getD c noP).1 0 (ps.getD c noP).2.2.length none 1 else .sl [] 0 (some 0):=⟨_,rfl⟩
 clear hu0;replace hv0:=hid hv0;replace hR:=hid hR;replace hcur:=hid hcur
 iterate 5 first
  | refine aY ?_
  | (first|refine aO (by kernel_rfl) ?_|refine aA (by kernel_rfl) ?_|refine aB ?_|refine bw ?_|refine a6 (fun _=>?_)|refine ax ?_|refine aR ?_)
    simp (config:={ maxSteps:=2000000 }) only [Kon,push_cast,reduceIte,Nat.reduceEqDiff,Nat.reduceAdd,Nat.reduceMul,Nat.reduceSub,Nat.reduceLT,Nat.reduceLeDiff,Int.reduceLT,Int.reduceLE,Int.reduceAdd,Int.reduceSub,Int.reduceNeg,Int.reduceToNat,Int.reduceEq,reduceCtorEq, *]
  | (first|refine aK (by kernel_rfl) ?_|refine aP ?_|refine aQ ?_|refine bd (aw ?_))
    simp only [push_cast,reduceIte,Nat.reduceEqDiff,Nat.reduceAdd,Nat.reduceMul,Nat.reduceSub,Nat.reduceLT,Nat.reduceLeDiff,Int.reduceLT,Int.reduceLE,Int.reduceAdd,Int.reduceSub,Int.reduceNeg,Int.reduceToNat,Int.reduceEq,reduceCtorEq, *]
  | exact a7
  | first|apply a8|apply aL|apply ba|apply aM|apply bc|apply aN
  | refine aE ?_
  | first|refine aC rfl ?_|refine aD rfl ?_|refine ap rfl ?_ ?_|refine aG rfl (fun _=>?_) (fun _=>?_)|refine aF rfl (fun _=>?_) (fun _=>?_)
  | ((first|refine ao (fun _=>?_) (fun _=>?_)|refine au (fun _=>?_) (fun _=>?_))<;>try simp (config:={ maxSteps:=2000000 }) only [Kon,push_cast,reduceIte,Nat.reduceEqDiff,Nat.reduceAdd,Nat.reduceMul,Nat.reduceSub,Nat.reduceLT,Nat.reduceLeDiff,Int.reduceLT,Int.reduceLE,Int.reduceAdd,Int.reduceSub,Int.reduceNeg,Int.reduceToNat,Int.reduceEq,reduceCtorEq, *])
  | refine And.intro trivial ?_
  | refine And.intro (by omega) ?_
  | refine aI rfl (fun _=>?_) (fun _=>?_)
  | refine And.intro ?_ ?_
 refine aS (kk1.out ⟨rfl,rfl⟩) ?_;refine sk ?_
 iterate 4 first
  | refine aY ?_
  | (first|refine aO (by kernel_rfl) ?_|refine aA (by kernel_rfl) ?_|refine aB ?_|refine bw ?_|refine a6 (fun _=>?_)|refine ax ?_|refine aR ?_)
    simp (config:={ maxSteps:=2000000 }) only [Kon,push_cast,reduceIte,Nat.reduceEqDiff,Nat.reduceAdd,Nat.reduceMul,Nat.reduceSub,Nat.reduceLT,Nat.reduceLeDiff,Int.reduceLT,Int.reduceLE,Int.reduceAdd,Int.reduceSub,Int.reduceNeg,Int.reduceToNat,Int.reduceEq,reduceCtorEq, *]
  | (first|refine aK (by kernel_rfl) ?_|refine aP ?_|refine aQ ?_|refine bd (aw ?_))
    simp only [push_cast,reduceIte,Nat.reduceEqDiff,Nat.reduceAdd,Nat.reduceMul,Nat.reduceSub,Nat.reduceLT,Nat.reduceLeDiff,Int.reduceLT,Int.reduceLE,Int.reduceAdd,Int.reduceSub,Int.reduceNeg,Int.reduceToNat,Int.reduceEq,reduceCtorEq, *]
  | exact a7
  | first|apply a8|apply aL|apply ba|apply aM|apply bc|apply aN
  | refine aE ?_
  | first|refine aC rfl ?_|refine aD rfl ?_|refine ap rfl ?_ ?_|refine aG rfl (fun _=>?_) (fun _=>?_)|refine aF rfl (fun _=>?_) (fun _=>?_)
  | ((first|refine ao (fun _=>?_) (fun _=>?_)|refine au (fun _=>?_) (fun _=>?_))<;>try simp (config:={ maxSteps:=2000000 }) only [Kon,push_cast,reduceIte,Nat.reduceEqDiff,Nat.reduceAdd,Nat.reduceMul,Nat.reduceSub,Nat.reduceLT,Nat.reduceLeDiff,Int.reduceLT,Int.reduceLE,Int.reduceAdd,Int.reduceSub,Int.reduceNeg,Int.reduceToNat,Int.reduceEq,reduceCtorEq, *])
  | refine And.intro trivial ?_
  | refine And.intro (by omega) ?_
  | refine aI rfl (fun _=>?_) (fun _=>?_)
  | refine And.intro ?_ ?_
 refine uW (fun T2 L2=>T2=[(9,cur),(8,.bool fd),(7,.int .i64 c),(4,.ptr L.length 0),(0,.ptr p 0),(2,.sl (vs.map AV.str) vs.length capV)]/\L2=L++[Blk.cells (tyC ty)]) ?_ ?_
 ·rcases fd with _|_
  ·have hcur:=hcur.out;rw [if_neg (by simp)] at hcur;subst hcur;clear hfc hcase hv0 hH hin hz;refine wk ?_;exact gT _ _ (CutL (b:=by simp)) ⟨rfl,rfl⟩
  ·obtain ⟨h1,h2⟩:=hfc rfl;have hcur:=hcur.out;rw [if_pos rfl] at hcur;rcases hcase with ⟨_,rfl⟩|⟨r,rest,rfl,hLr,_⟩
   ·simp at h1
   have hLr1:=hL1 r _ hLr;have e5:=WT h1 rest;rw [<- hcur] at e5;have e6:(c:Int)<(ps.length:Int):=by omega
   have e7:c * 2+1<(psC ps).length+rest.length:=by rw [fq];omega
   clear hfc hv0 hH hin hz h2 hcur hLr hL1 hpc kk1 hrow hp;refine wk ?_;exact gT _ _ (CutL (b:=by simp)) ⟨rfl,rfl⟩
 rintro _ _ ⟨rfl,rfl⟩ -;have hhold:=hH.out;obtain ⟨hbp,hnd,hps,hrw⟩:=hhold;obtain ⟨jat,hjat⟩:∃ j,j=if fd=true then (ps.getD c noP).1 else L.length+1:=⟨_,rfl⟩
 have hpj:p≠jat/\L.length≠jat/\b<=jat:=by
  rw [hjat];rcases fd with _|_
  ·simp;omega
  ·obtain ⟨h1,_⟩:=hfc rfl;have:=hps (ps.getD c noP) (by simp [h1]);rw [if_pos rfl];obtain ⟨q1,q2,rest,q3⟩:=this;have:=(aeh.1 q3).1;omega
 replace hjat:=hid hjat;replace hps:=hid hps;replace hrw:=hid hrw;replace hnd:=hid hnd;replace hfc:=hid hfc;replace hcase:=hid hcase;replace hrow:=hid hrow;obtain ⟨hpj1,hpj2,hpj3⟩:=hpj;refine wk ?_;refine ai (fun n T' L'=>∃ (i:Nat) (u:List (List UInt8)) (w:AV),n=vs.length - i/\i<=vs.length/\u.length<=u0.length+i/\Hid (ek ty.2.1 ty.2.2.1 u (vs.drop i)=R)/\Hid (InV ty.2.1 u)/\T'=[(36,.int .i64 (i:Int)),(35,.int .i64 vs.length),(34,.sl (vs.map AV.str) vs.length capV),(9,w),(8,.bool fd),(7,.int .i64 c),(4,.ptr L.length 0),(0,.ptr p 0),(2,.sl (vs.map AV.str) vs.length capV)] /\
  L.length+1<=L'.length/\(∀ k,k<L.length+1->k≠jat->L'[k]?=(L++[Blk.cells (tyC ty)])[k]?)/\((w=.sl [] 0 (some 0)/\u=[]/\fd=false)\/∃ j rest,w=.lsl j 0 u.length none 1/\L'[j]?=some (.cells (u.map AV.str++rest))/\(j=jat\/L.length+1<=j)/\u≠[]))
  (CutS (b:=by simp)) ⟨0,u0,cur,rfl,aej _,aeg _,hid (by simpa using hR.out),hid ?_,rfl,by simp,fun _ _ _=>rfl,?_⟩ ?_
 ·rw [hv0.out];rcases fd with _|_
  ·exact ⟨List.Pairwise.nil,fun v hv=>by cases hv⟩
  ·obtain ⟨h1,h2⟩:=hfc.out rfl;exact (hin.out (ps.getD c noP) (by simp [h1]) h2).2
 ·have hv:=hv0.out;have hcu:=hcur.out;have hja:=hjat.out;rcases fd with _|_
  ·exact .inl ⟨by simpa using hcu,by simpa using hv,rfl⟩
  ·obtain ⟨h1,h2⟩:=hfc.out rfl;rw [if_pos rfl] at hv hcu hja;have hm:ps.getD c noP∈ps:=by simp [h1]
   obtain ⟨_,_,rest,q3⟩:=hps.out _ hm;exact .inr ⟨jat,rest,by rw [hcu,hja,hv],by rw [hja,hv];exact hL1 _ _ q3,.inl rfl,by rw [hv];exact (hz.out _ hm).2.2⟩
 rintro _ _ L' ⟨i,u,w,rfl,hi,hul,hI,hu,rfl,hlen,hfr,hw⟩;replace hfr:=hid hfr;have hty4:L'[L.length]?=some (.cells (tyC ty)):=by
  rw [hfr.out _ (by omega) hpj2];simp
 have hu0l:u0.length+vs.length<=1100000:=by
  rw [hv0.out];rcases fd with _|_
  ·simp;omega
  ·obtain ⟨h1,_⟩:=hfc.out rfl;have:=(hz.out (ps.getD c noP) (by simp [h1])).2.1;simpa using this
 have hkp:Kpt b L L':=⟨by omega,fun k hk=>by rw [hfr.out k (by omega) (by omega),aem (by omega)]⟩;replace hkp:=hid hkp;simp only [tyC] at hty4;by_cases hlt:i<vs.length
 ·have g1:(i:Int)<(vs.length:Int):=by omega
  have g2:=aec i (by omega);obtain ⟨v,hv⟩:=aea (vs.getD i []);have g3:(vs.map AV.str).getD i .undef=.str v:=by rw [<- hv];simp [hlt]
  have hdr:vs.drop i=v::vs.drop (i+1):=by rw [aeH hlt,<- hv];simp [hlt]
  have hI2:=hI.out;rw [hdr] at hI2;have hu1:u.length<=1100000:=by omega
  have hrow':Vs L' (u.map AV.str) u.length 1 w:=by
   rcases hw with ⟨rfl,rfl,_⟩|⟨j,rest,rfl,h1,_⟩
   ·exact .inl ⟨_,rfl⟩
   ·exact .inr ⟨j,none,rest,rfl,h1⟩
  have hval:∀ {K:aef},K (Ud ty.2.1 u v) L'->aee 53 [.agg [.str ty.1,.int .i64 ty.2.1,.bool ty.2.2.1,.bool ty.2.2.2],w,.str v] L' K:=fun q=>Q8 hu1 hrow' hu.out.1 q
  replace hval:=@hid _ @hval;replace hw:=hid hw;replace hrow':=hid hrow';clear hv hdr hI hfc hjat hps hrw hnd hH hz hin hv0 hcur hcase hpc kk1 hR;refine wk ?_;refine hval.out ?_;unfold Ud;rcases hn:ci ty.2.1 v with _|n
  ·rw [S6 hn] at hI2;have hf:=h.out 21 L' hkp.out (by rw [<- hI2]) (fun e=>by cases e);replace hf:=hid hf;simp only;clear hI2 hn hw;refine sk ?_;refine wk ?_;exact ac hf.out
  rw [S5 hn] at hI2;simp only;rcases hfn:lP (bP ty.2.1) u n with _|_
  rotate_left
  ·rw [if_pos (show inM ty.2.1 u n=true from hfn)] at hI2;have hf:=h.out 20 L' hkp.out (by rw [<- hI2]) (fun e=>by cases e);replace hf:=hid hf;clear hI2 hn hw hfn;refine sk ?_;refine wk ?_;exact ac hf.out
  have hfn':inM ty.2.1 u n=false:=hfn;rw [if_neg (by rw [hfn'];simp)] at hI2;obtain ⟨hu',hmo⟩:=abB hu.out hn hfn';rw [hmo] at hI2;have hck:=Ik (bP ty.2.1) u n;obtain ⟨k,hk⟩:=aea (bQ (bP ty.2.1) u n);rw [hk] at hI2 hu' hck ⊢;replace hI2:=hid hI2;replace hu':=hid hu';clear hfn' hfn hn hmo hk;rcases hw.out with ⟨rfl,rfl,hfd0⟩|⟨j,rest,rfl,hLj,hj,hune⟩
  ·obtain rfl:k=0:=by simpa using hck
   replace hfd0:=hid hfd0;refine sk ?_;have kk1:=@hid _ @abD;refine wk ?_;refine ag _ _ _ (by omega) (CutL (b:=by simp;omega)) ⟨i+1,[v],.lsl L'.length 0 1 none 1,rfl,hlt,by simp;omega,hI2,hu',rfl,by simp;omega,fun k hk hkj=>?_,.inr ⟨L'.length,[],rfl,by simp,.inr hlen,by simp⟩⟩;rw [aem (by omega)];exact hfr.out k hk hkj
  ·have hjl:j<L'.length:=(aeh.1 hLj).1;have kk1:Hid (∀ {K:aef},K (.lsl L'.length 0 (u.length+1) none 1) (L'.set j .dead++[.cells ((u.take k++v::u.drop k).map AV.str)])->aee 107 [.lsl j 0 u.length none 1,.int .i64 (k:Nat),.sl [.str v] 1 (some 1)] L' K):=hid fun q=>acQ hu1 hck hLj q
   obtain ⟨u',hu'e⟩:=aea (u.take k++v::u.drop k);have hu'l:u.length+1=u'.length:=by rw [<- hu'e];simp;omega
   rw [hu'e] at kk1 hI2 hu';rw [hu'l] at kk1;clear hu'e;refine sk ?_;refine wk ?_;refine ag _ _ _ (by omega) (CutL (b:=by simp;omega)) ⟨i+1,u',.lsl L'.length 0 u'.length none 1,rfl,hlt,by omega,hI2,hu',rfl,by simp;omega,fun k hk hkj=>?_,.inr ⟨L'.length,[],rfl,?_,.inr hlen,fun e=>by rw [e] at hu'l;simp at hu'l⟩⟩
   ·rw [aem (by simp;omega),aeA (by omega)];exact hfr.out k hk hkj
   ·rw [aes (by simp)];simp
 ·have hke:i=vs.length:=by omega
  subst hke;have g1:¬ (vs.length:Int)<(vs.length:Int):=by omega
  have hI2:=hI.out;rw [aeC,ek] at hI2;rcases hw with ⟨rfl,rfl,rfl⟩|⟨j,rest,rfl,hLj,hj,hune⟩
  ·have hjj:jat=L.length+1:=by rw [hjat.out];simp
   rw [if_neg (by simp)] at hI2;have hf:=h.out 0 L' hkp.out (by rw [<- hI2]) (fun _=>⟨ps,hH.out.frame fun k hk=>by rw [hfr.out k (by omega) (by omega),aem hk],by rw [<- hI2];exact (Yb hfd).symm⟩);replace hf:=hid hf;clear hI hI2 hfc hjat hps hrw hnd hH hz hin hv0 hcur hcase hpc kk1 hR h;refine wk ?_;exact ac hf.out
  have g2:¬ (u.length:Int)=0:=by
   rcases u with _|⟨x,t⟩
   ·exact absurd rfl hune
   ·simp;omega
  by_cases hs:ty.2.2.1=true/\1<u.length
  ·rw [if_pos hs] at hI2;have hf:=h.out 19 L' hkp.out (by rw [<- hI2]) (fun e=>by cases e);replace hf:=hid hf;obtain ⟨hs1,hs2⟩:=hs;have g3:(1:Int)<(u.length:Int):=by omega
   clear hI hI2 hfc hjat hps hrw hnd hH hz hin hv0 hcur hcase hpc kk1 hR h hs2 g2 hune;refine wk ?_;exact ac hf.out
  rw [if_neg hs] at hI2;have g3:(ty.2.2.1 && decide ((1:Int)<(u.length:Int)))=false:=by
   rcases hsg:ty.2.2.1 with _|_
   ·rfl
   ·simp only [ae7,decide_eq_false_iff_not];intro e;exact hs ⟨hsg,by omega⟩
  replace hj:=hid hj;replace hune:=hid hune;replace hu:=hid hu;rcases hfd':fd with _|_
  ·subst hfd';have hjj:jat=L.length+1:=by rw [hjat.out];simp
   have hfrL:∀ k,k<L.length->L'[k]?=L[k]?:=fun k hk=>by rw [hfr.out k (by omega) (by omega),aem hk]
   have hjL:L.length+1<=j:=by
    rcases hj.out with e|e
    ·omega
    ·exact e
   rcases hrw.out with ⟨hLp,e⟩|⟨r,rest2,hLp,hLr,hbr,hrp,hqr⟩
   ·subst e;have hc0:c=0:=by rw [<- hc];rfl
    subst hc0;have hLp':L'[p]?=some (.cells [s1,s2,.sl [] 0 (some 0)]):=by rw [hfrL p (by omega)];exact hLp
    replace hLp:=hid hLp;replace hpl1:=hid hpl1;replace hp:=hid hp;replace hfrL:=hid hfrL;clear hfc kk1 hpc hcase hrow hcur;have hpl':p<L'.length:=by omega
    have hjl':j<L'.length:=(aeh.1 hLj).1;have ep:∀ X:List Blk,(L'++X)[p]?=some (.cells [s1,s2,.sl [] 0 (some 0)]):=fun X=>by rw [aem hpl'];exact hLp'
    refine wk ?_;refine N4 (.lsl L'.length 0 1 none 2) (L'++[.cells [.str ty.1,.lsl j 0 u.length none 1]]) (abE hjl' ⟨rfl,rfl⟩) rfl ?_;refine sk ?_;refine wk ?_;have hf:=h.out 0 ((L'++[Blk.cells [.str ty.1,.lsl j 0 u.length none 1]]).set p (Blk.cells [s1,s2,.lsl L'.length 0 1 none 2])) (hkp.out.trans ⟨by simp;omega,fun k hk=>by rw [aeA (by omega),aem (by omega)]⟩) (by rw [<- hI2]) (fun _=>⟨[(j,ty.1,u)],?_,?_⟩)
    ·exact ac hf
    ·refine gr.more (c:=0) (rest:=rest) (r:=L'.length) (ps:=[]) hH.out (aeg _) (by simp) (by omega) (by omega) (by simp) ?_ ?_ ?_ (by omega) (by omega) (by omega) (by simp)
     ·rw [aeA (by omega),aem hjl'];exact hLj
     ·rw [agt (by simp;omega)];rfl
     ·rw [aeA (by omega),aes (aeg _),afn];rfl
    ·have hem:u.isEmpty=false:=by simpa using hune.out
     rw [<- hI2];simp only;rw [hem];rfl
   ·have hrl:r<L.length:=(aeh.1 hLr).1;have hpl':p<L'.length:=by omega
    have hjl':j<L'.length:=(aeh.1 hLj).1;have hck:c<=ps.length:=by rw [<- hc];simpa using Ik bq (ps.map (·.2)) (aa ty.1)
    have hLp':L'[p]?=some (.cells [s1,s2,.lsl r 0 ps.length none 2]):=by rw [hfrL p (by omega)];exact hLp
    have hLr':L'[r]?=some (.cells (psC ps++rest2)):=by rw [hfrL r (by omega)];exact hLr
    have ep:∀ (X:List Blk) (Y:Blk),(L'.set r Y++X)[p]?=some (.cells [s1,s2,.lsl r 0 ps.length none 2]):=fun X Y=>by rw [aem (by simpa using hpl'),aeA hrp];exact hLp'
    replace hLp:=hid hLp;replace hLr:=hid hLr;replace hpl1:=hid hpl1;replace hp:=hid hp;replace hqr:=hid hqr;replace hfrL:=hid hfrL;clear hfc kk1 hpc hcase hrow hcur;refine wk ?_;refine N4 (.lsl L'.length 0 (ps.length+1) none 2) (L'.set r .dead++[.cells (psC (ps.take c++(j,ty.1,u)::ps.drop c))]) (acS hjl' (by omega) hck hLr' ⟨rfl,rfl⟩) rfl ?_;refine sk ?_;refine wk ?_;have hf:=h.out 0 ((L'.set r .dead++[Blk.cells (psC (ps.take c++(j,ty.1,u)::ps.drop c))]).set p (Blk.cells [s1,s2,.lsl L'.length 0 (ps.length+1) none 2])) (hkp.out.trans ⟨by simp;omega,fun k hk=>by rw [aeA (by omega),aem (by simp;omega),aeA (by omega)]⟩) (by rw [<- hI2]) (fun _=>⟨ps.take c++(j,ty.1,u)::ps.drop c,?_,?_⟩)
    ·exact ac hf
    ·have lt:∀ q∈ps,q.1<L.length/\q.1≠p:=fun q hq=>by
      obtain ⟨_,h1,_,h2⟩:=hps.out q hq;exact ⟨(aeh.1 h2).1,h1⟩
     refine gr.more (rest:=rest) (r:=L'.length) hH.out hck (fun q hq=>?_) (by omega) (by omega) (fun q hq=>?_) ?_ ?_ ?_ (by omega) (by omega) (by omega) (fun q hq=>?_)
     ·rw [aeA (Ne.symm (lt q hq).2),aem (by have:=(lt q hq).1;simp;omega),aeA (Ne.symm (hqr.out q hq))];exact hfrL.out _ (lt q hq).1
     ·have:=(lt q hq).1;omega
     ·rw [aeA (by omega),aem (by simpa using hjl'),aeA (by omega)];exact hLj
     ·rw [agt (by simp;omega)]
     ·rw [aeA (by omega),aes (by simp)];simp
     ·have:=(lt q hq).1;omega
    ·have hem:u.isEmpty=false:=by simpa using hune.out
     rw [<- hI2];simp only;rw [hem,WM hr hfd,hc];simp
  ·subst hfd';obtain ⟨h1,h2⟩:=hfc.out rfl;have hjj:jat=(ps.getD c noP).1:=by rw [hjat.out];simp
   rcases hrw.out with ⟨_,e⟩|⟨r,rest2,hLp,hLr,hbr,hrp,hqr⟩
   ·rw [e] at h1;simp at h1
   have hm:ps.getD c noP∈ps:=by simp [h1]
   have hrj:r≠jat:=by rw [hjj];exact (hqr _ hm).symm
   have hrl:r<L.length:=(aeh.1 hLr).1;have hLp':L'[p]?=some (.cells [s1,s2,.lsl r 0 ps.length none 2]):=by rw [hfr.out p (by omega) hpj1];exact hL1 _ _ hLp
   have hLr':L'[r]?=some (.cells (psC ps++rest2)):=by rw [hfr.out r (by omega) hrj];exact hL1 _ _ hLr
   have e6:(c:Int)<(ps.length:Int):=by omega
   have e7:c * 2+1+1<=(psC ps).length+rest2.length:=by rw [fq];omega
   replace hLp:=hid hLp;replace hLr:=hid hLr;replace hqr:=hid hqr;replace hpl1:=hid hpl1;replace hp:=hid hp;replace h2:=hid h2;clear hfc kk1 hpc;refine wk ?_;have hnm:=(hin.out _ hm h2.out).1;have e8:(psC ps++rest2).take (c * 2+1)++AV.lsl j 0 u.length none 1::(psC ps++rest2).drop (c * 2+1+1)=psC (ps.set c (j,(ps.getD c noP).2.1,u))++rest2:=by
    rw [<- Tj _ _ _ _ h1,List.set_eq_take_append_cons_drop,if_pos (by rw [fq];omega),aeY (by rw [fq];omega),afA (by rw [fq];omega)];simp
   rw [e8];refine ac (h.out 0 _ (hkp.out.trans ⟨by simp;omega,fun k hk=>by rw [aeA (by omega)]⟩) (by rw [<- hI2]) fun _=>⟨_,hH.out.vals (l0:=L.length+1) h1 (by omega) hjj (fun k hk hkj=>?_) hj.out hLj hLp.out hLr.out hbr hrp hqr.out rfl,?_⟩)
   ·by_cases hkl:k<L.length
    ·exact .inl (by rw [hfr.out k hk hkj,aem hkl])
    ·exact .inr (by omega)
   ·have hem:u.isEmpty=false:=by simpa using hune.out
    rw [<- hI2,hnm,List.map_set];simp only;rw [hem,VG hr hfd,hc]
theorem Sl {i:Nat} {l:List AV}:∀ {c:List AV} {k:Nat} {a':AV},(AV.snapL i l c)[k]?=some a'->∃ a,c[k]?=some a/\a'=a.snap i l
 | [],_,_,h=>by simp [AV.snapL] at h
 | a::c,0,a',h=>by simp [AV.snapL] at h;exact ⟨a,rfl,h.symm⟩
 | a::c,k+1,a',h=>by simp [AV.snapL] at h;simpa using Sl h
theorem Sk {i:Nat} {l:List AV}:∀ c:List AV,(AV.snapL i l c).length=c.length
 | []=>rfl
 | a::c=>by simp [AV.snapL,Sk c]
theorem N8 {i:Nat} {l:List AV}:∀ c d:List AV,AV.snapL i l (c++d)=AV.snapL i l c++AV.snapL i l d
 | [],d=>rfl
 | a::c,d=>by simp [AV.snapL,N8 c d]
theorem YF {L0 L:List Blk} {r:AV} {Q:AV->List Blk->Prop} {i j:Nat} {l c:List AV} (hj:L[j]?=some (.cells l)) (hi:L[i]?=some (.cells c)) (hij:i≠j) (h:Fin L0 r ((L.set j .dead).set i (.cells (AV.snapL j l c))) Q):Fin L0 r L Q:=fun w0 S0 E0 E w v h0 hn hw hR hv=>by
 obtain ⟨cl,cs,ty,fr,h1,_⟩:=hR.blk j _ hj;obtain ⟨E',g1,g2,g3,g4⟩:=hR.snap hj h1;have hi':(L.set j .dead)[i]?=some (.cells c):=by rw [aeA (Ne.symm hij)];exact hi
 refine h w0 S0 E0 E' w v (h0.trans g1) hn hw (g2.reblkLe hi' (by rw [Sk];exact aeg _) fun k a' ha=>?_) (VR.mono g1 _ _ hv);obtain ⟨a,e1,rfl⟩:=Sl ha;exact ⟨a,e1,fun v hv=>VR.snap (by rw [g4];exact h1) g3 _ _ hv⟩
theorem Uw {i:Nat} {l:List AV}:∀ {ps:List PAt},(∀ q∈ps,q.1≠i)->AV.snapL i l (psC ps)=psC ps
 | [],_=>rfl
 | q::ps,h=>by rw [gi];simp only [AV.snapL,AV.snap];rw [if_neg (h q (by simp)),Uw fun x hx=>h x (by simp [hx])]
theorem Xh {L0:List Blk} {r:Nat} {x:AV} {Q:AV->List Blk->Prop} (hrb:L0.length<=r) (hx:∀ i l,x.snap i l=x):∀ {rs:List PAt} {ds:List Atr} {L:List Blk} {rest:List AV},Kpt L0.length L0 L->(rs.map (·.1)).Nodup->(∀ q∈rs,L0.length<=q.1/\q.1≠r/\∃ rest,L[q.1]?=some (.cells (q.2.2.map AV.str++rest))) ->
  L[r]?=some (.cells (bh ds++psC rs++rest))->(∀ X:List Blk,Fin L0 (.tup [.sl (bh (ds++rs.map (·.2))) (ds.length+rs.length) none,x]) (L0++X) Q)->Fin L0 (.tup [.lsl r 0 (ds.length+rs.length) none 2,x]) L Q
 | [],ds,L,rest,hk,_,_,hr,h=>by
   refine N2 hr ?_;have e:((bh ds++psC []++rest).drop 0).take ((ds.length+0) * 2)=bh ds:=by
    rw [afY,show psC []=[] from rfl,aeJ,afd,<- fZ,List.take_left'];rfl
   simp only [AV.snap,AV.snapL,if_true,afk,e,hx];have hk2:Kpt L0.length L0 (L.set r .dead):=⟨by simpa using hk.1,fun k hkk=>by rw [aeA (by omega)];exact hk.2 k hkk⟩;obtain ⟨X,hX⟩:=hk2.eq rfl;rw [hX];have:=h X;simpa only [afN,aeJ,afk] using this
 | q::rs,ds,L,rest,hk,hnd,hq,hr,h=>by
   obtain ⟨h1,h2,rest1,h3⟩:=hq q (by simp);simp only [aeG,af3] at hnd;have hno:∀ q'∈rs,q'.1≠q.1:=fun q' hq' e=>hnd.1 (aey.2 ⟨q',hq',e⟩)
   refine YF h3 hr (Ne.symm h2) ?_;have e:AV.snapL q.1 (q.2.2.map AV.str++rest1) (bh ds++psC (q::rs)++rest)=bh (ds++[q.2])++psC rs++AV.snapL q.1 (q.2.2.map AV.str++rest1) rest:=by
    rw [N8,N8,S4,gi];simp only [AV.snapL,AV.snap,if_true];rw [Uw hno,NZ,lX];simp only [afY,af9,show bh []=[] from rfl];rw [List.take_left' (by simp)];simp
   rw [e];have hrl:r<L.length:=(aeh.1 hr).1;have:=Xh (Q:=Q) (x:=x) hrb hx (rs:=rs) (ds:=ds++[q.2]) (L:=(L.set q.1 .dead).set r (.cells (bh (ds++[q.2])++psC rs++AV.snapL q.1 (q.2.2.map AV.str++rest1) rest))) (rest:=AV.snapL q.1 (q.2.2.map AV.str++rest1) rest)
    ⟨by simpa using hk.1,fun k hkk=>by rw [aeA (by omega),aeA (by omega)];exact hk.2 k hkk⟩ hnd.2 (fun q' hq'=>?_) (by simp [hrl]) (fun X=>?_)
   ·rw [show ds.length+(q::rs).length=(ds++[q.2]).length+rs.length by simp;omega];exact this
   ·obtain ⟨a1,a2,rest2,a3⟩:=hq q' (by simp [hq']);exact ⟨a1,a2,rest2,by rw [aeA (Ne.symm a2),aeA (Ne.symm (hno q' hq'))];exact a3⟩
   ·have:=h X;rw [show ds.length+(q::rs).length=(ds++[q.2]).length+rs.length by simp;omega] at this;simpa using this
theorem aaI {L0 L:List Blk} {b p:Nat} {s1 s2 row x:AV} {ps:List PAt} {Q:AV->List Blk->Prop} (hx:∀ i l,x.snap i l=x) (hxr:x.refs (fun i=>decide (i<L0.length))=true) (hb:L0.length<=b) (hH:gr L b p s1 s2 ps) (hk:Kpt L0.length L0 L) (hrow:L[p]?=some (.cells [s1,s2,row]))
  (hxf:x.frz=x) (h:Q (.tup [.sl (bh (ps.map (·.2))) ps.length none,x]) L0):Fin L0 (.tup [row,x]) L Q:=by
 obtain ⟨g1,g2,g3,g4⟩:=hH;rcases g4 with ⟨e,rfl⟩|⟨r,rest,e1,e2,e3,e4,e5⟩
 ·rw [hrow] at e;simp only [aei,Blk.cells.injEq,List.cons.injEq,true_and,and_true] at e;subst e;obtain ⟨X,rfl⟩:=hk.eq rfl;refine aZ (ab ?_ ?_)
  ·simp only [AV.frz,AV.frzL,hxf,AV.refs,AV.refsL,hxr];rfl
  ·simp only [AV.frz,AV.frzL,hxf];exact h
 ·rw [hrow] at e1;simp only [aei,Blk.cells.injEq,List.cons.injEq,true_and,and_true] at e1;subst e1;have:=Xh (L0:=L0) (x:=x) (Q:=Q) (r:=r) (by omega) hx (rs:=ps) (ds:=[]) (L:=L) (rest:=rest) hk g2 (fun q hq=>?_) (by simpa [bh] using e2) (fun X=>?_)
  ·simpa using this
  ·obtain ⟨a1,a2,rest',a3⟩:=g3 q hq;exact ⟨by omega,e5 q hq,rest',a3⟩
  ·refine ab ?_ (by simpa using h);simp only [AV.refs,AV.refsL,jz,hxr];rfl
def LI (ts:List Typ):Prop:=ts.length<=1100000/\(∀ ty∈ts,am ty.1)/\∀ ty∈ts,ef ts ty.1=some ty
theorem LY {n:List UInt8} {vs:List (List UInt8)} {a:Atr}:∀ {d:Bool} {l:List Atr},a∈fp n vs d l->a=(n,vs)\/a∈l
 | d,[],h=>by
   rw [fp] at h;split at h
   ·cases h
   ·simp at h;exact .inl h
 | d,x::t,h=>by
   rw [fp,aeo,aeo] at h;rcases h with (h|h)|h
   ·split at h
    ·simp at h;exact .inl h
    ·cases h
   ·split at h
    ·simp at h;exact .inr (by simp [h])
    ·cases h
   ·rcases LY h with e|e
    ·exact .inl e
    ·exact .inr (by simp [e])
theorem P4 {n:List UInt8} {vs:List (List UInt8)}:∀ {d:Bool} {l:List Atr},(fp n vs d l).length<=l.length+(if d=true then 0 else 1)
 | d,[]=>by rw [fp];split<;>simp
 | d,x::t=>by
   have ih:=@P4 n vs (d || !decide (aa x.1<aa n)) t;rw [fp];simp only [aeF,aet];have h1:(if aa n≠aa x.1 then [x] else []).length<=1:=by split<;>simp
   obtain ⟨z,hz⟩:=aea ((if aa n≠aa x.1 then [x] else []).length);rw [hz] at h1 ⊢;cases d with
   | true =>
     simp only [afB,false_and,if_false,afk,af5,if_true] at ih ⊢;omega
   | false =>
     by_cases hx:aa x.1<aa n
     ·simp only [hx,decide_true,af2,Bool.or_self,aez,if_false] at ih ⊢;simp;omega
     ·simp only [hx,decide_false,agj,ago,if_true] at ih ⊢;simp;omega
theorem HC {ts:List Typ} {l:List Atr} {a:Atr} {ty:Typ} (h:InA ts l) (ha:a∈l) (ht:ef ts ty.1=some ty) (e:aa a.1=aa ty.1):a.1=ty.1/\InV ty.2.1 a.2:=by
 obtain ⟨ty',h1,h2,h3,h4,h5⟩:=h.2 a ha;rw [ph e,ht] at h1;cases h1;exact ⟨h2.symm,h4⟩
theorem Ig {ts:List Typ} {l:List Atr} {a:Atr} (hts:LI ts) (h:InA ts l) (ha:a∈l):am a.1/\a.2≠[]:=by
 obtain ⟨ty',h1,h2,h3,_⟩:=h.2 a ha;exact ⟨by rw [<- h2];exact hts.2.1 _ (lS h1).1,h3⟩
theorem Ql {l:List Atr} {n:List UInt8} {m:Nat} (h:∀ a∈l,a.2.length<=m):(bu l n).length<=m:=by
 induction l with
 | nil=>simp [bu]
 | cons a l ih =>
   rw [bu];split
   ·exact h a (by simp)
   ·exact ih fun b hb=>h b (by simp [hb])
theorem Vk (l:List Atr):adB l (bh l):=by
 exact ⟨fZ l,fun h hh=>⟨iI (l.getD h ([],[])).2,.inl ⟨_,_,_,rfl⟩,iH hh⟩⟩
theorem ac9 {l:List Atr} {cap:Option Nat} {n:List UInt8} (hl:l.length<=1100000) (hr:fI bq l) (hz:∀ a∈l,am a.1/\a.2.length<=1100000) (hn:am n) (h:K (iI (bu l n)) L) :
  aee 22 [.sl (bh l) l.length cap,.str n] L K:=by
 obtain ⟨c,hc⟩:=aea (bQ bq l (aa n));obtain ⟨fd,hfd⟩:=aea (lP bq l (aa n));have hv:=LN (n:=n) hr;rw [hfd,hc] at hv;rw [hv] at h;have hpc:∀ {K:aef},K (.tup [.int .i64 c,.bool fd]) L->aee 45 [.sl (bh l) l.length cap,.str n] L K:=fun {K} q =>
  Nv hl (Vk l) (.inl ⟨cap,rfl⟩) hr hn (fun a ha=>(hz a ha).1) (by rw [hc,hfd];exact q)
 have kk1:=@hid _ @hpc;clear hpc;rcases fd with _|_
 ·rw [if_neg (by simp)] at h;replace h:=hid h;refine aed mQ ?_;exact aZ (ac h.out)
 ·rw [if_pos rfl] at h;have h0:=jv (key:=bq) (k:=aa n) hr (d:=([],[]));rw [hfd,hc] at h0;have h1:c<l.length:=by simpa using ((aek _ _).mp h0.symm).1
  have e5:=Vj h1;have hm:l.getD c ([],[])∈l:=by simp [h1]
  have hln:=(hz _ hm).2;obtain ⟨vs,hvs⟩:=aea ((l.getD c ([],[])).2);rw [hvs] at h e5 hln;have e6:(c:Int)<(l.length:Int):=by omega
  have e7:c * 2+1<(bh l).length:=by rw [fZ];omega
  replace h:=hid h;clear h0 hm hvs hv hfd hc;by_cases h2:vs.length=0
  ·obtain rfl:vs=[]:=by simpa using h2
   refine af mQ (by simp [gq]) ?_;simp only [gq,aq];have kk2:=@hid _ (fun L K=>Yq (cap:=none) (L:=L) (K:=K));refine wk ?_;exact aZ (ac h.out)
  ·refine af mQ (by simp [gq]) ?_;simp only [gq,aq];have kk2:=@hid _ (fun L K=>Rk (cap:=none) (L:=L) (K:=K) h2 hln);refine wk ?_;refine N2 (i:=L.length) (l:=vs.map AV.str) (by rw [aes (aeg _),afn];rfl) ?_;have e8:((vs.map AV.str).drop 0).take (vs.length * 1)=vs.map AV.str:=by
    rw [afY,af9,aeV (by simp)]
   simp only [AV.snap,if_true,e8];rw [ae5 _ _ (aeg _)];refine ab ?_ h.out;simp only [AV.refs,bV]
def HD (ts:List Typ) (l:List Atr) (n v:List UInt8):Bool:=match ef ts n with
 | none=>false
 | some ty=>match ci ty.2.1 v with
   | none=>false
   | some m=>inM ty.2.1 (bu l n) m
theorem aae {ts:List Typ} {capT:Option Nat} {c2:List AV} {n2:Nat} {cap2:Option Nat} {l:List Atr} {cap:Option Nat} {n v:List UInt8} (hts:LI ts) (hin:InA ts l) (hl:l.length<=1100000) (hz:∀ a∈l,a.2.length<=1100000) (hn:am n) (h:K (.bool (HD ts l n v)) L) :
  aee 28 [.agg [.sl (aW ts) ts.length capT,.sl c2 n2 cap2],.sl (bh l) l.length cap,.str n,.str v] L K:=by
 have hr:=hin.1;obtain ⟨c,hc⟩:=aea (bQ bq l (aa n));obtain ⟨fd,hfd⟩:=aea (lP bq l (aa n));have hv:=LN (n:=n) hr;rw [hfd,hc] at hv;unfold HD at h;rw [hv] at h;have hpc:∀ (X:List Blk) {K:aef},K (.tup [.int .i64 c,.bool fd]) (L++X)->aee 45 [.sl (bh l) l.length cap,.str n] (L++X) K:=fun X {K} q =>
  Nv hl (Vk l) (.inl ⟨cap,rfl⟩) hr hn (fun a ha=>(Ig hts hin ha).1) (by rw [hc,hfd];exact q)
 have hfind:∀ (X:List Blk) {K:aef},K (oH (ef ts n)) (L++X)->aee 51 [.agg [.sl (aW ts) ts.length capT,.sl c2 n2 cap2],.str n] (L++X) K:=fun X {K} q=>TF hts.1 hts.2.1 hn q
 replace hpc:=@hid _ @hpc;replace hfind:=@hid _ @hfind;refine aed Ry ?_;refine hfind.out _ ?_;unfold oH;rcases hty:ef ts n with _|ty
 ·rw [hty] at h;replace h:=hid h;simp only [afV,aga,tyC];clear hty hv hc hfd;refine sk ?_;refine wk ?_;refine hpc.out _ ?_;refine sk ?_;refine wk ?_;exact ab rfl h.out
 rw [hty] at h;simp only at h;simp only [aeP,age,tyC];rcases fd with _|_
 ·have h':K (.bool false) L:=by
   rcases hno:ci ty.2.1 v with _|m
   ·rw [hno] at h;exact h
   ·rw [hno] at h;simpa [inM] using h
  replace h':=hid h';clear hv h hc hfd;refine sk ?_;refine wk ?_;refine hpc.out _ ?_;refine sk ?_;refine wk ?_;exact ab rfl h'.out
 rw [if_pos rfl] at h;have h0:=jv (key:=bq) (k:=aa n) hr (d:=([],[]));rw [hfd,hc] at h0;have h1:c<l.length:=by simpa using ((aek _ _).mp h0.symm).1
 have h2:=of_decide_eq_true ((aek _ _).mp h0.symm).2;have e5:=Vj h1;have hm:l.getD c ([],[])∈l:=by simp [h1]
 have hln:=hz _ hm;have hiv:InV ty.2.1 (l.getD c ([],[])).2:=by
  have:=lS hty;exact (HC hin hm (hts.2.2 ty this.1) (h2.trans this.2.symm)).2
 obtain ⟨vs,hvs⟩:=aea ((l.getD c ([],[])).2);rw [hvs] at h e5 hln hiv;have e6:(c:Int)<(l.length:Int):=by omega
 have e7:c * 2+1<(bh l).length:=by rw [fZ];omega
 have hval:∀ (X:List Blk) {K:aef},K (Ud ty.2.1 vs v) (L++X)->aee 53 [.agg [.str ty.1,.int .i64 ty.2.1,.bool ty.2.2.1,.bool ty.2.2.2],iI vs,.str v] (L++X) K:=fun X {K} q=>Q8 hln (.inl ⟨none,rfl⟩) hiv.1 q
 replace hval:=@hid _ @hval;clear h0 hm hvs hv hfd hc h2 hty;unfold Ud at hval;rcases hno:ci ty.2.1 v with _|m
 ·rw [hno] at h hval;replace h:=hid h;refine sk ?_;refine wk ?_;refine hpc.out _ ?_;refine sk ?_;refine wk ?_;refine aS (hval.out _ ⟨rfl,rfl⟩) ?_;refine sk ?_;refine wk ?_;exact ab rfl h.out
 ·rw [hno] at h hval;replace h:=hid h;refine sk ?_;refine wk ?_;refine hpc.out _ ?_;refine sk ?_;refine wk ?_;refine aS (hval.out _ ⟨rfl,rfl⟩) ?_;refine sk ?_;refine wk ?_;exact ab rfl h.out
def Dt (l:List UInt8):Bool:=l.any fun c=>c != 32
def L8 (t:List UInt8) (k:Nat):List UInt8:=if Dt (t.drop k)=true then iw (t.take k) else uX (iw (t.take k))
theorem SO {t:List UInt8} {k:Nat} (h:k<t.length):t.drop k=t.getD k 0::t.drop (k+1):=by
 rw [aeH h,aew,aev h];rfl
theorem QZ (c:UInt8) (l:List UInt8):Dt (c::l)=(c != 32 || Dt l):=rfl
theorem Sf (b:List UInt8) (c:UInt8):uX (b++[c])=if c=32 then b else b++[c]:=by simp [uX]
theorem QT (t:List UInt8):∀ k,k<=t.length->iw (t.take k)≠[]->(Pr (iw (t.take k))=true↔t.getD (k - 1) 0=32)
 | 0,_,h=>by simp [iw] at h
 | k+1,hk,h=>by
   have ih:=QT t k (by omega);rw [um (show k<t.length by omega)] at h ⊢;rw [show k+1 - 1=k by omega];unfold ed at h ⊢;split
   ·rename_i e;exact ⟨fun _=>e.1,fun _=>e.2⟩
   ·simp [Pr]
theorem XG {t:List UInt8} {k:Nat} (h:k<t.length):L8 t (k+1) =
  if Dt (t.drop k)=false\/(t.getD k 0=32/\(L8 t k=[]\/t.getD (k - 1) 0=32)) then L8 t k else L8 t k++[t.getD k 0]:=by
 have hd:=SO h;have hl:=QT t k (by omega);unfold L8;rw [um h,hd,QZ];obtain ⟨c,hc⟩:=aea (t.getD k 0);obtain ⟨p,hp⟩:=aea (iw (t.take k));rw [hc];rw [hp] at hl ⊢;have he:p=[]->Pr p=true:=fun e=>by rw [e];rfl
 by_cases h32:c=32
 ·subst h32;by_cases hn:Dt (t.drop (k+1))=true
  ·simp only [hn,bne_self_eq_false,afQ,if_true,ed,true_and,afB,false_or];by_cases hp0:p=[]
   ·simp [hp0,Pr]
   ·simp [hp0,hl hp0]
  ·have hn':Dt (t.drop (k+1))=false:=by simpa using hn
   simp only [hn',bne_self_eq_false,afQ,aez,if_false,true_or,if_true];unfold ed;split
   ·rfl
   ·rename_i e
    rw [Sf,if_pos rfl];unfold uX;rw [if_neg];intro e2;exact e ⟨rfl,by simp [Pr,e2]⟩
 ·have hb:(c != 32)=true:=by simpa using h32
  simp only [hb,af5,if_true,h32,false_and,or_false,afB,if_false];have:ed p c=p++[c]:=by rw [ed,if_neg fun e=>h32 e.1]
  rw [this,Sf,if_neg h32];split<;>rfl
theorem XF (t:List UInt8):L8 t 0=[]:=by unfold L8;split<;>simp [iw,uX]
theorem Zd (t:List UInt8):L8 t t.length=uX (iw t):=by simp [L8,Dt]
theorem Zc (t:List UInt8) (k:Nat):(L8 t k).length<=k:=by
 have:=tO t k;unfold L8;split
 ·exact this
 ·unfold uX;split
  ·simp;omega
  ·exact this
theorem ui {s:List UInt8} (hs:(s.length:Int)<=100000) (h:K (.str (fG s)) L):aee 62 [.str s] L K:=by
 replace h:=hid h;refine af PR (by simp [uN]) ?_;simp only [uN,aq];obtain ⟨t,ht⟩:=aea (aa s);have htl:(t.length:Int)<=100000:=by rw [<- ht];simpa [aa] using hs
 have hfin:=hid (show L8 t t.length=fG s by rw [Zd,fG,ht]);have kk1:=@hid _ (fun L K=>jE hs (L:=L) (K:=K));refine wk ?_;refine cz (l:=[]) (n:=0) 4 1 rfl (aeX 1).symm ?_;refine ai (fun n T' L'=>∃ (k:Nat) (b:List UInt8) (v:List AV) (m:Nat),n=t.length - k/\k<=t.length/\b=L8 t k/\v=u8s b/\m=b.length/\T'=[(5,.int .i64 (k:Int)),(4,.gsl v m L.length 1),(3,.str t),(2,.str [])]/\L'=L++[.spare m 1]) (CutS (b:=by simp)) ⟨0,[],[],0,rfl,aej _,(XF t).symm,rfl,rfl,rfl,rfl⟩ ?_;rintro _ _ _ ⟨k,b,v,m,rfl,hk,hb,rfl,rfl,rfl,rfl⟩;replace hb:=hid hb;by_cases hlt:k<t.length
 ·have h1:(k:Int)<(t.length:Int):=by omega
  have h2:=aec k (by omega);refine wk ?_;have hbl:b.length<=k:=by rw [hb.out];exact Zc t k
  have hub:(u8s b).length=b.length:=by simp [u8s]
  have hsucc:=hid (XG hlt);refine ai (fun n T' L'=>∃ (j:Nat) (later:Bool),n=t.length - j/\j<=t.length/\(later=true->Dt (t.drop k)=true)/\(later=false->Dt (t.drop k)=Dt (t.drop j))/\T'=[(7,.int .i64 (j:Int)),(6,.bool later),(5,.int .i64 (k:Int)),(4,.gsl (u8s b) b.length L.length 1),(3,.str t),(2,.str [])]/\L'=L++[.spare b.length 1]) (CutS (b:=by simp)) ⟨k,false,rfl,by omega,(by simp),(by simp),rfl,rfl⟩ ?_;rintro _ _ _ ⟨j,later,rfl,hj,hla,hlb,rfl,rfl⟩;replace hla:=hid hla;replace hlb:=hid hlb;obtain ⟨c,hc⟩:=aea (t.getD k 0);rw [hc] at hsucc;have hc':((t[k]?.getD 0))=c:=by rw [<- hc,aew]
  cases later
  ·by_cases hjl:j<t.length
   ·have g1:(j:Int)<(t.length:Int):=by omega
    have g2:=aec j (by omega);have hd:=hid (SO hjl);obtain ⟨x,hx⟩:=aea (t.getD j 0);rw [hx] at hd;refine wk ?_;have hx32:(x != 32) = !decide ((x.toNat:Int)=32):=by
     have:(x.toNat:Int)=32↔x=32:=⟨fun h=>afZ.1 (by have:(32:UInt8).toNat=32:=rfl;omega),fun h=>by rw [h];rfl⟩;by_cases h:x=32<;>simp [h,this]
    have hnb:=hlb.out rfl;rw [hd.out,QZ,hx32] at hnb;refine ag _ _ _ (by omega) (CutL (b:=by simp)) ⟨j+1, !decide ((x.toNat:Int)=32),rfl,hjl,fun e=>by rw [hnb,e];rfl,fun e=>by rw [hnb,e];rfl,rfl,rfl⟩
   ·have g1:¬ (j:Int)<(t.length:Int):=by omega
    have hn:Dt (t.drop k)=false:=by rw [hlb.out rfl,afE (by omega)];rfl
    replace hsucc:=hid (show L8 t (k+1)=b by rw [hsucc.out,if_pos (.inl hn),hb.out]);refine wk ?_;exact ag _ _ _ (by omega) (CutL (b:=by simp)) ⟨k+1,b,_,b.length,rfl,hlt,hsucc.out.symm,rfl,rfl,rfl,rfl⟩
  ·have hn:Dt (t.drop k)=true:=hla.out rfl;have hs2:=hsucc.out;rw [hn] at hs2;simp only [afB,false_or,<- hb.out] at hs2;replace hs2:=hid hs2;have g6:b.length≠0->(1:Int)<=(k:Int):=fun h=>by omega
   replace g6:=hid g6;have g7:=hid fun h:1<=k=>show IntKind.i64.wrap ((k:Int) - 1)=(k:Int) - 1 from ad (by omega) (by omega)
   have u32:∀ x:UInt8,(x.toNat:Int)=32↔x=32:=fun x=>⟨fun h=>afZ.1 (by have:(32:UInt8).toNat=32:=rfl;omega),fun h=>by rw [h];rfl⟩
   replace u32:=hid u32
   repeat' first
    | refine aY ?_
    | (first|refine aO (by kernel_rfl) ?_|refine aA (by kernel_rfl) ?_|refine aB ?_|refine bw ?_|refine a6 (fun _=>?_)|refine ax ?_|refine aR ?_)
      refine sm ?_
    | (first|refine aK (by kernel_rfl) ?_|refine aP ?_|refine aQ ?_|refine bd (aw ?_))
      refine sl ?_
    | exact a7
    | first|apply a8|apply aL|apply ba|apply aM|apply bc|apply aN
    | refine aE ?_
    | first|refine aC rfl ?_|refine aD rfl ?_|refine ap rfl ?_ ?_|refine aG rfl (fun _=>?_) (fun _=>?_)|refine aF rfl (fun _=>?_) (fun _=>?_)
    | ((first|refine ao (fun _=>?_) (fun _=>?_)|refine au (fun _=>?_) (fun _=>?_))<;>try refine sm ?_)
    | refine And.intro trivial ?_
    | refine And.intro (by omega) ?_
    | refine aI rfl (fun _=>?_) (fun _=>?_)
    | refine And.intro ?_ ?_
   ·rename_i hz
    rw [g7.out (by omega)];omega
   ·rename_i hz
    rw [g7.out (by omega)];omega
   ·rename_i hq
    have hcond:c=32/\(b=[]\/t.getD (k - 1) 0=32):=by
     refine ⟨(u32.out c).1 hq.1,?_⟩;rcases hq.2 with e|e
     ·exact .inl (ae3.1 (by omega))
     ·by_cases hb0:b=[]
      ·exact .inl hb0
      ·have hk1:1<=k:=by have:=afF.2 hb0;omega
       rw [g7.out hk1,show ((k:Int) - 1).toNat=k - 1 by omega] at e;exact .inr ((u32.out _).1 e)
    exact ag _ _ _ (by omega) (CutL (b:=by simp)) ⟨k+1,b,_,b.length,rfl,hlt,by rw [hs2.out,if_pos hcond],rfl,rfl,rfl,rfl⟩
   ·rename_i hq
    have hcond:¬ (c=32/\(b=[]\/t.getD (k - 1) 0=32)):=fun ⟨e1,e2⟩=>hq (by
     refine ⟨(u32.out c).2 e1,?_⟩;by_cases hb0:b=[]
     ·exact .inl (by rw [hb0];rfl)
     ·have hk1:1<=k:=by have:=afF.2 hb0;omega
      rcases e2 with e|e
      ·exact absurd e hb0
      ·refine .inr ?_;rw [g7.out hk1,show ((k:Int) - 1).toNat=k - 1 by omega];exact (u32.out _).2 e)
    rw [show u8s b++[AV.int IntKind.u8 (c.toNat:Int)]=u8s (b++[c]) by simp [u8s]];exact ag _ _ _ (by omega) (CutL (b:=by simp)) ⟨k+1,b++[c],_,b.length+1,rfl,hlt,by rw [hs2.out,if_neg hcond],rfl,by simp,rfl,rfl⟩
 ·have hke:k=t.length:=by omega
  subst hke;have h1:¬ (t.length:Int)<(t.length:Int):=by omega
  have e1:=ij b;have e2:=gF b;have e3:=hid (show b=fG s by rw [hb.out,hfin.out]);refine wk ?_;refine ab rfl ?_;rw [e3.out];exact h.out
end Go.Proofs.YtigifoeopopnbaaGreatDoor.Av
