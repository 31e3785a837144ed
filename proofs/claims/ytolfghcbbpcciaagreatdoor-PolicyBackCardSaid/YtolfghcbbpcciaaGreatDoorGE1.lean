/- Joined texts of the walk, made small by a program. -/
import Derived.Test.YtolfghcbbpcciaaGreatDoorGS1
import Derived.Test.YtolfghcbbpcciaaGreatDoorGO1
import Derived.Test.YtolfghcbbpcciaaGreatDoorGA1
set_option linter.unusedSimpArgs false
set_option linter.unusedVariables false
namespace Go.Proofs.YtolfghcbbpcciaaGreatDoor.Av
open Go
set_option maxHeartbeats 8000000
set_option maxRecDepth 100000
abbrev Typ:=List UInt8×Int×Bool×Bool
def bm:List Atr→List UInt8→List (List UInt8)
 | [],_=>[]
 | a::t,n=>if ak a.1=ak n then a.2 else bm t n
def dN (n:List UInt8) (vs:List (List UInt8)):Bool→List Atr→List Atr
 | done,[]=>if done=true then [] else [(n,vs)]
 | done,a::t=>(if done=false∧¬ ak a.1<ak n then [(n,vs)] else [])++(if ak n≠ak a.1 then [a] else [])++dN n vs (done || !decide (ak a.1<ak n)) t
def cJ (syn:Int) (v:List UInt8):List UInt8:=(bX syn v).getD []
def inM (syn:Int) (l:List (List UInt8)) (n:List UInt8):Bool:=l.any fun v=>decide (cJ syn v=n)
def d9 (syn:Int) (v:List UInt8):Bool→List (List UInt8)→List (List UInt8)
 | done,[]=>if done=true then [] else [v]
 | done,x::t=>(if done=false∧cJ syn v<cJ syn x then [v] else [])++x::d9 syn v (done || decide (cJ syn v<cJ syn x)) t
def cf (syn:Int) (single:Bool):List (List UInt8)→List (List UInt8)→List (List UInt8)×Int
 | l,[]=>if single=true∧1<l.length then ([],19) else (l,0)
 | l,v::vs=>match bX syn v with
   | none=>([],21)
   | some n=>if inM syn l n=true then ([],20) else cf syn single (d9 syn v false l) vs
def gU (ts:List Typ) (n:List UInt8):Option Typ:=ts.find? fun t=>decide (ak t.1=ak n)
section
variable {α:Type} (key:α→List UInt8)
def fm (l:List α) (k:List UInt8):Nat:=(l.takeWhile fun a=>decide (key a<k)).length
def gR (l:List α):Prop:=l.Pairwise fun a b=>key a<key b
theorem QS (l:List α) (k:List UInt8):fm key l k≤l.length:=by
 unfold fm
 exact (List.takeWhile_sublist _).length_le
theorem ja (a:α) (l:List α) (k:List UInt8):fm key (a::l) k=if key a<k then fm key l k+1 else 0:=by
 unfold fm
 rw [List.takeWhile_cons]
 by_cases h:key a<k
 · simp [h]
 · simp [h]
end
theorem pP (syn:Int) (v:List UInt8):∀ l,d9 syn v true l=l
 | []=>rfl
 | x::t=>by rw [d9,if_neg (by simp)];simp [pP syn v t]
theorem Li (syn:Int) (v:List UInt8):∀ l:List (List UInt8),inM syn l (cJ syn v)=false→d9 syn v false l=l.take (fm (cJ syn) l (cJ syn v))++v::l.drop (fm (cJ syn) l (cJ syn v))
 | [],_=>rfl
 | x::t,h=>by
   simp only [inM,List.any_cons,Bool.or_eq_false_iff,decide_eq_false_iff_not] at h
   rw [d9,ja]
   by_cases hx:cJ syn x<cJ syn v
   · have hx2:¬ cJ syn v<cJ syn x:=fun e=>List.lt_irrefl _ (List.lt_trans e hx)
     rw [if_pos hx,if_neg (fun e=>hx2 e.2),decide_eq_false hx2]
     simp only [Bool.or_false,List.nil_append,List.take_succ_cons,List.drop_succ_cons,List.cons_append]
     rw [Li syn v t (by simpa [inM] using h.2)]
   · have hx2:cJ syn v<cJ syn x:=by
       rcases List.le_iff_lt_or_eq.1 (List.not_lt.1 hx) with e|e
       · exact e
       · exact absurd e.symm h.1
     rw [if_neg hx,if_pos ⟨rfl,hx2⟩,decide_eq_true hx2]
     simp [pP]
abbrev du (a:Atr):List UInt8:=ak a.1
theorem Kt (n:List UInt8):∀ l:List Atr,gR du l→bm l n=match l[fm du l (ak n)]? with
   | some a=>if ak a.1=ak n then a.2 else []
   | none=>[]
 | [],_=>rfl
 | a::t,h=>by
   obtain ⟨h1,h2⟩:=List.pairwise_cons.1 h
   rw [bm,ja]
   by_cases hx:du a<ak n
   · have hne:¬ ak a.1=ak n:=fun e=>by
       rw [show du a=ak a.1 from rfl,e] at hx
       exact List.lt_irrefl _ hx
     rw [if_pos hx,if_neg hne,Kt n t h2,List.getElem?_cons_succ]
   · rw [if_neg hx,List.getElem?_cons_zero]
     simp only
     by_cases he:ak a.1=ak n
     · rw [if_pos he,if_pos he]
     · rw [if_neg he,if_neg he]
       have hlt:ak n<du a:=by
         rcases List.le_iff_lt_or_eq.1 (List.not_lt.1 hx) with e|e
         · exact e
         · exact absurd e.symm he
       have hno:∀ u:List Atr,(∀ b∈u,du a<du b)→bm u n=[]:=fun u=>by
         induction u with
         | nil=>intro _;rfl
         | cons b u ih =>
           intro hb
           rw [bm,if_neg,ih (fun c hc=>hb c (by simp [hc]))]
           intro e
           have h3:=List.lt_trans hlt (hb b (by simp))
           rw [show du b=ak b.1 from rfl,e] at h3
           exact List.lt_irrefl _ h3
       exact hno t h1
theorem MI (n:List UInt8) (vs:List (List UInt8)):∀ l:List Atr,(∀ a∈l,ak n≠ak a.1)→dN n vs true l=l
 | [],_=>rfl
 | a::t,h=>by
   rw [dN,if_neg (by simp),if_pos (h a (by simp)),Bool.true_or,MI n vs t (fun b hb=>h b (by simp [hb]))]
   rfl
theorem Qt (n:List UInt8) (vs:List (List UInt8)):∀ l:List Atr,gR du l→dN n vs false l=match l[fm du l (ak n)]? with
   | some a=>if ak a.1=ak n then l.set (fm du l (ak n)) (n,vs) else l.take (fm du l (ak n))++(n,vs)::l.drop (fm du l (ak n))
   | none=>l++[(n,vs)]
 | [],_=>rfl
 | a::t,h=>by
   obtain ⟨h1,h2⟩:=List.pairwise_cons.1 h
   rw [dN,ja]
   by_cases hx:du a<ak n
   · have hx2:ak a.1<ak n:=hx
     have hne:ak n≠ak a.1:=fun e=>by
       rw [e] at hx2
       exact List.lt_irrefl _ hx2
     rw [if_pos hx,if_neg (fun e=>e.2 hx2),if_pos hne,decide_eq_true hx2,List.getElem?_cons_succ]
     simp only [Bool.not_true,Bool.or_false,List.nil_append,List.set_cons_succ,List.take_succ_cons,List.drop_succ_cons,List.cons_append]
     rw [Qt n vs t h2]
     rcases t[fm du t (ak n)]? with _|b
     · rfl
     · simp only
       split<;>rfl
   · have hx2:¬ ak a.1<ak n:=hx
     rw [if_neg hx,if_pos ⟨rfl,hx2⟩,decide_eq_false hx2,List.getElem?_cons_zero]
     have hge:∀ b∈t,ak n≠ak b.1:=fun b hb e=>by
       have h3:ak a.1<ak b.1:=h1 b hb
       rw [← e] at h3
       exact hx2 h3
     simp only [Bool.not_false,Bool.or_true,List.set_cons_zero,List.take_zero,List.drop_zero,List.nil_append,List.cons_append]
     rw [MI n vs t hge]
     by_cases he:ak a.1=ak n
     · rw [if_pos he,if_neg (fun q=>q he.symm)];rfl
     · rw [if_neg he,if_pos (fun q=>he q.symm)];rfl
theorem Om {α:Type} (l:List α) (c:Nat) (v:α):(l.take c++v::l.drop c).Perm (v::l):=by
 refine List.perm_middle.trans ?_
 rw [List.take_append_drop]
theorem Kz {α:Type} {l:List α} {c:Nat} {v b:α}:b∈l.take c++v::l.drop c↔b=v∨b∈l:=by
 rw [(Om l c v).mem_iff,List.mem_cons]
theorem C6 {α:Type} {key:α→List UInt8} {v:α}:∀ {l:List α},gR key l→(∀ x∈l,key x≠key v)→gR key (l.take (fm key l (key v))++v::l.drop (fm key l (key v)))
 | [],_,_=>by simp [gR]
 | a::t,h,hn=>by
   obtain ⟨h1,h2⟩:=List.pairwise_cons.1 h
   rw [ja]
   by_cases hx:key a<key v
   · rw [if_pos hx]
     simp only [List.take_succ_cons,List.drop_succ_cons,List.cons_append]
     refine List.pairwise_cons.2 ⟨fun b hb=>?_,C6 h2 fun x hxx=>hn x (by simp [hxx])⟩
     rcases Kz.1 hb with rfl|hb
     · exact hx
     · exact h1 b hb
   · rw [if_neg hx]
     have hlt:key v<key a:=by
       rcases List.le_iff_lt_or_eq.1 (List.not_lt.1 hx) with e|e
       · exact e
       · exact absurd e.symm (hn a (by simp))
     simp only [List.take_zero,List.drop_zero,List.nil_append]
     refine List.pairwise_cons.2 ⟨fun b hb=>?_,h⟩
     rcases List.mem_cons.1 hb with rfl|hb
     · exact hlt
     · exact List.lt_trans hlt (h1 b hb)
theorem C3 {ts:List Typ} {n m:List UInt8} (h:ak n=ak m):gU ts n=gU ts m:=by
 unfold gU;rw [h]
def InV (syn:Int) (l:List (List UInt8)):Prop:=gR (cJ syn) l∧∀ v∈l,(bX syn v).isSome=true
theorem N0 {syn:Int} {single:Bool}:∀ {vs l:List (List UInt8)},InV syn l→(cf syn single l vs).2=0→InV syn (cf syn single l vs).1
 | [],l,h,h0=>by
   rw [cf] at h0 ⊢
   split
   · rename_i hc
     rw [if_pos hc] at h0;cases h0
   · exact h
 | v::vs,l,h,h0=>by
   rw [cf] at h0 ⊢
   rcases hv:bX syn v with _|n
   · rw [hv] at h0;cases h0
   · rw [hv] at h0
     simp only at h0 ⊢
     split
     · rename_i hc
       rw [if_pos hc] at h0;cases h0
     · rename_i hc
       rw [if_neg hc] at h0
       have hk:cJ syn v=n:=by simp [cJ,hv]
       have hin:inM syn l (cJ syn v)=false:=by rw [hk];simpa using hc
       refine N0 ?_ h0
       rw [Li syn v l hin]
       refine ⟨C6 h.1 fun x hx e=>?_,fun x hx=>?_⟩
       · simp only [inM,List.any_eq_false,decide_eq_true_eq] at hin
         exact hin x hx e
       · rcases Kz.1 hx with rfl|hx
         · rw [hv];rfl
         · exact h.2 x hx
def InA (ts:List Typ) (l:List Atr):Prop:=gR du l∧∀ a∈l,∃ ty,gU ts a.1=some ty∧ty.1=a.1∧a.2≠[]∧InV ty.2.1 a.2∧(ty.2.2.1=true→a.2.length≤1)
theorem Qq {ts:List Typ} {l:List Atr} {n:List UInt8} {ty:Typ} (h:InA ts l) (ht:gU ts n=some ty):InV ty.2.1 (bm l n):=by
 rw [Kt n l h.1]
 rcases hg:l[fm du l (ak n)]? with _|a
 · exact ⟨List.Pairwise.nil,fun v hv=>by cases hv⟩
 · simp only
   split
   · rename_i he
     obtain ⟨ty',h1,_,_,h4,_⟩:=h.2 a (List.mem_of_getElem? hg)
     rw [C3 he,ht] at h1
     cases h1
     exact h4
   · exact ⟨List.Pairwise.nil,fun v hv=>by cases hv⟩
theorem vD {α:Type} {key:α→List UInt8} {k:List UInt8}:∀ {l:List α},gR key l→(∀ a,l[fm key l k]?=some a→key a≠k)→∀ x∈l,key x≠k
 | [],_,_,_,hx=>by cases hx
 | a::t,h,hc,x,hx=>by
   obtain ⟨h1,h2⟩:=List.pairwise_cons.1 h
   rw [ja] at hc
   by_cases ha:key a<k
   · rw [if_pos ha] at hc
     rcases List.mem_cons.1 hx with rfl|hx
     · intro e
       rw [e] at ha
       exact List.lt_irrefl _ ha
     · exact vD h2 (fun b hb=>hc b (by simpa using hb)) x hx
   · rw [if_neg ha] at hc
     have hne:=hc a (by simp)
     have hlt:k<key a:=by
       rcases List.le_iff_lt_or_eq.1 (List.not_lt.1 ha) with e|e
       · exact e
       · exact absurd e.symm hne
     rcases List.mem_cons.1 hx with rfl|hx
     · exact hne
     · intro e
       have:=List.lt_trans hlt (h1 x hx)
       rw [e] at this
       exact List.lt_irrefl _ this
theorem Rk {α:Type} {key:α→List UInt8} {l:List α} {c:Nat} {a x:α} (h:gR key l) (hc:l[c]?=some a) (hk:key x=key a):gR key (l.set c x):=by
 have e:(l.set c x).map key=l.map key:=by
   rw [List.map_set,hk]
   obtain ⟨hlt,rfl⟩:=List.getElem?_eq_some_iff.1 hc
   rw [← List.getElem_map (f:=key) (h:=by simpa using hlt),List.set_getElem_self]
 have h2:(l.map key).Pairwise (· < ·):=List.pairwise_map.2 h
 rw [← e] at h2
 exact List.pairwise_map.1 h2
theorem Qu {ts:List Typ} {l:List Atr} {n:List UInt8} {vs:List (List UInt8)} {ty:Typ} (h:InA ts l) (ht:gU ts n=some ty) (hn:ty.1=n) (hv:vs≠[]) (hi:InV ty.2.1 vs) (h1:ty.2.2.1=true→vs.length≤1):InA ts (dN n vs false l):=by
 have hnew:∃ ty',gU ts n=some ty'∧ty'.1=n∧vs≠[]∧InV ty'.2.1 vs∧(ty'.2.2.1=true→vs.length≤1):=⟨ty,ht,hn,hv,hi,h1⟩
 rw [Qt n vs l h.1]
 rcases hg:l[fm du l (ak n)]? with _|a
 · simp only
   have hno:=vD (k:=ak n) h.1 (fun a ha=>by rw [hg] at ha;cases ha)
   have hc:fm du l (ak n)=l.length:=Nat.le_antisymm (QS _ _ _) (List.getElem?_eq_none_iff.1 hg)
   have e:l++[(n,vs)]=l.take (fm du l (du (n,vs)))++(n,vs)::l.drop (fm du l (du (n,vs))):=by
     rw [show du (n,vs)=ak n from rfl,hc,List.take_length,List.drop_length]
   rw [e]
   refine ⟨C6 h.1 hno,fun b hb=>?_⟩
   rcases Kz.1 hb with rfl|hb
   · exact hnew
   · exact h.2 b hb
 · simp only
   split
   · rename_i he
     refine ⟨Rk h.1 hg he.symm,fun b hb=>?_⟩
     rcases List.mem_or_eq_of_mem_set hb with hb|rfl
     · exact h.2 b hb
     · exact hnew
   · rename_i he
     have hno:=vD (k:=ak n) h.1 (fun b hb=>by rw [hg] at hb;cases hb;exact he)
     refine ⟨C6 (key:=du) (v:=(n,vs)) h.1 hno,fun b hb=>?_⟩
     rcases Kz.1 hb with rfl|hb
     · exact hnew
     · exact h.2 b hb
theorem CS {syn:Int} {single:Bool}:∀ {vs l:List (List UInt8)},(cf syn single l vs).2=0→single=true→(cf syn single l vs).1.length≤1
 | [],l,h0,hs=>by
   rw [cf] at h0 ⊢
   split
   · rename_i hc;rw [if_pos hc] at h0;cases h0
   · rename_i hc
     have:¬ 1<l.length:=fun e=>hc ⟨hs,e⟩
     simp only;omega
 | v::vs,l,h0,hs=>by
   rw [cf] at h0 ⊢
   rcases hv:bX syn v with _|n
   · rw [hv] at h0;cases h0
   · rw [hv] at h0
     simp only at h0 ⊢
     split
     · rename_i hc;rw [if_pos hc] at h0;cases h0
     · rename_i hc
       rw [if_neg hc] at h0
       exact CS h0 hs
theorem i7 {ts:List Typ} {n:List UInt8} {ty:Typ} (h:gU ts n=some ty):ty∈ts∧ak ty.1=ak n:=by
 unfold gU at h
 exact ⟨List.mem_of_find?_eq_some h,by simpa using List.find?_some h⟩
set_option maxHeartbeats 8000000
set_option maxRecDepth 100000
theorem T5 {α:Type} {key:α→List UInt8} {k:List UInt8}:∀ {l:List α},gR key l→∀ (h:Nat) (hh:h<l.length),(key l[h]<k↔h<fm key l k)
 | a::t,hr,h,hh=>by
   obtain ⟨h1,h2⟩:=List.pairwise_cons.1 hr
   rw [ja]
   by_cases ha:key a<k
   · rw [if_pos ha]
     rcases h with _|h
     · exact ⟨fun _=>by omega,fun _=>ha⟩
     · have:=T5 (k:=k) h2 h (by simpa using hh)
       simp only [List.getElem_cons_succ,this]
       omega
   · rw [if_neg ha]
     rcases h with _|h
     · exact ⟨fun e=>absurd e ha,fun e=>by omega⟩
     · constructor
       · intro e
         have hm:key a<key ((a::t)[h+1]'hh):=h1 _ (by simp)
         exact absurd (List.lt_trans hm e) ha
       · intro e;omega
theorem R0 {α:Type} {key:α→List UInt8} {k:List UInt8} {l:List α} (hr:gR key l):(l.any fun a=>decide (key a=k))=match l[fm key l k]? with
   | some a=>decide (key a=k)
   | none=>false:=by
 cases h:l[fm key l k]? with
 | none =>
   simp only [List.any_eq_false,decide_eq_true_eq]
   exact vD hr (fun a ha=>by rw [h] at ha;cases ha)
 | some a =>
   simp only
   by_cases he:key a=k
   · rw [decide_eq_true he,List.any_eq_true]
     exact ⟨a,List.mem_of_getElem? h,by simpa using he⟩
   · rw [decide_eq_false he]
     simp only [List.any_eq_false,decide_eq_true_eq]
     exact vD hr (fun b hb=>by rw [h] at hb;cases hb;exact he)
theorem R8 {syn:Int} {single:Bool} {l:List (List UInt8)} {v:List UInt8} {vs:List (List UInt8)} (h0:(cf syn single l (v::vs)).2=0) :
   (bX syn v).isSome=true∧inM syn l (cJ syn v)=false∧cf syn single l (v::vs)=cf syn single (d9 syn v false l) vs:=by
 rw [cf] at h0 ⊢
 rcases hv:bX syn v with _|n
 · rw [hv] at h0;cases h0
 · rw [hv] at h0
   simp only at h0 ⊢
   have hk:cJ syn v=n:=by simp [cJ,hv]
   split
   · rename_i hc;rw [if_pos hc] at h0;cases h0
   · rename_i hc
     exact ⟨rfl,by rw [hk];simpa using hc,rfl⟩
theorem Tf {syn:Int} {v:List UInt8} {l:List (List UInt8)} (h:inM syn l (cJ syn v)=false):(d9 syn v false l).length=l.length+1:=by
 rw [Li syn v l h,(Om _ _ _).length_eq,List.length_cons]
theorem Iz {syn:Int} {single:Bool}:∀ {vs l:List (List UInt8)},(cf syn single l vs).2=0→(cf syn single l vs).1.length=l.length+vs.length
 | [],l,h0=>by
   rw [cf] at h0 ⊢
   split
   · rename_i hc;rw [if_pos hc] at h0;cases h0
   · rfl
 | v::vs,l,h0=>by
   obtain ⟨h1,h2,h3⟩:=R8 h0
   rw [h3] at h0 ⊢
   rw [Iz h0,Tf h2,List.length_cons];omega
theorem Tc (ts:List Typ):InA ts []:=⟨List.Pairwise.nil,fun a ha=>by cases ha⟩
end Go.Proofs.YtolfghcbbpcciaaGreatDoor.Av
