/- Joined texts of the walk, made small by a program. -/
import Derived.Test.YtkkgmgmgcgiffaaGreatDoorUS1
import Derived.Test.YtkkgmgmgcgiffaaGreatDoorUO1
import Derived.Test.YtkkgmgmgcgiffaaGreatDoorUA1
set_option linter.unusedSimpArgs false
set_option linter.unusedVariables false
namespace Go.Proofs.YtkkgmgmgcgiffaaGreatDoor.Av
open Go
set_option maxHeartbeats 8000000
set_option maxRecDepth 100000
abbrev Typ:=List UInt8×Int×Bool×Bool
def dU:List Atr→List UInt8→List (List UInt8)
 | [],_=>[]
 | a::t,n=>if ah a.1=ah n then a.2 else dU t n
def kM (n:List UInt8) (vs:List (List UInt8)):Bool→List Atr→List Atr
 | done,[]=>if done=true then [] else [(n,vs)]
 | done,a::t=>(if done=false∧¬ ah a.1<ah n then [(n,vs)] else [])++(if ah n≠ah a.1 then [a] else [])++kM n vs (done || !decide (ah a.1<ah n)) t
def dj (syn:Int) (v:List UInt8):List UInt8:=(bU syn v).getD []
def inM (syn:Int) (l:List (List UInt8)) (n:List UInt8):Bool:=l.any fun v=>decide (dj syn v=n)
def eM (syn:Int) (v:List UInt8):Bool→List (List UInt8)→List (List UInt8)
 | done,[]=>if done=true then [] else [v]
 | done,x::t=>(if done=false∧dj syn v<dj syn x then [v] else [])++x::eM syn v (done || decide (dj syn v<dj syn x)) t
def dx (syn:Int) (single:Bool):List (List UInt8)→List (List UInt8)→List (List UInt8)×Int
 | l,[]=>if single=true∧1<l.length then ([],19) else (l,0)
 | l,v::vs=>match bU syn v with
   | none=>([],21)
   | some n=>if inM syn l n=true then ([],20) else dx syn single (eM syn v false l) vs
def fJ (ts:List Typ) (n:List UInt8):Option Typ:=ts.find? fun t=>decide (ah t.1=ah n)
def Jl (ts:List Typ):List Atr→List Atr→List Atr×Int
 | out,[]=>(out,0)
 | out,a::t=>match fJ ts a.1 with
   | none=>([],17)
   | some ty=>if a.2=[] then ([],19) else
     if (dx ty.2.1 ty.2.2.1 (dU out a.1) a.2).2≠0 then ([],(dx ty.2.1 ty.2.2.1 (dU out a.1) a.2).2)
     else Jl ts (kM ty.1 (dx ty.2.1 ty.2.2.1 (dU out a.1) a.2).1 (dx ty.2.1 ty.2.2.1 (dU out a.1) a.2).1.isEmpty out) t
section
variable {α:Type} (key:α→List UInt8)
def dK (l:List α) (k:List UInt8):Nat:=(l.takeWhile fun a=>decide (key a<k)).length
def jS (l:List α):Prop:=l.Pairwise fun a b=>key a<key b
theorem OW (l:List α) (k:List UInt8):dK key l k≤l.length:=by
 unfold dK
 exact (List.takeWhile_sublist _).length_le
theorem kH (a:α) (l:List α) (k:List UInt8):dK key (a::l) k=if key a<k then dK key l k+1 else 0:=by
 unfold dK
 rw [List.takeWhile_cons]
 by_cases h:key a<k
 · simp [h]
 · simp [h]
end
theorem G1 (syn:Int) (v:List UInt8):∀ l,eM syn v true l=l
 | []=>rfl
 | x::t=>by rw [eM,if_neg (by simp)];simp [G1 syn v t]
theorem Mo (syn:Int) (v:List UInt8):∀ l:List (List UInt8),inM syn l (dj syn v)=false→eM syn v false l=l.take (dK (dj syn) l (dj syn v))++v::l.drop (dK (dj syn) l (dj syn v))
 | [],_=>rfl
 | x::t,h=>by
   simp only [inM,List.any_cons,Bool.or_eq_false_iff,decide_eq_false_iff_not] at h
   rw [eM,kH]
   by_cases hx:dj syn x<dj syn v
   · have hx2:¬ dj syn v<dj syn x:=fun e=>List.lt_irrefl _ (List.lt_trans e hx)
     rw [if_pos hx,if_neg (fun e=>hx2 e.2),decide_eq_false hx2]
     simp only [Bool.or_false,List.nil_append,List.take_succ_cons,List.drop_succ_cons,List.cons_append]
     rw [Mo syn v t (by simpa [inM] using h.2)]
   · have hx2:dj syn v<dj syn x:=by
       rcases List.le_iff_lt_or_eq.1 (List.not_lt.1 hx) with e|e
       · exact e
       · exact absurd e.symm h.1
     rw [if_neg hx,if_pos ⟨rfl,hx2⟩,decide_eq_true hx2]
     simp [G1]
abbrev db (a:Atr):List UInt8:=ah a.1
theorem On (n:List UInt8):∀ l:List Atr,jS db l→dU l n=match l[dK db l (ah n)]? with
   | some a=>if ah a.1=ah n then a.2 else []
   | none=>[]
 | [],_=>rfl
 | a::t,h=>by
   obtain ⟨h1,h2⟩:=List.pairwise_cons.1 h
   rw [dU,kH]
   by_cases hx:db a<ah n
   · have hne:¬ ah a.1=ah n:=fun e=>by
       rw [show db a=ah a.1 from rfl,e] at hx
       exact List.lt_irrefl _ hx
     rw [if_pos hx,if_neg hne,On n t h2,List.getElem?_cons_succ]
   · rw [if_neg hx,List.getElem?_cons_zero]
     simp only
     by_cases he:ah a.1=ah n
     · rw [if_pos he,if_pos he]
     · rw [if_neg he,if_neg he]
       have hlt:ah n<db a:=by
         rcases List.le_iff_lt_or_eq.1 (List.not_lt.1 hx) with e|e
         · exact e
         · exact absurd e.symm he
       have hno:∀ u:List Atr,(∀ b∈u,db a<db b)→dU u n=[]:=fun u=>by
         induction u with
         | nil=>intro _;rfl
         | cons b u ih =>
           intro hb
           rw [dU,if_neg,ih (fun c hc=>hb c (by simp [hc]))]
           intro e
           have h3:=List.lt_trans hlt (hb b (by simp))
           rw [show db b=ah b.1 from rfl,e] at h3
           exact List.lt_irrefl _ h3
       exact hno t h1
theorem NP (n:List UInt8) (vs:List (List UInt8)):∀ l:List Atr,(∀ a∈l,ah n≠ah a.1)→kM n vs true l=l
 | [],_=>rfl
 | a::t,h=>by
   rw [kM,if_neg (by simp),if_pos (h a (by simp)),Bool.true_or,NP n vs t (fun b hb=>h b (by simp [hb]))]
   rfl
theorem Ry (n:List UInt8) (vs:List (List UInt8)):∀ l:List Atr,jS db l→kM n vs false l=match l[dK db l (ah n)]? with
   | some a=>if ah a.1=ah n then l.set (dK db l (ah n)) (n,vs) else l.take (dK db l (ah n))++(n,vs)::l.drop (dK db l (ah n))
   | none=>l++[(n,vs)]
 | [],_=>rfl
 | a::t,h=>by
   obtain ⟨h1,h2⟩:=List.pairwise_cons.1 h
   rw [kM,kH]
   by_cases hx:db a<ah n
   · have hx2:ah a.1<ah n:=hx
     have hne:ah n≠ah a.1:=fun e=>by
       rw [e] at hx2
       exact List.lt_irrefl _ hx2
     rw [if_pos hx,if_neg (fun e=>e.2 hx2),if_pos hne,decide_eq_true hx2,List.getElem?_cons_succ]
     simp only [Bool.not_true,Bool.or_false,List.nil_append,List.set_cons_succ,List.take_succ_cons,List.drop_succ_cons,List.cons_append]
     rw [Ry n vs t h2]
     rcases t[dK db t (ah n)]? with _|b
     · rfl
     · simp only
       split<;>rfl
   · have hx2:¬ ah a.1<ah n:=hx
     rw [if_neg hx,if_pos ⟨rfl,hx2⟩,decide_eq_false hx2,List.getElem?_cons_zero]
     have hge:∀ b∈t,ah n≠ah b.1:=fun b hb e=>by
       have h3:ah a.1<ah b.1:=h1 b hb
       rw [← e] at h3
       exact hx2 h3
     simp only [Bool.not_false,Bool.or_true,List.set_cons_zero,List.take_zero,List.drop_zero,List.nil_append,List.cons_append]
     rw [NP n vs t hge]
     by_cases he:ah a.1=ah n
     · rw [if_pos he,if_neg (fun q=>q he.symm)];rfl
     · rw [if_neg he,if_pos (fun q=>he q.symm)];rfl
theorem Pl {α:Type} (l:List α) (c:Nat) (v:α):(l.take c++v::l.drop c).Perm (v::l):=by
 refine List.perm_middle.trans ?_
 rw [List.take_append_drop]
theorem LE {α:Type} {l:List α} {c:Nat} {v b:α}:b∈l.take c++v::l.drop c↔b=v∨b∈l:=by
 rw [(Pl l c v).mem_iff,List.mem_cons]
theorem Dy {α:Type} {key:α→List UInt8} {v:α}:∀ {l:List α},jS key l→(∀ x∈l,key x≠key v)→jS key (l.take (dK key l (key v))++v::l.drop (dK key l (key v)))
 | [],_,_=>by simp [jS]
 | a::t,h,hn=>by
   obtain ⟨h1,h2⟩:=List.pairwise_cons.1 h
   rw [kH]
   by_cases hx:key a<key v
   · rw [if_pos hx]
     simp only [List.take_succ_cons,List.drop_succ_cons,List.cons_append]
     refine List.pairwise_cons.2 ⟨fun b hb=>?_,Dy h2 fun x hxx=>hn x (by simp [hxx])⟩
     rcases LE.1 hb with rfl|hb
     · exact hx
     · exact h1 b hb
   · rw [if_neg hx]
     have hlt:key v<key a:=by
       rcases List.le_iff_lt_or_eq.1 (List.not_lt.1 hx) with e|e
       · exact e
       · exact absurd e.symm (hn a (by simp))
     simp only [List.take_zero,List.drop_zero,List.nil_append]
     refine List.pairwise_cons.2 ⟨fun b hb=>?_,h⟩
     rcases List.mem_cons.1 hb with rfl|hb
     · exact hlt
     · exact List.lt_trans hlt (h1 b hb)
theorem JJ {ts:List Typ} {n m:List UInt8} (h:ah n=ah m):fJ ts n=fJ ts m:=by
 unfold fJ;rw [h]
def InV (syn:Int) (l:List (List UInt8)):Prop:=jS (dj syn) l∧∀ v∈l,(bU syn v).isSome=true
theorem RV {syn:Int} {single:Bool}:∀ {vs l:List (List UInt8)},InV syn l→(dx syn single l vs).2=0→InV syn (dx syn single l vs).1
 | [],l,h,h0=>by
   rw [dx] at h0 ⊢
   split
   · rename_i hc
     rw [if_pos hc] at h0;cases h0
   · exact h
 | v::vs,l,h,h0=>by
   rw [dx] at h0 ⊢
   rcases hv:bU syn v with _|n
   · rw [hv] at h0;cases h0
   · rw [hv] at h0
     simp only at h0 ⊢
     split
     · rename_i hc
       rw [if_pos hc] at h0;cases h0
     · rename_i hc
       rw [if_neg hc] at h0
       have hk:dj syn v=n:=by simp [dj,hv]
       have hin:inM syn l (dj syn v)=false:=by rw [hk];simpa using hc
       refine RV ?_ h0
       rw [Mo syn v l hin]
       refine ⟨Dy h.1 fun x hx e=>?_,fun x hx=>?_⟩
       · simp only [inM,List.any_eq_false,decide_eq_true_eq] at hin
         exact hin x hx e
       · rcases LE.1 hx with rfl|hx
         · rw [hv];rfl
         · exact h.2 x hx
def InA (ts:List Typ) (l:List Atr):Prop:=jS db l∧∀ a∈l,∃ ty,fJ ts a.1=some ty∧ty.1=a.1∧a.2≠[]∧InV ty.2.1 a.2∧(ty.2.2.1=true→a.2.length≤1)
theorem VA {ts:List Typ} {l:List Atr} {n:List UInt8} {ty:Typ} (h:InA ts l) (ht:fJ ts n=some ty):InV ty.2.1 (dU l n):=by
 rw [On n l h.1]
 rcases hg:l[dK db l (ah n)]? with _|a
 · exact ⟨List.Pairwise.nil,fun v hv=>by cases hv⟩
 · simp only
   split
   · rename_i he
     obtain ⟨ty',h1,_,_,h4,_⟩:=h.2 a (List.mem_of_getElem? hg)
     rw [JJ he,ht] at h1
     cases h1
     exact h4
   · exact ⟨List.Pairwise.nil,fun v hv=>by cases hv⟩
theorem wX {α:Type} {key:α→List UInt8} {k:List UInt8}:∀ {l:List α},jS key l→(∀ a,l[dK key l k]?=some a→key a≠k)→∀ x∈l,key x≠k
 | [],_,_,_,hx=>by cases hx
 | a::t,h,hc,x,hx=>by
   obtain ⟨h1,h2⟩:=List.pairwise_cons.1 h
   rw [kH] at hc
   by_cases ha:key a<k
   · rw [if_pos ha] at hc
     rcases List.mem_cons.1 hx with rfl|hx
     · intro e
       rw [e] at ha
       exact List.lt_irrefl _ ha
     · exact wX h2 (fun b hb=>hc b (by simpa using hb)) x hx
   · rw [if_neg ha] at hc
     have hne:=hc a (by simp)
     have hlt:k<key a:=by
       rcases List.le_iff_lt_or_eq.1 (List.not_lt.1 ha) with e|e
       · exact e
       · exact absurd e.symm hne
     rcases List.mem_cons.1 hx with rfl|hx
     · exact hne
     · intro e
       have:=List.lt_trans hlt (h1 x hx)
       rw [e] at this
       exact List.lt_irrefl _ this
theorem Si {α:Type} {key:α→List UInt8} {l:List α} {c:Nat} {a x:α} (h:jS key l) (hc:l[c]?=some a) (hk:key x=key a):jS key (l.set c x):=by
 have e:(l.set c x).map key=l.map key:=by
   rw [List.map_set,hk]
   obtain ⟨hlt,rfl⟩:=List.getElem?_eq_some_iff.1 hc
   rw [← List.getElem_map (f:=key) (h:=by simpa using hlt),List.set_getElem_self]
 have h2:(l.map key).Pairwise (· < ·):=List.pairwise_map.2 h
 rw [← e] at h2
 exact List.pairwise_map.1 h2
theorem VO {ts:List Typ} {l:List Atr} {n:List UInt8} {vs:List (List UInt8)} {ty:Typ} (h:InA ts l) (ht:fJ ts n=some ty) (hn:ty.1=n) (hv:vs≠[]) (hi:InV ty.2.1 vs) (h1:ty.2.2.1=true→vs.length≤1):InA ts (kM n vs false l):=by
 have hnew:∃ ty',fJ ts n=some ty'∧ty'.1=n∧vs≠[]∧InV ty'.2.1 vs∧(ty'.2.2.1=true→vs.length≤1):=⟨ty,ht,hn,hv,hi,h1⟩
 rw [Ry n vs l h.1]
 rcases hg:l[dK db l (ah n)]? with _|a
 · simp only
   have hno:=wX (k:=ah n) h.1 (fun a ha=>by rw [hg] at ha;cases ha)
   have hc:dK db l (ah n)=l.length:=Nat.le_antisymm (OW _ _ _) (List.getElem?_eq_none_iff.1 hg)
   have e:l++[(n,vs)]=l.take (dK db l (db (n,vs)))++(n,vs)::l.drop (dK db l (db (n,vs))):=by
     rw [show db (n,vs)=ah n from rfl,hc,List.take_length,List.drop_length]
   rw [e]
   refine ⟨Dy h.1 hno,fun b hb=>?_⟩
   rcases LE.1 hb with rfl|hb
   · exact hnew
   · exact h.2 b hb
 · simp only
   split
   · rename_i he
     refine ⟨Si h.1 hg he.symm,fun b hb=>?_⟩
     rcases List.mem_or_eq_of_mem_set hb with hb|rfl
     · exact h.2 b hb
     · exact hnew
   · rename_i he
     have hno:=wX (k:=ah n) h.1 (fun b hb=>by rw [hg] at hb;cases hb;exact he)
     refine ⟨Dy (key:=db) (v:=(n,vs)) h.1 hno,fun b hb=>?_⟩
     rcases LE.1 hb with rfl|hb
     · exact hnew
     · exact h.2 b hb
theorem Ug (syn:Int) (v:List UInt8) (l:List (List UInt8)):eM syn v false l≠[]:=by
 rcases l with _|⟨x,t⟩
 · simp [eM]
 · simp [eM]
theorem RU {syn:Int} {single:Bool}:∀ {vs l:List (List UInt8)},l≠[]∨vs≠[]→(dx syn single l vs).2=0→(dx syn single l vs).1≠[]
 | [],l,h,h0=>by
   rw [dx] at h0 ⊢
   split
   · rename_i hc;rw [if_pos hc] at h0;cases h0
   · rcases h with h|h
     · exact h
     · exact absurd rfl h
 | v::vs,l,h,h0=>by
   rw [dx] at h0 ⊢
   rcases hv:bU syn v with _|n
   · rw [hv] at h0;cases h0
   · rw [hv] at h0
     simp only at h0 ⊢
     split
     · rename_i hc;rw [if_pos hc] at h0;cases h0
     · rename_i hc
       rw [if_neg hc] at h0
       exact RU (.inl (Ug syn v l)) h0
theorem K4 {syn:Int} {single:Bool}:∀ {vs l:List (List UInt8)},(dx syn single l vs).2=0→single=true→(dx syn single l vs).1.length≤1
 | [],l,h0,hs=>by
   rw [dx] at h0 ⊢
   split
   · rename_i hc;rw [if_pos hc] at h0;cases h0
   · rename_i hc
     have:¬ 1<l.length:=fun e=>hc ⟨hs,e⟩
     simp only;omega
 | v::vs,l,h0,hs=>by
   rw [dx] at h0 ⊢
   rcases hv:bU syn v with _|n
   · rw [hv] at h0;cases h0
   · rw [hv] at h0
     simp only at h0 ⊢
     split
     · rename_i hc;rw [if_pos hc] at h0;cases h0
     · rename_i hc
       rw [if_neg hc] at h0
       exact K4 h0 hs
theorem Dw {ts:List Typ} {n:List UInt8} {ty:Typ} (h:fJ ts n=some ty):ty∈ts∧ah ty.1=ah n:=by
 unfold fJ at h
 exact ⟨List.mem_of_find?_eq_some h,by simpa using List.find?_some h⟩
theorem OF {ts:List Typ}:∀ {l out:List Atr},InA ts out→(Jl ts out l).2=0→InA ts (Jl ts out l).1
 | [],out,h,_=>h
 | a::t,out,h,h0=>by
   rw [Jl] at h0 ⊢
   rcases ht:fJ ts a.1 with _|ty
   · rw [ht] at h0;cases h0
   · rw [ht] at h0
     simp only at h0 ⊢
     split
     · rename_i hc;rw [if_pos hc] at h0;cases h0
     · rename_i hc
       rw [if_neg hc] at h0
       split
       · rename_i hd;rw [if_pos hd] at h0;exact absurd h0 hd
       · rename_i hd
         rw [if_neg hd] at h0
         simp only [ne_eq,Decidable.not_not] at hd
         have hne:=RU (l:=dU out a.1) (.inr hc) hd
         have hem:(dx ty.2.1 ty.2.2.1 (dU out a.1) a.2).1.isEmpty=false:=by simpa using hne
         rw [hem] at h0 ⊢
         have hts:=Dw ht
         exact OF (VO h (by rw [JJ hts.2];exact ht) rfl hne (RV (VA h ht) hd) (K4 hd)) h0
set_option maxHeartbeats 8000000
set_option maxRecDepth 100000
theorem Rg {α:Type} {key:α→List UInt8} {k:List UInt8}:∀ {l:List α},jS key l→∀ (h:Nat) (hh:h<l.length),(key l[h]<k↔h<dK key l k)
 | a::t,hr,h,hh=>by
   obtain ⟨h1,h2⟩:=List.pairwise_cons.1 hr
   rw [kH]
   by_cases ha:key a<k
   · rw [if_pos ha]
     rcases h with _|h
     · exact ⟨fun _=>by omega,fun _=>ha⟩
     · have:=Rg (k:=k) h2 h (by simpa using hh)
       simp only [List.getElem_cons_succ,this]
       omega
   · rw [if_neg ha]
     rcases h with _|h
     · exact ⟨fun e=>absurd e ha,fun e=>by omega⟩
     · constructor
       · intro e
         have hm:key a<key ((a::t)[h+1]'hh):=h1 _ (by simp)
         exact absurd (List.lt_trans hm e) ha
       · intro e;omega
theorem SZ {α:Type} {key:α→List UInt8} {k:List UInt8} {l:List α} (hr:jS key l):(l.any fun a=>decide (key a=k))=match l[dK key l k]? with
   | some a=>decide (key a=k)
   | none=>false:=by
 cases h:l[dK key l k]? with
 | none =>
   simp only [List.any_eq_false,decide_eq_true_eq]
   exact wX hr (fun a ha=>by rw [h] at ha;cases ha)
 | some a =>
   simp only
   by_cases he:key a=k
   · rw [decide_eq_true he,List.any_eq_true]
     exact ⟨a,List.mem_of_getElem? h,by simpa using he⟩
   · rw [decide_eq_false he]
     simp only [List.any_eq_false,decide_eq_true_eq]
     exact wX hr (fun b hb=>by rw [h] at hb;cases hb;exact he)
theorem S9 {syn:Int} {single:Bool} {l:List (List UInt8)} {v:List UInt8} {vs:List (List UInt8)} (h0:(dx syn single l (v::vs)).2=0) :
   (bU syn v).isSome=true∧inM syn l (dj syn v)=false∧dx syn single l (v::vs)=dx syn single (eM syn v false l) vs:=by
 rw [dx] at h0 ⊢
 rcases hv:bU syn v with _|n
 · rw [hv] at h0;cases h0
 · rw [hv] at h0
   simp only at h0 ⊢
   have hk:dj syn v=n:=by simp [dj,hv]
   split
   · rename_i hc;rw [if_pos hc] at h0;cases h0
   · rename_i hc
     exact ⟨rfl,by rw [hk];simpa using hc,rfl⟩
theorem Uf {syn:Int} {v:List UInt8} {l:List (List UInt8)} (h:inM syn l (dj syn v)=false):(eM syn v false l).length=l.length+1:=by
 rw [Mo syn v l h,(Pl _ _ _).length_eq,List.length_cons]
theorem No {syn:Int} {single:Bool}:∀ {vs l:List (List UInt8)},(dx syn single l vs).2=0→(dx syn single l vs).1.length=l.length+vs.length
 | [],l,h0=>by
   rw [dx] at h0 ⊢
   split
   · rename_i hc;rw [if_pos hc] at h0;cases h0
   · rfl
 | v::vs,l,h0=>by
   obtain ⟨h1,h2,h3⟩:=S9 h0
   rw [h3] at h0 ⊢
   rw [No h0,Uf h2,List.length_cons];omega
theorem Uc (ts:List Typ):InA ts []:=⟨List.Pairwise.nil,fun a ha=>by cases ha⟩
end Go.Proofs.YtkkgmgmgcgiffaaGreatDoor.Av
