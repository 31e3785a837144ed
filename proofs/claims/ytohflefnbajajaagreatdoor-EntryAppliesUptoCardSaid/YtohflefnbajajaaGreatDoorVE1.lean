/- Joined texts of the walk, made small by a program. -/
import Derived.Test.YtohflefnbajajaaGreatDoorVS1
import Derived.Test.YtohflefnbajajaaGreatDoorVO1
set_option linter.unusedSimpArgs false
set_option linter.unusedVariables false
namespace Go.Proofs.YtohflefnbajajaaGreatDoor.Av
open Go
set_option maxHeartbeats 8000000
set_option maxRecDepth 100000
abbrev Atr:=List UInt8×List (List UInt8)
abbrev Typ:=List UInt8×Int×Bool×Bool
def eB:List Atr→List UInt8→List (List UInt8)
 | [],_=>[]
 | a::t,n=>if ae a.1=ae n then a.2 else eB t n
def fp (n:List UInt8) (vs:List (List UInt8)):Bool→List Atr→List Atr
 | done,[]=>if done=true then [] else [(n,vs)]
 | done,a::t=>(if done=false∧¬ ae a.1<ae n then [(n,vs)] else [])++(if ae n≠ae a.1 then [a] else [])++fp n vs (done || !decide (ae a.1<ae n)) t
def cx (syn:Int) (v:List UInt8):List UInt8:=(eT syn v).getD []
def inM (syn:Int) (l:List (List UInt8)) (n:List UInt8):Bool:=l.any fun v=>decide (cx syn v=n)
def eU (syn:Int) (v:List UInt8):Bool→List (List UInt8)→List (List UInt8)
 | done,[]=>if done=true then [] else [v]
 | done,x::t=>(if done=false∧cx syn v<cx syn x then [v] else [])++x::eU syn v (done || decide (cx syn v<cx syn x)) t
def dp (syn:Int) (single:Bool):List (List UInt8)→List (List UInt8)→List (List UInt8)×Int
 | l,[]=>if single=true∧1<l.length then ([],19) else (l,0)
 | l,v::vs=>match eT syn v with
   | none=>([],21)
   | some n=>if inM syn l n=true then ([],20) else dp syn single (eU syn v false l) vs
def gq (ts:List Typ) (n:List UInt8):Option Typ:=ts.find? fun t=>decide (ae t.1=ae n)
def wV (ts:List Typ):List Atr→List Atr→List Atr×Int
 | out,[]=>(out,0)
 | out,a::t=>match gq ts a.1 with
   | none=>([],17)
   | some ty=>if a.2=[] then ([],19) else
     if (dp ty.2.1 ty.2.2.1 (eB out a.1) a.2).2≠0 then ([],(dp ty.2.1 ty.2.2.1 (eB out a.1) a.2).2)
     else wV ts (fp ty.1 (dp ty.2.1 ty.2.2.1 (eB out a.1) a.2).1 (dp ty.2.1 ty.2.2.1 (eB out a.1) a.2).1.isEmpty out) t
def aaI (syn:Int):List (List UInt8)→List (List UInt8)→List (List UInt8)×Int
 | l,[]=>(l,0)
 | l,v::vs=>match eT syn v with
   | none=>([],21)
   | some n=>if inM syn l n=false then ([],16) else aaI syn (l.filter fun x=>decide (cx syn x≠n)) vs
abbrev Mdf:=Int×List UInt8×List (List UInt8)
def ZW (ts:List Typ) (l:List Atr) (m:Mdf):List Atr×Int :=
 if m.1<0∨2<m.1 then ([],2) else match gq ts m.2.1 with
   | none=>([],17)
   | some ty=>if m.1=1 then
       (if m.2.2 = [] ∧ eB l m.2.1 = [] then ([], 16)
        else if (aaI ty.2.1 (eB l m.2.1) m.2.2).2≠0 then ([],(aaI ty.2.1 (eB l m.2.1) m.2.2).2)
        else (fp ty.1 (if m.2.2=[] then [] else (aaI ty.2.1 (eB l m.2.1) m.2.2).1) (if m.2.2=[] then true else (aaI ty.2.1 (eB l m.2.1) m.2.2).1.isEmpty) l,0))
     else if m.1=0∧m.2.2=[] then ([],2)
     else if (dp ty.2.1 ty.2.2.1 (if m.1=2 then [] else eB l m.2.1) m.2.2).2≠0 then ([],(dp ty.2.1 ty.2.2.1 (if m.1=2 then [] else eB l m.2.1) m.2.2).2)
     else (fp ty.1 (dp ty.2.1 ty.2.2.1 (if m.1=2 then [] else eB l m.2.1) m.2.2).1 (dp ty.2.1 ty.2.2.1 (if m.1=2 then [] else eB l m.2.1) m.2.2).1.isEmpty l,0)
def aby (ts:List Typ):List Atr→List Mdf→List Atr×Int
 | l,[]=>(l,0)
 | l,m::ms=>if (ZW ts l m).2≠0 then ([],(ZW ts l m).2) else aby ts (ZW ts l m).1 ms
section
variable {α:Type} (key:α→List UInt8)
def dt (l:List α) (k:List UInt8):Nat:=(l.takeWhile fun a=>decide (key a<k)).length
def fT (l:List α):Prop:=l.Pairwise fun a b=>key a<key b
theorem xF (l:List α) (k:List UInt8):dt key l k≤l.length:=by
 unfold dt
 exact (List.takeWhile_sublist _).length_le
theorem i7 (a:α) (l:List α) (k:List UInt8):dt key (a::l) k=if key a<k then dt key l k+1 else 0:=by
 unfold dt
 rw [List.takeWhile_cons]
 by_cases h:key a<k
 · simp [h]
 · simp [h]
end
theorem Ab (syn:Int) (v:List UInt8):∀ l,eU syn v true l=l
 | []=>rfl
 | x::t=>by rw [eU,if_neg (by simp)];simp [Ab syn v t]
theorem Ck (syn:Int) (v:List UInt8):∀ l:List (List UInt8),inM syn l (cx syn v)=false→eU syn v false l=l.take (dt (cx syn) l (cx syn v))++v::l.drop (dt (cx syn) l (cx syn v))
 | [],_=>rfl
 | x::t,h=>by
   simp only [inM,List.any_cons,Bool.or_eq_false_iff,decide_eq_false_iff_not] at h
   rw [eU,i7]
   by_cases hx:cx syn x<cx syn v
   · have hx2:¬ cx syn v<cx syn x:=fun e=>List.lt_irrefl _ (List.lt_trans e hx)
     rw [if_pos hx,if_neg (fun e=>hx2 e.2),decide_eq_false hx2]
     simp only [Bool.or_false,List.nil_append,List.take_succ_cons,List.drop_succ_cons,List.cons_append]
     rw [Ck syn v t (by simpa [inM] using h.2)]
   · have hx2:cx syn v<cx syn x:=by
       rcases List.le_iff_lt_or_eq.1 (List.not_lt.1 hx) with e|e
       · exact e
       · exact absurd e.symm h.1
     rw [if_neg hx,if_pos ⟨rfl,hx2⟩,decide_eq_true hx2]
     simp [Ab]
abbrev ch (a:Atr):List UInt8:=ae a.1
theorem HB (n:List UInt8):∀ l:List Atr,fT ch l→eB l n=match l[dt ch l (ae n)]? with
   | some a=>if ae a.1=ae n then a.2 else []
   | none=>[]
 | [],_=>rfl
 | a::t,h=>by
   obtain ⟨h1,h2⟩:=List.pairwise_cons.1 h
   rw [eB,i7]
   by_cases hx:ch a<ae n
   · have hne:¬ ae a.1=ae n:=fun e=>by
       rw [show ch a=ae a.1 from rfl,e] at hx
       exact List.lt_irrefl _ hx
     rw [if_pos hx,if_neg hne,HB n t h2,List.getElem?_cons_succ]
   · rw [if_neg hx,List.getElem?_cons_zero]
     simp only
     by_cases he:ae a.1=ae n
     · rw [if_pos he,if_pos he]
     · rw [if_neg he,if_neg he]
       have hlt:ae n<ch a:=by
         rcases List.le_iff_lt_or_eq.1 (List.not_lt.1 hx) with e|e
         · exact e
         · exact absurd e.symm he
       have hno:∀ u:List Atr,(∀ b∈u,ch a<ch b)→eB u n=[]:=fun u=>by
         induction u with
         | nil=>intro _;rfl
         | cons b u ih =>
           intro hb
           rw [eB,if_neg,ih (fun c hc=>hb c (by simp [hc]))]
           intro e
           have h3:=List.lt_trans hlt (hb b (by simp))
           rw [show ch b=ae b.1 from rfl,e] at h3
           exact List.lt_irrefl _ h3
       exact hno t h1
theorem GY (n:List UInt8) (vs:List (List UInt8)):∀ l:List Atr,(∀ a∈l,ae n≠ae a.1)→fp n vs true l=l
 | [],_=>rfl
 | a::t,h=>by
   rw [fp,if_neg (by simp),if_pos (h a (by simp)),Bool.true_or,GY n vs t (fun b hb=>h b (by simp [hb]))]
   rfl
theorem EL (n:List UInt8) (vs:List (List UInt8)):∀ l:List Atr,fT ch l→fp n vs false l=match l[dt ch l (ae n)]? with
   | some a=>if ae a.1=ae n then l.set (dt ch l (ae n)) (n,vs) else l.take (dt ch l (ae n))++(n,vs)::l.drop (dt ch l (ae n))
   | none=>l++[(n,vs)]
 | [],_=>rfl
 | a::t,h=>by
   obtain ⟨h1,h2⟩:=List.pairwise_cons.1 h
   rw [fp,i7]
   by_cases hx:ch a<ae n
   · have hx2:ae a.1<ae n:=hx
     have hne:ae n≠ae a.1:=fun e=>by
       rw [e] at hx2
       exact List.lt_irrefl _ hx2
     rw [if_pos hx,if_neg (fun e=>e.2 hx2),if_pos hne,decide_eq_true hx2,List.getElem?_cons_succ]
     simp only [Bool.not_true,Bool.or_false,List.nil_append,List.set_cons_succ,List.take_succ_cons,List.drop_succ_cons,List.cons_append]
     rw [EL n vs t h2]
     rcases t[dt ch t (ae n)]? with _|b
     · rfl
     · simp only
       split<;>rfl
   · have hx2:¬ ae a.1<ae n:=hx
     rw [if_neg hx,if_pos ⟨rfl,hx2⟩,decide_eq_false hx2,List.getElem?_cons_zero]
     have hge:∀ b∈t,ae n≠ae b.1:=fun b hb e=>by
       have h3:ae a.1<ae b.1:=h1 b hb
       rw [← e] at h3
       exact hx2 h3
     simp only [Bool.not_false,Bool.or_true,List.set_cons_zero,List.take_zero,List.drop_zero,List.nil_append,List.cons_append]
     rw [GY n vs t hge]
     by_cases he:ae a.1=ae n
     · rw [if_pos he,if_neg (fun q=>q he.symm)];rfl
     · rw [if_neg he,if_pos (fun q=>he q.symm)];rfl
theorem Fu {α:Type} (l:List α) (c:Nat) (v:α):(l.take c++v::l.drop c).Perm (v::l):=by
 refine List.perm_middle.trans ?_
 rw [List.take_append_drop]
theorem oK {α:Type} {l:List α} {c:Nat} {v b:α}:b∈l.take c++v::l.drop c↔b=v∨b∈l:=by
 rw [(Fu l c v).mem_iff,List.mem_cons]
theorem oa {α:Type} {key:α→List UInt8} {v:α}:∀ {l:List α},fT key l→(∀ x∈l,key x≠key v)→fT key (l.take (dt key l (key v))++v::l.drop (dt key l (key v)))
 | [],_,_=>by simp [fT]
 | a::t,h,hn=>by
   obtain ⟨h1,h2⟩:=List.pairwise_cons.1 h
   rw [i7]
   by_cases hx:key a<key v
   · rw [if_pos hx]
     simp only [List.take_succ_cons,List.drop_succ_cons,List.cons_append]
     refine List.pairwise_cons.2 ⟨fun b hb=>?_,oa h2 fun x hxx=>hn x (by simp [hxx])⟩
     rcases oK.1 hb with rfl|hb
     · exact hx
     · exact h1 b hb
   · rw [if_neg hx]
     have hlt:key v<key a:=by
       rcases List.le_iff_lt_or_eq.1 (List.not_lt.1 hx) with e|e
       · exact e
       · exact absurd e.symm (hn a (by simp))
     simp only [List.take_zero,List.drop_zero,List.nil_append]
     refine List.pairwise_cons.2 ⟨fun b hb=>?_,h⟩
     rcases List.mem_cons.1 hb with rfl|hb
     · exact hlt
     · exact List.lt_trans hlt (h1 b hb)
theorem GR {ts:List Typ} {n m:List UInt8} (h:ae n=ae m):gq ts n=gq ts m:=by
 unfold gq;rw [h]
def InV (syn:Int) (l:List (List UInt8)):Prop:=fT (cx syn) l∧∀ v∈l,(eT syn v).isSome=true
theorem Lb {syn:Int} {single:Bool}:∀ {vs l:List (List UInt8)},InV syn l→(dp syn single l vs).2=0→InV syn (dp syn single l vs).1
 | [],l,h,h0=>by
   rw [dp] at h0 ⊢
   split
   · rename_i hc
     rw [if_pos hc] at h0;cases h0
   · exact h
 | v::vs,l,h,h0=>by
   rw [dp] at h0 ⊢
   rcases hv:eT syn v with _|n
   · rw [hv] at h0;cases h0
   · rw [hv] at h0
     simp only at h0 ⊢
     split
     · rename_i hc
       rw [if_pos hc] at h0;cases h0
     · rename_i hc
       rw [if_neg hc] at h0
       have hk:cx syn v=n:=by simp [cx,hv]
       have hin:inM syn l (cx syn v)=false:=by rw [hk];simpa using hc
       refine Lb ?_ h0
       rw [Ck syn v l hin]
       refine ⟨oa h.1 fun x hx e=>?_,fun x hx=>?_⟩
       · simp only [inM,List.any_eq_false,decide_eq_true_eq] at hin
         exact hin x hx e
       · rcases oK.1 hx with rfl|hx
         · rw [hv];rfl
         · exact h.2 x hx
def InA (ts:List Typ) (l:List Atr):Prop:=fT ch l∧∀ a∈l,∃ ty,gq ts a.1=some ty∧ty.1=a.1∧a.2≠[]∧InV ty.2.1 a.2∧(ty.2.2.1=true→a.2.length≤1)
theorem QP {ts:List Typ} {l:List Atr} {n:List UInt8} {ty:Typ} (h:InA ts l) (ht:gq ts n=some ty):InV ty.2.1 (eB l n):=by
 rw [HB n l h.1]
 rcases hg:l[dt ch l (ae n)]? with _|a
 · exact ⟨List.Pairwise.nil,fun v hv=>by cases hv⟩
 · simp only
   split
   · rename_i he
     obtain ⟨ty',h1,_,_,h4,_⟩:=h.2 a (List.mem_of_getElem? hg)
     rw [GR he,ht] at h1
     cases h1
     exact h4
   · exact ⟨List.Pairwise.nil,fun v hv=>by cases hv⟩
theorem tj {α:Type} {key:α→List UInt8} {k:List UInt8}:∀ {l:List α},fT key l→(∀ a,l[dt key l k]?=some a→key a≠k)→∀ x∈l,key x≠k
 | [],_,_,_,hx=>by cases hx
 | a::t,h,hc,x,hx=>by
   obtain ⟨h1,h2⟩:=List.pairwise_cons.1 h
   rw [i7] at hc
   by_cases ha:key a<k
   · rw [if_pos ha] at hc
     rcases List.mem_cons.1 hx with rfl|hx
     · intro e
       rw [e] at ha
       exact List.lt_irrefl _ ha
     · exact tj h2 (fun b hb=>hc b (by simpa using hb)) x hx
   · rw [if_neg ha] at hc
     have hne:=hc a (by simp)
     have hlt:k<key a:=by
       rcases List.le_iff_lt_or_eq.1 (List.not_lt.1 ha) with e|e
       · exact e
       · exact absurd e.symm hne
     rcases List.mem_cons.1 hx with rfl|hx
     · exact hne
     · intro e
       have:=List.lt_trans hlt (h1 x hx)
       rw [e] at this
       exact List.lt_irrefl _ this
theorem Ly {α:Type} {key:α→List UInt8} {l:List α} {c:Nat} {a x:α} (h:fT key l) (hc:l[c]?=some a) (hk:key x=key a):fT key (l.set c x):=by
 have e:(l.set c x).map key=l.map key:=by
   rw [List.map_set,hk]
   obtain ⟨hlt,rfl⟩:=List.getElem?_eq_some_iff.1 hc
   rw [← List.getElem_map (f:=key) (h:=by simpa using hlt),List.set_getElem_self]
 have h2:(l.map key).Pairwise (· < ·):=List.pairwise_map.2 h
 rw [← e] at h2
 exact List.pairwise_map.1 h2
theorem Q4 {ts:List Typ} {l:List Atr} {n:List UInt8} {vs:List (List UInt8)} {ty:Typ} (h:InA ts l) (ht:gq ts n=some ty) (hn:ty.1=n) (hv:vs≠[]) (hi:InV ty.2.1 vs) (h1:ty.2.2.1=true→vs.length≤1):InA ts (fp n vs false l):=by
 have hnew:∃ ty',gq ts n=some ty'∧ty'.1=n∧vs≠[]∧InV ty'.2.1 vs∧(ty'.2.2.1=true→vs.length≤1):=⟨ty,ht,hn,hv,hi,h1⟩
 rw [EL n vs l h.1]
 rcases hg:l[dt ch l (ae n)]? with _|a
 · simp only
   have hno:=tj (k:=ae n) h.1 (fun a ha=>by rw [hg] at ha;cases ha)
   have hc:dt ch l (ae n)=l.length:=Nat.le_antisymm (xF _ _ _) (List.getElem?_eq_none_iff.1 hg)
   have e:l++[(n,vs)]=l.take (dt ch l (ch (n,vs)))++(n,vs)::l.drop (dt ch l (ch (n,vs))):=by
     rw [show ch (n,vs)=ae n from rfl,hc,List.take_length,List.drop_length]
   rw [e]
   refine ⟨oa h.1 hno,fun b hb=>?_⟩
   rcases oK.1 hb with rfl|hb
   · exact hnew
   · exact h.2 b hb
 · simp only
   split
   · rename_i he
     refine ⟨Ly h.1 hg he.symm,fun b hb=>?_⟩
     rcases List.mem_or_eq_of_mem_set hb with hb|rfl
     · exact h.2 b hb
     · exact hnew
   · rename_i he
     have hno:=tj (k:=ae n) h.1 (fun b hb=>by rw [hg] at hb;cases hb;exact he)
     refine ⟨oa (key:=ch) (v:=(n,vs)) h.1 hno,fun b hb=>?_⟩
     rcases oK.1 hb with rfl|hb
     · exact hnew
     · exact h.2 b hb
theorem OV (syn:Int) (v:List UInt8) (l:List (List UInt8)):eU syn v false l≠[]:=by
 rcases l with _|⟨x,t⟩
 · simp [eU]
 · simp [eU]
theorem La {syn:Int} {single:Bool}:∀ {vs l:List (List UInt8)},l≠[]∨vs≠[]→(dp syn single l vs).2=0→(dp syn single l vs).1≠[]
 | [],l,h,h0=>by
   rw [dp] at h0 ⊢
   split
   · rename_i hc;rw [if_pos hc] at h0;cases h0
   · rcases h with h|h
     · exact h
     · exact absurd rfl h
 | v::vs,l,h,h0=>by
   rw [dp] at h0 ⊢
   rcases hv:eT syn v with _|n
   · rw [hv] at h0;cases h0
   · rw [hv] at h0
     simp only at h0 ⊢
     split
     · rename_i hc;rw [if_pos hc] at h0;cases h0
     · rename_i hc
       rw [if_neg hc] at h0
       exact La (.inl (OV syn v l)) h0
theorem Ei {syn:Int} {single:Bool}:∀ {vs l:List (List UInt8)},(dp syn single l vs).2=0→single=true→(dp syn single l vs).1.length≤1
 | [],l,h0,hs=>by
   rw [dp] at h0 ⊢
   split
   · rename_i hc;rw [if_pos hc] at h0;cases h0
   · rename_i hc
     have:¬ 1<l.length:=fun e=>hc ⟨hs,e⟩
     simp only;omega
 | v::vs,l,h0,hs=>by
   rw [dp] at h0 ⊢
   rcases hv:eT syn v with _|n
   · rw [hv] at h0;cases h0
   · rw [hv] at h0
     simp only at h0 ⊢
     split
     · rename_i hc;rw [if_pos hc] at h0;cases h0
     · rename_i hc
       rw [if_neg hc] at h0
       exact Ei h0 hs
theorem CO {ts:List Typ} {n:List UInt8} {ty:Typ} (h:gq ts n=some ty):ty∈ts∧ae ty.1=ae n:=by
 unfold gq at h
 exact ⟨List.mem_of_find?_eq_some h,by simpa using List.find?_some h⟩
theorem aad {ts:List Typ}:∀ {l out:List Atr},InA ts out→(wV ts out l).2=0→InA ts (wV ts out l).1
 | [],out,h,_=>h
 | a::t,out,h,h0=>by
   rw [wV] at h0 ⊢
   rcases ht:gq ts a.1 with _|ty
   · rw [ht] at h0;cases h0
   · rw [ht] at h0
     simp only at h0 ⊢
     split
     · rename_i hc;rw [if_pos hc] at h0;cases h0
     · rename_i hc
       rw [if_neg hc] at h0
       split
       · rename_i hd;rw [if_pos hd] at h0;exact absurd h0 hd
       · rename_i hd
         rw [if_neg hd] at h0
         simp only [ne_eq,Decidable.not_not] at hd
         have hne:=La (l:=eB out a.1) (.inr hc) hd
         have hem:(dp ty.2.1 ty.2.2.1 (eB out a.1) a.2).1.isEmpty=false:=by simpa using hne
         rw [hem] at h0 ⊢
         have hts:=CO ht
         exact aad (Q4 h (by rw [GR hts.2];exact ht) rfl hne (Lb (QP h ht) hd) (Ei hd)) h0
set_option maxHeartbeats 8000000
set_option maxRecDepth 100000
theorem Kv {α:Type} {key:α→List UInt8} {k:List UInt8}:∀ {l:List α},fT key l→∀ (h:Nat) (hh:h<l.length),(key l[h]<k↔h<dt key l k)
 | a::t,hr,h,hh=>by
   obtain ⟨h1,h2⟩:=List.pairwise_cons.1 hr
   rw [i7]
   by_cases ha:key a<k
   · rw [if_pos ha]
     rcases h with _|h
     · exact ⟨fun _=>by omega,fun _=>ha⟩
     · have:=Kv (k:=k) h2 h (by simpa using hh)
       simp only [List.getElem_cons_succ,this]
       omega
   · rw [if_neg ha]
     rcases h with _|h
     · exact ⟨fun e=>absurd e ha,fun e=>by omega⟩
     · constructor
       · intro e
         have hm:key a<key ((a::t)[h+1]'hh):=h1 _ (by simp)
         exact absurd (List.lt_trans hm e) ha
       · intro e;omega
theorem Mk {α:Type} {key:α→List UInt8} {k:List UInt8} {l:List α} (hr:fT key l):(l.any fun a=>decide (key a=k))=match l[dt key l k]? with
   | some a=>decide (key a=k)
   | none=>false:=by
 cases h:l[dt key l k]? with
 | none =>
   simp only [List.any_eq_false,decide_eq_true_eq]
   exact tj hr (fun a ha=>by rw [h] at ha;cases ha)
 | some a =>
   simp only
   by_cases he:key a=k
   · rw [decide_eq_true he,List.any_eq_true]
     exact ⟨a,List.mem_of_getElem? h,by simpa using he⟩
   · rw [decide_eq_false he]
     simp only [List.any_eq_false,decide_eq_true_eq]
     exact tj hr (fun b hb=>by rw [h] at hb;cases hb;exact he)
theorem VU {n:List UInt8}:∀ {l:List Atr},(∀ a∈l,ae a.1≠ae n)→eB l n=[]
 | [],_=>rfl
 | a::t,h=>by rw [eB,if_neg (h a (by simp)),VU fun b hb=>h b (by simp [hb])]
set_option maxHeartbeats 8000000
set_option maxRecDepth 100000
theorem Mz {syn:Int} {single:Bool} {l:List (List UInt8)} {v:List UInt8} {vs:List (List UInt8)} (h0:(dp syn single l (v::vs)).2=0) :
   (eT syn v).isSome=true∧inM syn l (cx syn v)=false∧dp syn single l (v::vs)=dp syn single (eU syn v false l) vs:=by
 rw [dp] at h0 ⊢
 rcases hv:eT syn v with _|n
 · rw [hv] at h0;cases h0
 · rw [hv] at h0
   simp only at h0 ⊢
   have hk:cx syn v=n:=by simp [cx,hv]
   split
   · rename_i hc;rw [if_pos hc] at h0;cases h0
   · rename_i hc
     exact ⟨rfl,by rw [hk];simpa using hc,rfl⟩
theorem OU {syn:Int} {v:List UInt8} {l:List (List UInt8)} (h:inM syn l (cx syn v)=false):(eU syn v false l).length=l.length+1:=by
 rw [Ck syn v l h,(Fu _ _ _).length_eq,List.length_cons]
theorem CL {syn:Int} {single:Bool}:∀ {vs l:List (List UInt8)},(dp syn single l vs).2=0→(dp syn single l vs).1.length=l.length+vs.length
 | [],l,h0=>by
   rw [dp] at h0 ⊢
   split
   · rename_i hc;rw [if_pos hc] at h0;cases h0
   · rfl
 | v::vs,l,h0=>by
   obtain ⟨h1,h2,h3⟩:=Mz h0
   rw [h3] at h0 ⊢
   rw [CL h0,OU h2,List.length_cons];omega
theorem Im {n m:List UInt8} (h:ae n=ae m):∀ l:List Atr,eB l n=eB l m
 | []=>rfl
 | a::t=>by rw [eB,eB,h,Im h t]
theorem GZ (n:List UInt8):∀ l:List Atr,fp n [] true l=l.filter fun a=>decide (ae a.1≠ae n)
 | []=>rfl
 | a::t=>by
   rw [fp,if_neg (by simp),Bool.true_or,GZ n t]
   by_cases h:ae a.1=ae n
   · rw [if_neg (fun e=>e h.symm),List.filter_cons_of_neg (by simp [h])];rfl
   · rw [if_pos (fun e=>h e.symm),List.filter_cons_of_pos (by simp [h])];rfl
set_option maxHeartbeats 8000000
set_option maxRecDepth 100000
theorem aaB {α:Type} {key:α→List UInt8} {k:List UInt8}:∀ {l:List α},fT key l→∀ a,l[dt key l k]?=some a→key a=k→l.filter (fun x=>decide (key x≠k))=l.eraseIdx (dt key l k)
 | b::t,h,a,hg,he=>by
   obtain ⟨h1,h2⟩:=List.pairwise_cons.1 h
   rw [i7] at hg ⊢
   by_cases hb:key b<k
   · have hne:key b≠k:=fun e=>by rw [e] at hb;exact List.lt_irrefl _ hb
     rw [if_pos hb] at hg ⊢
     rw [List.filter_cons_of_pos (by simpa using hne),List.eraseIdx_cons_succ,aaB h2 a (by simpa using hg) he]
   · rw [if_neg hb] at hg ⊢
     have hba:b=a:=by simpa using hg
     subst hba
     rw [List.filter_cons_of_neg (by simp [he]),List.eraseIdx_cons_zero,List.filter_eq_self]
     intro x hx
     have:=h1 x hx
     simp only [decide_eq_true_eq]
     intro e
     rw [e,he] at this
     exact List.lt_irrefl _ this
theorem aaC {α:Type} {key:α→List UInt8} {k:List UInt8}:∀ {l:List α},fT key l→∀ a,l[dt key l k]?=some a→dt key (l.eraseIdx (dt key l k)) k=dt key l k
 | b::t,h,a,hg=>by
   obtain ⟨h1,h2⟩:=List.pairwise_cons.1 h
   rw [i7] at hg ⊢
   by_cases hb:key b<k
   · rw [if_pos hb] at hg ⊢
     rw [List.eraseIdx_cons_succ,i7,if_pos hb,aaC h2 a (by simpa using hg)]
   · rw [if_neg hb,List.eraseIdx_cons_zero]
     rcases t with _|⟨c,t⟩
     · rfl
     · rw [i7,if_neg]
       intro e
       exact hb (List.lt_trans (h1 c (by simp)) e)
theorem ZQ {α:Type} {x:α}:∀ {l:List α} {c:Nat},c<l.length→(l.eraseIdx c).take c++x::(l.eraseIdx c).drop c=l.set c x
 | b::t,0,_=>by simp
 | b::t,c+1,h=>by
   rw [List.eraseIdx_cons_succ,List.take_succ_cons,List.drop_succ_cons,List.set_cons_succ,List.cons_append,ZQ (by simpa using h)]
theorem aaG {syn:Int}:∀ {vs l:List (List UInt8)},InV syn l→(aaI syn l vs).2=0→InV syn (aaI syn l vs).1∧(aaI syn l vs).1.length≤l.length
 | [],l,h,_=>⟨h,Nat.le_refl _⟩
 | v::vs,l,h,h0=>by
   rw [aaI] at h0 ⊢
   rcases hv:eT syn v with _|n
   · rw [hv] at h0;cases h0
   · rw [hv] at h0
     simp only at h0 ⊢
     split
     · rename_i hc;rw [if_pos hc] at h0;cases h0
     · rename_i hc
       rw [if_neg hc] at h0
       obtain ⟨h1,h2⟩:=aaG (l:=l.filter fun x=>decide (cx syn x≠n)) ⟨h.1.filter _,fun x hx=>h.2 x (List.mem_filter.1 hx).1⟩ h0
       exact ⟨h1,Nat.le_trans h2 (List.length_filter_le _ _)⟩
theorem aat {ts:List Typ} {l:List Atr} (n:List UInt8) (h:InA ts l):InA ts (fp n [] true l):=by
 rw [GZ]
 exact ⟨h.1.filter _,fun a ha=>h.2 a (List.mem_filter.1 ha).1⟩
theorem VV {ts:List Typ} {l:List Atr} {n:List UInt8} {ty:Typ} (h:InA ts l) (ht:gq ts n=some ty) (hs:ty.2.2.1=true):(eB l n).length≤1:=by
 rw [HB n l h.1]
 rcases hg:l[dt ch l (ae n)]? with _|a
 · simp
 · simp only
   split
   · rename_i he
     obtain ⟨ty',h1,_,_,_,h5⟩:=h.2 a (List.mem_of_getElem? hg)
     rw [GR he,ht] at h1
     cases h1
     exact h5 hs
   · simp
theorem ZP {ts:List Typ} {l:List Atr} {n:List UInt8} {ty:Typ} {vs:List (List UInt8)} (h:InA ts l) (ht:gq ts n=some ty) (hi:InV ty.2.1 vs) (h1:ty.2.2.1=true→vs.length≤1):InA ts (fp ty.1 vs vs.isEmpty l):=by
 rcases vs with _|⟨v,vs⟩
 · exact aat ty.1 h
 · exact Q4 h (by rw [GR (CO ht).2];exact ht) rfl (by simp) hi h1
theorem ZV {ts:List Typ} {l:List Atr} {m:Mdf} (h:InA ts l) (h0:(ZW ts l m).2=0):InA ts (ZW ts l m).1:=by
 unfold ZW at h0 ⊢
 split
 · rename_i hc;rw [if_pos hc] at h0;cases h0
 rename_i hc
 rw [if_neg hc] at h0
 rcases ht:gq ts m.2.1 with _|ty
 · rw [ht] at h0;cases h0
 rw [ht] at h0
 simp only at h0 ⊢
 have hval:=QP h ht
 have hsin:=VV h ht
 split
 · rename_i h1
   rw [if_pos h1] at h0
   split
   · rename_i hd;rw [if_pos hd] at h0;cases h0
   rename_i hd
   rw [if_neg hd] at h0
   split
   · rename_i hd2;rw [if_pos hd2] at h0;exact absurd h0 hd2
   rename_i hd2
   simp only [ne_eq,Decidable.not_not] at hd2
   obtain ⟨h3,h4⟩:=aaG hval hd2
   split
   · exact aat ty.1 h
   · exact ZP h ht h3 (fun hs=>Nat.le_trans h4 (hsin hs))
 · rename_i h1
   rw [if_neg h1] at h0
   split
   · rename_i hd;rw [if_pos hd] at h0;cases h0
   rename_i hd
   rw [if_neg hd] at h0
   obtain ⟨was,hwas⟩:∃ w,(if m.1=2 then [] else eB l m.2.1)=w:=⟨_,rfl⟩
   have hw:InV ty.2.1 was:=by
     rw [← hwas]
     split
     · exact ⟨List.Pairwise.nil,fun v hv=>by cases hv⟩
     · exact hval
   rw [hwas] at h0 ⊢
   split
   · rename_i hd2;rw [if_pos hd2] at h0;exact absurd h0 hd2
   rename_i hd2
   simp only [ne_eq,Decidable.not_not] at hd2
   exact ZP h ht (Lb hw hd2) (Ei hd2)
set_option maxHeartbeats 8000000
set_option maxRecDepth 100000
theorem Z4 (ts:List Typ):InA ts []:=⟨List.Pairwise.nil,fun a ha=>by cases ha⟩
end Go.Proofs.YtohflefnbajajaaGreatDoor.Av
