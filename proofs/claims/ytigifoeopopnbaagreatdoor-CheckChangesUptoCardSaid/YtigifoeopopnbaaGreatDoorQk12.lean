/- Joined texts of the walk, made small by a program. -/
import Derived.Test.YtigifoeopopnbaaGreatDoorQk11
import Derived.Test.YtigifoeopopnbaaGreatDoorQk8
set_option linter.unusedSimpArgs false
set_option linter.unusedVariables false
namespace Go.Proofs.YtigifoeopopnbaaGreatDoor.Av
open Go
set_option maxHeartbeats 8000000
set_option maxRecDepth 100000
abbrev Typ:=List UInt8×Int×Bool×Bool
def bu:List Atr->List UInt8->List (List UInt8)
 | [],_=>[]
 | a::t,n=>if aa a.1=aa n then a.2 else bu t n
def fp (n:List UInt8) (vs:List (List UInt8)):Bool->List Atr->List Atr
 | done,[]=>if done=true then [] else [(n,vs)]
 | done,a::t=>(if done=false/\¬ aa a.1<aa n then [(n,vs)] else [])++(if aa n≠aa a.1 then [a] else [])++fp n vs (done || !decide (aa a.1<aa n)) t
def bP (syn:Int) (v:List UInt8):List UInt8:=(ci syn v).getD []
def inM (syn:Int) (l:List (List UInt8)) (n:List UInt8):Bool:=l.any fun v=>decide (bP syn v=n)
def gy (syn:Int) (v:List UInt8):Bool->List (List UInt8)->List (List UInt8)
 | done,[]=>if done=true then [] else [v]
 | done,x::t=>(if done=false/\bP syn v<bP syn x then [v] else [])++x::gy syn v (done || decide (bP syn v<bP syn x)) t
def ek (syn:Int) (single:Bool):List (List UInt8)->List (List UInt8)->List (List UInt8)×Int
 | l,[]=>if single=true/\1<l.length then ([],19) else (l,0)
 | l,v::vs=>match ci syn v with
   | none=>([],21)
   | some n=>if inM syn l n=true then ([],20) else ek syn single (gy syn v false l) vs
def ef (ts:List Typ) (n:List UInt8):Option Typ:=ts.find? fun t=>decide (aa t.1=aa n)
def Ld (ts:List Typ):List Atr->List Atr->List Atr×Int
 | out,[]=>(out,0)
 | out,a::t=>match ef ts a.1 with
   | none=>([],17)
   | some ty=>if a.2=[] then ([],19) else
     if (ek ty.2.1 ty.2.2.1 (bu out a.1) a.2).2≠0 then ([],(ek ty.2.1 ty.2.2.1 (bu out a.1) a.2).2)
     else Ld ts (fp ty.1 (ek ty.2.1 ty.2.2.1 (bu out a.1) a.2).1 (ek ty.2.1 ty.2.2.1 (bu out a.1) a.2).1.isEmpty out) t
def hG (syn:Int):List (List UInt8)->List (List UInt8)->List (List UInt8)×Int
 | l,[]=>(l,0)
 | l,v::vs=>match ci syn v with
   | none=>([],21)
   | some n=>if inM syn l n=false then ([],16) else hG syn (l.filter fun x=>decide (bP syn x≠n)) vs
abbrev Mdf:=Int×List UInt8×List (List UInt8)
def Od (ts:List Typ) (l:List Atr) (m:Mdf):List Atr×Int :=
 if m.1<0\/2<m.1 then ([],2) else match ef ts m.2.1 with
  | none=>([],17)
  | some ty=>if m.1=1 then
     (if m.2.2 = [] /\ bu l m.2.1 = [] then ([], 16)
      else if (hG ty.2.1 (bu l m.2.1) m.2.2).2≠0 then ([],(hG ty.2.1 (bu l m.2.1) m.2.2).2)
      else (fp ty.1 (if m.2.2=[] then [] else (hG ty.2.1 (bu l m.2.1) m.2.2).1) (if m.2.2=[] then true else (hG ty.2.1 (bu l m.2.1) m.2.2).1.isEmpty) l,0))
    else if m.1=0/\m.2.2=[] then ([],2)
    else if (ek ty.2.1 ty.2.2.1 (if m.1=2 then [] else bu l m.2.1) m.2.2).2≠0 then ([],(ek ty.2.1 ty.2.2.1 (if m.1=2 then [] else bu l m.2.1) m.2.2).2)
    else (fp ty.1 (ek ty.2.1 ty.2.2.1 (if m.1=2 then [] else bu l m.2.1) m.2.2).1 (ek ty.2.1 ty.2.2.1 (if m.1=2 then [] else bu l m.2.1) m.2.2).1.isEmpty l,0)
def TV (ts:List Typ):List Atr->List Mdf->List Atr×Int
 | l,[]=>(l,0)
 | l,m::ms=>if (Od ts l m).2≠0 then ([],(Od ts l m).2) else TV ts (Od ts l m).1 ms
section
variable {α:Type} (key:α->List UInt8)
def bQ (l:List α) (k:List UInt8):Nat:=(l.takeWhile fun a=>decide (key a<k)).length
def fI (l:List α):Prop:=l.Pairwise fun a b=>key a<key b
theorem Ik (l:List α) (k:List UInt8):bQ key l k<=l.length:=by
 unfold bQ;exact (List.takeWhile_sublist _).length_le
theorem ga (a:α) (l:List α) (k:List UInt8):bQ key (a::l) k=if key a<k then bQ key l k+1 else 0:=by
 unfold bQ;rw [List.takeWhile_cons];by_cases h:key a<k
 ·simp [h]
 ·simp [h]
end
theorem Lc (syn:Int) (v:List UInt8):∀ l,gy syn v true l=l
 | []=>rfl
 | x::t=>by rw [gy,if_neg (by simp)];simp [Lc syn v t]
theorem NC (syn:Int) (v:List UInt8):∀ l:List (List UInt8),inM syn l (bP syn v)=false->gy syn v false l=l.take (bQ (bP syn) l (bP syn v))++v::l.drop (bQ (bP syn) l (bP syn v))
 | [],_=>rfl
 | x::t,h=>by
   simp only [inM,List.any_cons,agE,decide_eq_false_iff_not] at h;rw [gy,ga];by_cases hx:bP syn x<bP syn v
   ·have hx2:¬ bP syn v<bP syn x:=fun e=>ae9 _ (afT e hx)
    rw [if_pos hx,if_neg (fun e=>hx2 e.2),decide_eq_false hx2];simp only [af4,aeR,afx,agp,aeT];rw [NC syn v t (by simpa [inM] using h.2)]
   ·have hx2:bP syn v<bP syn x:=by
     rcases af6.1 (afz.1 hx) with e|e
     ·exact e
     ·exact absurd e.symm h.1
    rw [if_neg hx,if_pos ⟨rfl,hx2⟩,decide_eq_true hx2];simp [Lc]
abbrev bq (a:Atr):List UInt8:=aa a.1
theorem P0 (n:List UInt8):∀ l:List Atr,fI bq l->bu l n=match l[bQ bq l (aa n)]? with
  | some a=>if aa a.1=aa n then a.2 else []
  | none=>[]
 | [],_=>rfl
 | a::t,h=>by
   obtain ⟨h1,h2⟩:=afo.1 h;rw [bu,ga];by_cases hx:bq a<aa n
   ·have hne:¬ aa a.1=aa n:=fun e=>by
     rw [show bq a=aa a.1 from rfl,e] at hx;exact ae9 _ hx
    rw [if_pos hx,if_neg hne,P0 n t h2,aeN]
   ·rw [if_neg hx,afa];simp only;by_cases he:aa a.1=aa n
    ·rw [if_pos he,if_pos he]
    ·rw [if_neg he,if_neg he];have hlt:aa n<bq a:=by
      rcases af6.1 (afz.1 hx) with e|e
      ·exact e
      ·exact absurd e.symm he
     have hno:∀ u:List Atr,(∀ b∈u,bq a<bq b)->bu u n=[]:=fun u=>by
      induction u with
      | nil=>intro _;rfl
      | cons b u ih =>
        intro hb;rw [bu,if_neg,ih (fun c hc=>hb c (by simp [hc]))];intro e;have h3:=afT hlt (hb b (by simp));rw [show bq b=aa b.1 from rfl,e] at h3;exact ae9 _ h3
     exact hno t h1
theorem Sn (n:List UInt8) (vs:List (List UInt8)):∀ l:List Atr,(∀ a∈l,aa n≠aa a.1)->fp n vs true l=l
 | [],_=>rfl
 | a::t,h=>by
   rw [fp,if_neg (by simp),if_pos (h a (by simp)),af5,Sn n vs t (fun b hb=>h b (by simp [hb]))];rfl
theorem P3 (n:List UInt8) (vs:List (List UInt8)):∀ l:List Atr,fI bq l->fp n vs false l=match l[bQ bq l (aa n)]? with
  | some a=>if aa a.1=aa n then l.set (bQ bq l (aa n)) (n,vs) else l.take (bQ bq l (aa n))++(n,vs)::l.drop (bQ bq l (aa n))
  | none=>l++[(n,vs)]
 | [],_=>rfl
 | a::t,h=>by
   obtain ⟨h1,h2⟩:=afo.1 h;rw [fp,ga];by_cases hx:bq a<aa n
   ·have hx2:aa a.1<aa n:=hx;have hne:aa n≠aa a.1:=fun e=>by
     rw [e] at hx2;exact ae9 _ hx2
    rw [if_pos hx,if_neg (fun e=>e.2 hx2),if_pos hne,decide_eq_true hx2,aeN];simp only [af2,af4,aeR,afX,afx,agp,aeT];rw [P3 n vs t h2];rcases t[bQ bq t (aa n)]? with _|b
    ·rfl
    ·simp only;split<;>rfl
   ·have hx2:¬ aa a.1<aa n:=hx;rw [if_neg hx,if_pos ⟨rfl,hx2⟩,decide_eq_false hx2,afa];have hge:∀ b∈t,aa n≠aa b.1:=fun b hb e=>by
     have h3:aa a.1<aa b.1:=h1 b hb;rw [<- e] at h3;exact hx2 h3
    simp only [agj,ago,List.set_cons_zero,afI,afY,aeR,aeT];rw [Sn n vs t hge];by_cases he:aa a.1=aa n
    ·rw [if_pos he,if_neg (fun q=>q he.symm)];rfl
    ·rw [if_neg he,if_pos (fun q=>he q.symm)];rfl
theorem QG {α:Type} (l:List α) (c:Nat) (v:α):(l.take c++v::l.drop c).Perm (v::l):=by
 refine List.perm_middle.trans ?_;rw [agc]
theorem uk {α:Type} {l:List α} {c:Nat} {v b:α}:b∈l.take c++v::l.drop c↔b=v\/b∈l:=by
 rw [(QG l c v).mem_iff,aex]
theorem tN {α:Type} {key:α->List UInt8} {v:α}:∀ {l:List α},fI key l->(∀ x∈l,key x≠key v)->fI key (l.take (bQ key l (key v))++v::l.drop (bQ key l (key v)))
 | [],_,_=>by simp [fI]
 | a::t,h,hn=>by
   obtain ⟨h1,h2⟩:=afo.1 h;rw [ga];by_cases hx:key a<key v
   ·rw [if_pos hx];simp only [afx,agp,aeT];refine afo.2 ⟨fun b hb=>?_,tN h2 fun x hxx=>hn x (by simp [hxx])⟩;rcases uk.1 hb with rfl|hb
    ·exact hx
    ·exact h1 b hb
   ·rw [if_neg hx];have hlt:key v<key a:=by
     rcases af6.1 (afz.1 hx) with e|e
     ·exact e
     ·exact absurd e.symm (hn a (by simp))
    simp only [afI,afY,aeR];refine afo.2 ⟨fun b hb=>?_,h⟩;rcases aex.1 hb with rfl|hb
    ·exact hlt
    ·exact afT hlt (h1 b hb)
theorem ph {ts:List Typ} {n m:List UInt8} (h:aa n=aa m):ef ts n=ef ts m:=by
 unfold ef;rw [h]
def InV (syn:Int) (l:List (List UInt8)):Prop:=fI (bP syn) l/\∀ v∈l,(ci syn v).isSome=true
theorem TW {syn:Int} {single:Bool}:∀ {vs l:List (List UInt8)},InV syn l->(ek syn single l vs).2=0->InV syn (ek syn single l vs).1
 | [],l,h,h0=>by
   rw [ek] at h0 ⊢;split
   ·rename_i hc
    rw [if_pos hc] at h0;cases h0
   ·exact h
 | v::vs,l,h,h0=>by
   rw [ek] at h0 ⊢;rcases hv:ci syn v with _|n
   ·rw [hv] at h0;cases h0
   ·rw [hv] at h0;simp only at h0 ⊢;split
    ·rename_i hc
     rw [if_pos hc] at h0;cases h0
    ·rename_i hc
     rw [if_neg hc] at h0;have hk:bP syn v=n:=by simp [bP,hv]
     have hin:inM syn l (bP syn v)=false:=by rw [hk];simpa using hc
     refine TW ?_ h0;rw [NC syn v l hin];refine ⟨tN h.1 fun x hx e=>?_,fun x hx=>?_⟩
     ·simp only [inM,afe,decide_eq_true_eq] at hin;exact hin x hx e
     ·rcases uk.1 hx with rfl|hx
      ·rw [hv];rfl
      ·exact h.2 x hx
def InA (ts:List Typ) (l:List Atr):Prop:=fI bq l/\∀ a∈l,∃ ty,ef ts a.1=some ty/\ty.1=a.1/\a.2≠[]/\InV ty.2.1 a.2/\(ty.2.2.1=true->a.2.length<=1)
theorem WJ {ts:List Typ} {l:List Atr} {n:List UInt8} {ty:Typ} (h:InA ts l) (ht:ef ts n=some ty):InV ty.2.1 (bu l n):=by
 rw [P0 n l h.1];rcases hg:l[bQ bq l (aa n)]? with _|a
 ·exact ⟨List.Pairwise.nil,fun v hv=>by cases hv⟩
 ·simp only;split
  ·rename_i he
   obtain ⟨ty',h1,_,_,h4,_⟩:=h.2 a (aeQ hg);rw [ph he,ht] at h1;cases h1;exact h4
  ·exact ⟨List.Pairwise.nil,fun v hv=>by cases hv⟩
theorem DK {α:Type} {key:α->List UInt8} {k:List UInt8}:∀ {l:List α},fI key l->(∀ a,l[bQ key l k]?=some a->key a≠k)->∀ x∈l,key x≠k
 | [],_,_,_,hx=>by cases hx
 | a::t,h,hc,x,hx=>by
   obtain ⟨h1,h2⟩:=afo.1 h;rw [ga] at hc;by_cases ha:key a<k
   ·rw [if_pos ha] at hc;rcases aex.1 hx with rfl|hx
    ·intro e;rw [e] at ha;exact ae9 _ ha
    ·exact DK h2 (fun b hb=>hc b (by simpa using hb)) x hx
   ·rw [if_neg ha] at hc;have hne:=hc a (by simp);have hlt:k<key a:=by
     rcases af6.1 (afz.1 ha) with e|e
     ·exact e
     ·exact absurd e.symm hne
    rcases aex.1 hx with rfl|hx
    ·exact hne
    ·intro e;have:=afT hlt (h1 x hx);rw [e] at this;exact ae9 _ this
theorem Xy {α:Type} {key:α->List UInt8} {l:List α} {c:Nat} {a x:α} (h:fI key l) (hc:l[c]?=some a) (hk:key x=key a):fI key (l.set c x):=by
 have e:(l.set c x).map key=l.map key:=by
  rw [List.map_set,hk];obtain ⟨hlt,rfl⟩:=aeh.1 hc;rw [<- List.getElem_map (f:=key) (h:=by simpa using hlt),List.set_getElem_self]
 have h2:(l.map key).Pairwise (· < ·):=agY.2 h;rw [<- e] at h2;exact agY.1 h2
theorem WN {ts:List Typ} {l:List Atr} {n:List UInt8} {vs:List (List UInt8)} {ty:Typ} (h:InA ts l) (ht:ef ts n=some ty) (hn:ty.1=n) (hv:vs≠[]) (hi:InV ty.2.1 vs) (h1:ty.2.2.1=true->vs.length<=1):InA ts (fp n vs false l):=by
 have hnew:∃ ty',ef ts n=some ty'/\ty'.1=n/\vs≠[]/\InV ty'.2.1 vs/\(ty'.2.2.1=true->vs.length<=1):=⟨ty,ht,hn,hv,hi,h1⟩;rw [P3 n vs l h.1];rcases hg:l[bQ bq l (aa n)]? with _|a
 ·simp only;have hno:=DK (k:=aa n) h.1 (fun a ha=>by rw [hg] at ha;cases ha);have hc:bQ bq l (aa n)=l.length:=Nat.le_antisymm (Ik _ _ _) (List.getElem?_eq_none_iff.1 hg);have e:l++[(n,vs)]=l.take (bQ bq l (bq (n,vs)))++(n,vs)::l.drop (bQ bq l (bq (n,vs))):=by
   rw [show bq (n,vs)=aa n from rfl,hc,aeE,aeC]
  rw [e];refine ⟨tN h.1 hno,fun b hb=>?_⟩;rcases uk.1 hb with rfl|hb
  ·exact hnew
  ·exact h.2 b hb
 ·simp only;split
  ·rename_i he
   refine ⟨Xy h.1 hg he.symm,fun b hb=>?_⟩;rcases List.mem_or_eq_of_mem_set hb with hb|rfl
   ·exact h.2 b hb
   ·exact hnew
  ·rename_i he
   have hno:=DK (k:=aa n) h.1 (fun b hb=>by rw [hg] at hb;cases hb;exact he);refine ⟨tN (key:=bq) (v:=(n,vs)) h.1 hno,fun b hb=>?_⟩;rcases uk.1 hb with rfl|hb
   ·exact hnew
   ·exact h.2 b hb
theorem ZB (syn:Int) (v:List UInt8) (l:List (List UInt8)):gy syn v false l≠[]:=by
 rcases l with _|⟨x,t⟩
 ·simp [gy]
 ·simp [gy]
theorem Xa {syn:Int} {single:Bool}:∀ {vs l:List (List UInt8)},l≠[]\/vs≠[]->(ek syn single l vs).2=0->(ek syn single l vs).1≠[]
 | [],l,h,h0=>by
   rw [ek] at h0 ⊢;split
   ·rename_i hc;rw [if_pos hc] at h0;cases h0
   ·rcases h with h|h
    ·exact h
    ·exact absurd rfl h
 | v::vs,l,h,h0=>by
   rw [ek] at h0 ⊢;rcases hv:ci syn v with _|n
   ·rw [hv] at h0;cases h0
   ·rw [hv] at h0;simp only at h0 ⊢;split
    ·rename_i hc;rw [if_pos hc] at h0;cases h0
    ·rename_i hc
     rw [if_neg hc] at h0;exact Xa (.inl (ZB syn v l)) h0
theorem H0 {syn:Int} {single:Bool}:∀ {vs l:List (List UInt8)},(ek syn single l vs).2=0->single=true->(ek syn single l vs).1.length<=1
 | [],l,h0,hs=>by
   rw [ek] at h0 ⊢;split
   ·rename_i hc;rw [if_pos hc] at h0;cases h0
   ·rename_i hc
    have:¬ 1<l.length:=fun e=>hc ⟨hs,e⟩
    simp only;omega
 | v::vs,l,h0,hs=>by
   rw [ek] at h0 ⊢;rcases hv:ci syn v with _|n
   ·rw [hv] at h0;cases h0
   ·rw [hv] at h0;simp only at h0 ⊢;split
    ·rename_i hc;rw [if_pos hc] at h0;cases h0
    ·rename_i hc
     rw [if_neg hc] at h0;exact H0 h0 hs
theorem lS {ts:List Typ} {n:List UInt8} {ty:Typ} (h:ef ts n=some ty):ty∈ts/\aa ty.1=aa n:=by
 unfold ef at h;exact ⟨agN h,by simpa using List.find?_some h⟩
theorem P9 {ts:List Typ}:∀ {l out:List Atr},InA ts out->(Ld ts out l).2=0->InA ts (Ld ts out l).1
 | [],out,h,_=>h
 | a::t,out,h,h0=>by
   rw [Ld] at h0 ⊢;rcases ht:ef ts a.1 with _|ty
   ·rw [ht] at h0;cases h0
   ·rw [ht] at h0;simp only at h0 ⊢;split
    ·rename_i hc;rw [if_pos hc] at h0;cases h0
    ·rename_i hc
     rw [if_neg hc] at h0;split
     ·rename_i hd;rw [if_pos hd] at h0;exact absurd h0 hd
     ·rename_i hd
      rw [if_neg hd] at h0;simp only [ne_eq,agI] at hd;have hne:=Xa (l:=bu out a.1) (.inr hc) hd;have hem:(ek ty.2.1 ty.2.2.1 (bu out a.1) a.2).1.isEmpty=false:=by simpa using hne
      rw [hem] at h0 ⊢;have hts:=lS ht;exact P9 (WN h (by rw [ph hts.2];exact ht) rfl hne (TW (WJ h ht) hd) (H0 hd)) h0
set_option maxHeartbeats 8000000
set_option maxRecDepth 100000
theorem Wr {α:Type} {key:α->List UInt8} {k:List UInt8}:∀ {l:List α},fI key l->∀ (h:Nat) (hh:h<l.length),(key l[h]<k↔h<bQ key l k)
 | a::t,hr,h,hh=>by
   obtain ⟨h1,h2⟩:=afo.1 hr;rw [ga];by_cases ha:key a<k
   ·rw [if_pos ha];rcases h with _|h
    ·exact ⟨fun _=>by omega,fun _=>ha⟩
    ·have:=Wr (k:=k) h2 h (by simpa using hh);simp only [List.getElem_cons_succ,this];omega
   ·rw [if_neg ha];rcases h with _|h
    ·exact ⟨fun e=>absurd e ha,fun e=>by omega⟩
    ·constructor
     ·intro e;have hm:key a<key ((a::t)[h+1]'hh):=h1 _ (by simp);exact absurd (afT hm e) ha
     ·intro e;omega
theorem Yn {α:Type} {key:α->List UInt8} {k:List UInt8} {l:List α} (hr:fI key l):(l.any fun a=>decide (key a=k))=match l[bQ key l k]? with
  | some a=>decide (key a=k)
  | none=>false:=by
 cases h:l[bQ key l k]? with
 | none =>
   simp only [afe,decide_eq_true_eq];exact DK hr (fun a ha=>by rw [h] at ha;cases ha)
 | some a =>
   simp only;by_cases he:key a=k
   ·rw [decide_eq_true he,afL];exact ⟨a,aeQ h,by simpa using he⟩
   ·rw [decide_eq_false he];simp only [afe,decide_eq_true_eq];exact DK hr (fun b hb=>by rw [h] at hb;cases hb;exact he)
theorem Uc {n:List UInt8}:∀ {l:List Atr},(∀ a∈l,aa a.1≠aa n)->bu l n=[]
 | [],_=>rfl
 | a::t,h=>by rw [bu,if_neg (h a (by simp)),Uc fun b hb=>h b (by simp [hb])]
theorem Yx {syn:Int} {single:Bool} {l:List (List UInt8)} {v:List UInt8} {vs:List (List UInt8)} (h0:(ek syn single l (v::vs)).2=0) :
  (ci syn v).isSome=true/\inM syn l (bP syn v)=false/\ek syn single l (v::vs)=ek syn single (gy syn v false l) vs:=by
 rw [ek] at h0 ⊢;rcases hv:ci syn v with _|n
 ·rw [hv] at h0;cases h0
 ·rw [hv] at h0;simp only at h0 ⊢;have hk:bP syn v=n:=by simp [bP,hv]
  split
  ·rename_i hc;rw [if_pos hc] at h0;cases h0
  ·rename_i hc
   exact ⟨rfl,by rw [hk];simpa using hc,rfl⟩
theorem ZA {syn:Int} {v:List UInt8} {l:List (List UInt8)} (h:inM syn l (bP syn v)=false):(gy syn v false l).length=l.length+1:=by
 rw [NC syn v l h,(QG _ _ _).length_eq,aet]
theorem N1 {syn:Int} {single:Bool}:∀ {vs l:List (List UInt8)},(ek syn single l vs).2=0->(ek syn single l vs).1.length=l.length+vs.length
 | [],l,h0=>by
   rw [ek] at h0 ⊢;split
   ·rename_i hc;rw [if_pos hc] at h0;cases h0
   ·rfl
 | v::vs,l,h0=>by
   obtain ⟨h1,h2,h3⟩:=Yx h0;rw [h3] at h0 ⊢;rw [N1 h0,ZA h2,aet];omega
theorem Qm {n m:List UInt8} (h:aa n=aa m):∀ l:List Atr,bu l n=bu l m
 | []=>rfl
 | a::t=>by rw [bu,bu,h,Qm h t]
theorem gV (n:List UInt8):∀ l:List Atr,fp n [] true l=l.filter fun a=>decide (aa a.1≠aa n)
 | []=>rfl
 | a::t=>by
   rw [fp,if_neg (by simp),af5,gV n t];by_cases h:aa a.1=aa n
   ·rw [if_neg (fun e=>e h.symm),agr (by simp [h])];rfl
   ·rw [if_pos (fun e=>h e.symm),ags (by simp [h])];rfl
theorem ux {α:Type} {key:α->List UInt8} {k:List UInt8}:∀ {l:List α},fI key l->∀ a,l[bQ key l k]?=some a->key a=k->l.filter (fun x=>decide (key x≠k))=l.eraseIdx (bQ key l k)
 | b::t,h,a,hg,he=>by
   obtain ⟨h1,h2⟩:=afo.1 h;rw [ga] at hg ⊢;by_cases hb:key b<k
   ·have hne:key b≠k:=fun e=>by rw [e] at hb;exact ae9 _ hb
    rw [if_pos hb] at hg ⊢;rw [ags (by simpa using hne),agZ,ux h2 a (by simpa using hg) he]
   ·rw [if_neg hb] at hg ⊢;have hba:b=a:=by simpa using hg
    subst hba;rw [agr (by simp [he]),List.eraseIdx_cons_zero,agJ];intro x hx;have:=h1 x hx;simp only [decide_eq_true_eq];intro e;rw [e,he] at this;exact ae9 _ this
theorem SN {α:Type} {key:α->List UInt8} {k:List UInt8}:∀ {l:List α},fI key l->∀ a,l[bQ key l k]?=some a->bQ key (l.eraseIdx (bQ key l k)) k=bQ key l k
 | b::t,h,a,hg=>by
   obtain ⟨h1,h2⟩:=afo.1 h;rw [ga] at hg ⊢;by_cases hb:key b<k
   ·rw [if_pos hb] at hg ⊢;rw [agZ,ga,if_pos hb,SN h2 a (by simpa using hg)]
   ·rw [if_neg hb,List.eraseIdx_cons_zero];rcases t with _|⟨c,t⟩
    ·rfl
    ·rw [ga,if_neg];intro e;exact hb (afT (h1 c (by simp)) e)
theorem Ss {α:Type} {x:α}:∀ {l:List α} {c:Nat},c<l.length->(l.eraseIdx c).take c++x::(l.eraseIdx c).drop c=l.set c x
 | b::t,0,_=>by simp
 | b::t,c+1,h=>by
   rw [agZ,afx,agp,afX,aeT,Ss (by simpa using h)]
theorem U7 {syn:Int}:∀ {vs l:List (List UInt8)},InV syn l->(hG syn l vs).2=0->InV syn (hG syn l vs).1/\(hG syn l vs).1.length<=l.length
 | [],l,h,_=>⟨h,aeg _⟩
 | v::vs,l,h,h0=>by
   rw [hG] at h0 ⊢;rcases hv:ci syn v with _|n
   ·rw [hv] at h0;cases h0
   ·rw [hv] at h0;simp only at h0 ⊢;split
    ·rename_i hc;rw [if_pos hc] at h0;cases h0
    ·rename_i hc
     rw [if_neg hc] at h0;obtain ⟨h1,h2⟩:=U7 (l:=l.filter fun x=>decide (bP syn x≠n)) ⟨h.1.filter _,fun x hx=>h.2 x (afv.1 hx).1⟩ h0;exact ⟨h1,aeM h2 (agK _ _)⟩
theorem TC {ts:List Typ} {l:List Atr} (n:List UInt8) (h:InA ts l):InA ts (fp n [] true l):=by
 rw [gV];exact ⟨h.1.filter _,fun a ha=>h.2 a (afv.1 ha).1⟩
theorem Ue {ts:List Typ} {l:List Atr} {n:List UInt8} {ty:Typ} (h:InA ts l) (ht:ef ts n=some ty) (hs:ty.2.2.1=true):(bu l n).length<=1:=by
 rw [P0 n l h.1];rcases hg:l[bQ bq l (aa n)]? with _|a
 ·simp
 ·simp only;split
  ·rename_i he
   obtain ⟨ty',h1,_,_,_,h5⟩:=h.2 a (aeQ hg);rw [ph he,ht] at h1;cases h1;exact h5 hs
  ·simp
theorem Zk {ts:List Typ} {l:List Atr} {n:List UInt8} {ty:Typ} {vs:List (List UInt8)} (h:InA ts l) (ht:ef ts n=some ty) (hi:InV ty.2.1 vs) (h1:ty.2.2.1=true->vs.length<=1):InA ts (fp ty.1 vs vs.isEmpty l):=by
 rcases vs with _|⟨v,vs⟩
 ·exact TC ty.1 h
 ·exact WN h (by rw [ph (lS ht).2];exact ht) rfl (by simp) hi h1
theorem abr {ts:List Typ} {l:List Atr} {m:Mdf} (h:InA ts l) (h0:(Od ts l m).2=0):InA ts (Od ts l m).1:=by
 unfold Od at h0 ⊢;split
 ·rename_i hc;rw [if_pos hc] at h0;cases h0
 rename_i hc
 rw [if_neg hc] at h0;rcases ht:ef ts m.2.1 with _|ty
 ·rw [ht] at h0;cases h0
 rw [ht] at h0;simp only at h0 ⊢;have hval:=WJ h ht;have hsin:=Ue h ht;split
 ·rename_i h1
  rw [if_pos h1] at h0;split
  ·rename_i hd;rw [if_pos hd] at h0;cases h0
  rename_i hd
  rw [if_neg hd] at h0;split
  ·rename_i hd2;rw [if_pos hd2] at h0;exact absurd h0 hd2
  rename_i hd2
  simp only [ne_eq,agI] at hd2;obtain ⟨h3,h4⟩:=U7 hval hd2;split
  ·exact TC ty.1 h
  ·exact Zk h ht h3 (fun hs=>aeM h4 (hsin hs))
 ·rename_i h1
  rw [if_neg h1] at h0;split
  ·rename_i hd;rw [if_pos hd] at h0;cases h0
  rename_i hd
  rw [if_neg hd] at h0;obtain ⟨was,hwas⟩:=aea ((if m.1=2 then [] else bu l m.2.1));have hw:InV ty.2.1 was:=by
   rw [<- hwas];split
   ·exact ⟨List.Pairwise.nil,fun v hv=>by cases hv⟩
   ·exact hval
  rw [hwas] at h0 ⊢;split
  ·rename_i hd2;rw [if_pos hd2] at h0;exact absurd h0 hd2
  rename_i hd2
  simp only [ne_eq,agI] at hd2;exact Zk h ht (TW hw hd2) (H0 hd2)
theorem VW (ts:List Typ):InA ts []:=⟨List.Pairwise.nil,fun a ha=>by cases ha⟩
end Go.Proofs.YtigifoeopopnbaaGreatDoor.Av
