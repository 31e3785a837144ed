/- Joined texts of the walk, made small by a program. -/
import Derived.Test.YtcmfcpjnhephaaaGreatDoorFk11
import Derived.Test.YtcmfcpjnhephaaaGreatDoorFk8
import Derived.Test.YtcmfcpjnhephaaaGreatDoorFk4
import Derived.Test.YtcmfcpjnhephaaaGreatDoorRows
import Derived.KernelRfl
import Derived.Laws.Externs
import Derived.Lib.Overlaps
import Derived.Test.YtcmfcpjnhephaaaGreatDoorFk6
set_option linter.unusedSimpArgs false
set_option linter.unusedVariables false
namespace Go.Proofs.YtcmfcpjnhephaaaGreatDoor.Av
open Go
set_option maxHeartbeats 8000000
set_option maxRecDepth 100000
abbrev Typ:=List UInt8×Int×Bool×Bool
def dz:List Atr->List UInt8->List (List UInt8)
 | [],_=>[]
 | a::t,n=>if ab a.1=ab n then a.2 else dz t n
def me (n:List UInt8) (vs:List (List UInt8)):Bool->List Atr->List Atr
 | done,[]=>if done=true then [] else [(n,vs)]
 | done,a::t=>(if done=false/\¬ ab a.1<ab n then [(n,vs)] else [])++(if ab n≠ab a.1 then [a] else [])++me n vs (done || !decide (ab a.1<ab n)) t
def ft (syn:Int) (v:List UInt8):List UInt8:=(cW syn v).getD []
def inM (syn:Int) (l:List (List UInt8)) (n:List UInt8):Bool:=l.any fun v=>decide (ft syn v=n)
def ff (syn:Int) (v:List UInt8):Bool->List (List UInt8)->List (List UInt8)
 | done,[]=>if done=true then [] else [v]
 | done,x::t=>(if done=false/\ft syn v<ft syn x then [v] else [])++x::ff syn v (done || decide (ft syn v<ft syn x)) t
def dZ (syn:Int) (single:Bool):List (List UInt8)->List (List UInt8)->List (List UInt8)×Int
 | l,[]=>if single=true/\1<l.length then ([],19) else (l,0)
 | l,v::vs=>match cW syn v with
   | none=>([],21)
   | some n=>if inM syn l n=true then ([],20) else dZ syn single (ff syn v false l) vs
def eD (ts:List Typ) (n:List UInt8):Option Typ:=ts.find? fun t=>decide (ab t.1=ab n)
def qJ (ts:List Typ):List Atr->List Atr->List Atr×Int
 | out,[]=>(out,0)
 | out,a::t=>match eD ts a.1 with
   | none=>([],17)
   | some ty=>if a.2=[] then ([],19) else
     if (dZ ty.2.1 ty.2.2.1 (dz out a.1) a.2).2≠0 then ([],(dZ ty.2.1 ty.2.2.1 (dz out a.1) a.2).2)
     else qJ ts (me ty.1 (dZ ty.2.1 ty.2.2.1 (dz out a.1) a.2).1 (dZ ty.2.1 ty.2.2.1 (dz out a.1) a.2).1.isEmpty out) t
section
variable {α:Type} (key:α->List UInt8)
def eX (l:List α) (k:List UInt8):Nat:=(l.takeWhile fun a=>decide (key a<k)).length
def gr (l:List α):Prop:=l.Pairwise fun a b=>key a<key b
theorem RO (l:List α) (k:List UInt8):eX key l k<=l.length:=by
 unfold eX;exact (List.takeWhile_sublist _).length_le
theorem l9 (a:α) (l:List α) (k:List UInt8):eX key (a::l) k=if key a<k then eX key l k+1 else 0:=by
 unfold eX;rw [List.takeWhile_cons];by_cases h:key a<k
 ·simp [h]
 ·simp [h]
end
theorem Gt (syn:Int) (v:List UInt8):∀ l,ff syn v true l=l
 | []=>rfl
 | x::t=>by rw [ff,if_neg (by simp)];simp [Gt syn v t]
theorem LA (syn:Int) (v:List UInt8):∀ l:List (List UInt8),inM syn l (ft syn v)=false->ff syn v false l=l.take (eX (ft syn) l (ft syn v))++v::l.drop (eX (ft syn) l (ft syn v))
 | [],_=>rfl
 | x::t,h=>by
   simp only [inM,List.any_cons,abX,decide_eq_false_iff_not] at h;rw [ff,l9];by_cases hx:ft syn x<ft syn v
   ·have hx2:¬ ft syn v<ft syn x:=fun e=>aaL _ (abB e hx)
    rw [if_pos hx,if_neg (fun e=>hx2 e.2),decide_eq_false hx2];simp only [abH,aab,aa9,acf,aaf];rw [LA syn v t (by simpa [inM] using h.2)]
   ·have hx2:ft syn v<ft syn x:=by
     rcases abK.1 (aaS.1 hx) with e|e
     ·exact e
     ·exact absurd e.symm h.1
    rw [if_neg hx,if_pos ⟨rfl,hx2⟩,decide_eq_true hx2];simp [Gt]
abbrev dC (a:Atr):List UInt8:=ab a.1
theorem N2 (n:List UInt8):∀ l:List Atr,gr dC l->dz l n=match l[eX dC l (ab n)]? with
  | some a=>if ab a.1=ab n then a.2 else []
  | none=>[]
 | [],_=>rfl
 | a::t,h=>by
   obtain ⟨h1,h2⟩:=aap.1 h;rw [dz,l9];by_cases hx:dC a<ab n
   ·have hne:¬ ab a.1=ab n:=fun e=>by
     rw [show dC a=ab a.1 from rfl,e] at hx;exact aaL _ hx
    rw [if_pos hx,if_neg hne,N2 n t h2,aa8]
   ·rw [if_neg hx,aao];simp only;by_cases he:ab a.1=ab n
    ·rw [if_pos he,if_pos he]
    ·rw [if_neg he,if_neg he];have hlt:ab n<dC a:=by
      rcases abK.1 (aaS.1 hx) with e|e
      ·exact e
      ·exact absurd e.symm he
     have hno:∀ u:List Atr,(∀ b∈u,dC a<dC b)->dz u n=[]:=fun u=>by
      induction u with
      | nil=>intro _;rfl
      | cons b u ih =>
        intro hb;rw [dz,if_neg,ih (fun c hc=>hb c (by simp [hc]))];intro e;have h3:=abB hlt (hb b (by simp));rw [show dC b=ab b.1 from rfl,e] at h3;exact aaL _ h3
     exact hno t h1
theorem Nd (n:List UInt8) (vs:List (List UInt8)):∀ l:List Atr,(∀ a∈l,ab n≠ab a.1)->me n vs true l=l
 | [],_=>rfl
 | a::t,h=>by
   rw [me,if_neg (by simp),if_pos (h a (by simp)),abI,Nd n vs t (fun b hb=>h b (by simp [hb]))];rfl
theorem Rt (n:List UInt8) (vs:List (List UInt8)):∀ l:List Atr,gr dC l->me n vs false l=match l[eX dC l (ab n)]? with
  | some a=>if ab a.1=ab n then l.set (eX dC l (ab n)) (n,vs) else l.take (eX dC l (ab n))++(n,vs)::l.drop (eX dC l (ab n))
  | none=>l++[(n,vs)]
 | [],_=>rfl
 | a::t,h=>by
   obtain ⟨h1,h2⟩:=aap.1 h;rw [me,l9];by_cases hx:dC a<ab n
   ·have hx2:ab a.1<ab n:=hx;have hne:ab n≠ab a.1:=fun e=>by
     rw [e] at hx2;exact aaL _ hx2
    rw [if_pos hx,if_neg (fun e=>e.2 hx2),if_pos hne,decide_eq_true hx2,aa8];simp only [abh,abH,aab,List.set_cons_succ,aa9,acf,aaf];rw [Rt n vs t h2];rcases t[eX dC t (ab n)]? with _|b
    ·rfl
    ·simp only;split<;>rfl
   ·have hx2:¬ ab a.1<ab n:=hx;rw [if_neg hx,if_pos ⟨rfl,hx2⟩,decide_eq_false hx2,aao];have hge:∀ b∈t,ab n≠ab b.1:=fun b hb e=>by
     have h3:ab a.1<ab b.1:=h1 b hb;rw [<- e] at h3;exact hx2 h3
    simp only [abu,abW,List.set_cons_zero,aaX,abk,aab,aaf];rw [Nd n vs t hge];by_cases he:ab a.1=ab n
    ·rw [if_pos he,if_neg (fun q=>q he.symm)];rfl
    ·rw [if_neg he,if_pos (fun q=>he q.symm)];rfl
theorem Ln {α:Type} (l:List α) (c:Nat) (v:α):(l.take c++v::l.drop c).Perm (v::l):=by
 refine List.perm_middle.trans ?_;rw [aby]
theorem Dr {α:Type} {l:List α} {c:Nat} {v b:α}:b∈l.take c++v::l.drop c↔b=v\/b∈l:=by
 rw [(Ln l c v).mem_iff,ZF]
theorem Dq {α:Type} {key:α->List UInt8} {v:α}:∀ {l:List α},gr key l->(∀ x∈l,key x≠key v)->gr key (l.take (eX key l (key v))++v::l.drop (eX key l (key v)))
 | [],_,_=>by simp [gr]
 | a::t,h,hn=>by
   obtain ⟨h1,h2⟩:=aap.1 h;rw [l9];by_cases hx:key a<key v
   ·rw [if_pos hx];simp only [aa9,acf,aaf];refine aap.2 ⟨fun b hb=>?_,Dq h2 fun x hxx=>hn x (by simp [hxx])⟩;rcases Dr.1 hb with rfl|hb
    ·exact hx
    ·exact h1 b hb
   ·rw [if_neg hx];have hlt:key v<key a:=by
     rcases abK.1 (aaS.1 hx) with e|e
     ·exact e
     ·exact absurd e.symm (hn a (by simp))
    simp only [aaX,abk,aab];refine aap.2 ⟨fun b hb=>?_,h⟩;rcases ZF.1 hb with rfl|hb
    ·exact hlt
    ·exact abB hlt (h1 b hb)
theorem M9 {ts:List Typ} {n m:List UInt8} (h:ab n=ab m):eD ts n=eD ts m:=by
 unfold eD;rw [h]
def InV (syn:Int) (l:List (List UInt8)):Prop:=gr (ft syn) l/\∀ v∈l,(cW syn v).isSome=true
theorem RT {syn:Int} {single:Bool}:∀ {vs l:List (List UInt8)},InV syn l->(dZ syn single l vs).2=0->InV syn (dZ syn single l vs).1
 | [],l,h,h0=>by
   rw [dZ] at h0 ⊢;split
   ·rename_i hc
    rw [if_pos hc] at h0;cases h0
   ·exact h
 | v::vs,l,h,h0=>by
   rw [dZ] at h0 ⊢;rcases hv:cW syn v with _|n
   ·rw [hv] at h0;cases h0
   ·rw [hv] at h0;simp only at h0 ⊢;split
    ·rename_i hc
     rw [if_pos hc] at h0;cases h0
    ·rename_i hc
     rw [if_neg hc] at h0;have hk:ft syn v=n:=by simp [ft,hv]
     have hin:inM syn l (ft syn v)=false:=by rw [hk];simpa using hc
     refine RT ?_ h0;rw [LA syn v l hin];refine ⟨Dq h.1 fun x hx e=>?_,fun x hx=>?_⟩
     ·simp only [inM,abc,decide_eq_true_eq] at hin;exact hin x hx e
     ·rcases Dr.1 hx with rfl|hx
      ·rw [hv];rfl
      ·exact h.2 x hx
def InA (ts:List Typ) (l:List Atr):Prop:=gr dC l/\∀ a∈l,∃ ty,eD ts a.1=some ty/\ty.1=a.1/\a.2≠[]/\InV ty.2.1 a.2/\(ty.2.2.1=true->a.2.length<=1)
theorem Wy {ts:List Typ} {l:List Atr} {n:List UInt8} {ty:Typ} (h:InA ts l) (ht:eD ts n=some ty):InV ty.2.1 (dz l n):=by
 rw [N2 n l h.1];rcases hg:l[eX dC l (ab n)]? with _|a
 ·exact ⟨List.Pairwise.nil,fun v hv=>by cases hv⟩
 ·simp only;split
  ·rename_i he
   obtain ⟨ty',h1,_,_,h4,_⟩:=h.2 a (aad hg);rw [M9 he,ht] at h1;cases h1;exact h4
  ·exact ⟨List.Pairwise.nil,fun v hv=>by cases hv⟩
theorem wj {α:Type} {key:α->List UInt8} {k:List UInt8}:∀ {l:List α},gr key l->(∀ a,l[eX key l k]?=some a->key a≠k)->∀ x∈l,key x≠k
 | [],_,_,_,hx=>by cases hx
 | a::t,h,hc,x,hx=>by
   obtain ⟨h1,h2⟩:=aap.1 h;rw [l9] at hc;by_cases ha:key a<k
   ·rw [if_pos ha] at hc;rcases ZF.1 hx with rfl|hx
    ·intro e;rw [e] at ha;exact aaL _ ha
    ·exact wj h2 (fun b hb=>hc b (by simpa using hb)) x hx
   ·rw [if_neg ha] at hc;have hne:=hc a (by simp);have hlt:k<key a:=by
     rcases abK.1 (aaS.1 ha) with e|e
     ·exact e
     ·exact absurd e.symm hne
    rcases ZF.1 hx with rfl|hx
    ·exact hne
    ·intro e;have:=abB hlt (h1 x hx);rw [e] at this;exact aaL _ this
theorem Sq {α:Type} {key:α->List UInt8} {l:List α} {c:Nat} {a x:α} (h:gr key l) (hc:l[c]?=some a) (hk:key x=key a):gr key (l.set c x):=by
 have e:(l.set c x).map key=l.map key:=by
  rw [List.map_set,hk];obtain ⟨hlt,rfl⟩:=Zz.1 hc;rw [<- List.getElem_map (f:=key) (h:=by simpa using hlt),List.set_getElem_self]
 have h2:(l.map key).Pairwise (· < ·):=acj.2 h;rw [<- e] at h2;exact acj.1 h2
theorem WK {ts:List Typ} {l:List Atr} {n:List UInt8} {vs:List (List UInt8)} {ty:Typ} (h:InA ts l) (ht:eD ts n=some ty) (hn:ty.1=n) (hv:vs≠[]) (hi:InV ty.2.1 vs) (h1:ty.2.2.1=true->vs.length<=1):InA ts (me n vs false l):=by
 have hnew:∃ ty',eD ts n=some ty'/\ty'.1=n/\vs≠[]/\InV ty'.2.1 vs/\(ty'.2.2.1=true->vs.length<=1):=⟨ty,ht,hn,hv,hi,h1⟩;rw [Rt n vs l h.1];rcases hg:l[eX dC l (ab n)]? with _|a
 ·simp only;have hno:=wj (k:=ab n) h.1 (fun a ha=>by rw [hg] at ha;cases ha);have hc:eX dC l (ab n)=l.length:=Nat.le_antisymm (RO _ _ _) (List.getElem?_eq_none_iff.1 hg);have e:l++[(n,vs)]=l.take (eX dC l (dC (n,vs)))++(n,vs)::l.drop (eX dC l (dC (n,vs))):=by
   rw [show dC (n,vs)=ab n from rfl,hc,ZW,aai]
  rw [e];refine ⟨Dq h.1 hno,fun b hb=>?_⟩;rcases Dr.1 hb with rfl|hb
  ·exact hnew
  ·exact h.2 b hb
 ·simp only;split
  ·rename_i he
   refine ⟨Sq h.1 hg he.symm,fun b hb=>?_⟩;rcases List.mem_or_eq_of_mem_set hb with hb|rfl
   ·exact h.2 b hb
   ·exact hnew
  ·rename_i he
   have hno:=wj (k:=ab n) h.1 (fun b hb=>by rw [hg] at hb;cases hb;exact he);refine ⟨Dq (key:=dC) (v:=(n,vs)) h.1 hno,fun b hb=>?_⟩;rcases Dr.1 hb with rfl|hb
   ·exact hnew
   ·exact h.2 b hb
theorem U4 (syn:Int) (v:List UInt8) (l:List (List UInt8)):ff syn v false l≠[]:=by
 rcases l with _|⟨x,t⟩
 ·simp [ff]
 ·simp [ff]
theorem RS {syn:Int} {single:Bool}:∀ {vs l:List (List UInt8)},l≠[]\/vs≠[]->(dZ syn single l vs).2=0->(dZ syn single l vs).1≠[]
 | [],l,h,h0=>by
   rw [dZ] at h0 ⊢;split
   ·rename_i hc;rw [if_pos hc] at h0;cases h0
   ·rcases h with h|h
    ·exact h
    ·exact absurd rfl h
 | v::vs,l,h,h0=>by
   rw [dZ] at h0 ⊢;rcases hv:cW syn v with _|n
   ·rw [hv] at h0;cases h0
   ·rw [hv] at h0;simp only at h0 ⊢;split
    ·rename_i hc;rw [if_pos hc] at h0;cases h0
    ·rename_i hc
     rw [if_neg hc] at h0;exact RS (.inl (U4 syn v l)) h0
theorem Kq {syn:Int} {single:Bool}:∀ {vs l:List (List UInt8)},(dZ syn single l vs).2=0->single=true->(dZ syn single l vs).1.length<=1
 | [],l,h0,hs=>by
   rw [dZ] at h0 ⊢;split
   ·rename_i hc;rw [if_pos hc] at h0;cases h0
   ·rename_i hc
    have:¬ 1<l.length:=fun e=>hc ⟨hs,e⟩
    simp only;omega
 | v::vs,l,h0,hs=>by
   rw [dZ] at h0 ⊢;rcases hv:cW syn v with _|n
   ·rw [hv] at h0;cases h0
   ·rw [hv] at h0;simp only at h0 ⊢;split
    ·rename_i hc;rw [if_pos hc] at h0;cases h0
    ·rename_i hc
     rw [if_neg hc] at h0;exact Kq h0 hs
theorem M8 {ts:List Typ} {n:List UInt8} {ty:Typ} (h:eD ts n=some ty):ty∈ts/\ab ty.1=ab n:=by
 unfold eD at h;exact ⟨ab6 h,by simpa using List.find?_some h⟩
theorem RC {ts:List Typ}:∀ {l out:List Atr},InA ts out->(qJ ts out l).2=0->InA ts (qJ ts out l).1
 | [],out,h,_=>h
 | a::t,out,h,h0=>by
   rw [qJ] at h0 ⊢;rcases ht:eD ts a.1 with _|ty
   ·rw [ht] at h0;cases h0
   ·rw [ht] at h0;simp only at h0 ⊢;split
    ·rename_i hc;rw [if_pos hc] at h0;cases h0
    ·rename_i hc
     rw [if_neg hc] at h0;split
     ·rename_i hd;rw [if_pos hd] at h0;exact absurd h0 hd
     ·rename_i hd
      rw [if_neg hd] at h0;simp only [ne_eq,abL] at hd;have hne:=RS (l:=dz out a.1) (.inr hc) hd;have hem:(dZ ty.2.1 ty.2.2.1 (dz out a.1) a.2).1.isEmpty=false:=by simpa using hne
      rw [hem] at h0 ⊢;have hts:=M8 ht;exact RC (WK h (by rw [M9 hts.2];exact ht) rfl hne (RT (Wy h ht) hd) (Kq hd)) h0
set_option maxHeartbeats 8000000
set_option maxRecDepth 100000
theorem VO {α:Type} {key:α->List UInt8} {k:List UInt8}:∀ {l:List α},gr key l->∀ (h:Nat) (hh:h<l.length),(key l[h]<k↔h<eX key l k)
 | a::t,hr,h,hh=>by
   obtain ⟨h1,h2⟩:=aap.1 hr;rw [l9];by_cases ha:key a<k
   ·rw [if_pos ha];rcases h with _|h
    ·exact ⟨fun _=>by omega,fun _=>ha⟩
    ·have:=VO (k:=k) h2 h (by simpa using hh);simp only [List.getElem_cons_succ,this];omega
   ·rw [if_neg ha];rcases h with _|h
    ·exact ⟨fun e=>absurd e ha,fun e=>by omega⟩
    ·constructor
     ·intro e;have hm:key a<key ((a::t)[h+1]'hh):=h1 _ (by simp);exact absurd (abB hm e) ha
     ·intro e;omega
theorem Tx {α:Type} {key:α->List UInt8} {k:List UInt8} {l:List α} (hr:gr key l):(l.any fun a=>decide (key a=k))=match l[eX key l k]? with
  | some a=>decide (key a=k)
  | none=>false:=by
 cases h:l[eX key l k]? with
 | none =>
   simp only [abc,decide_eq_true_eq];exact wj hr (fun a ha=>by rw [h] at ha;cases ha)
 | some a =>
   simp only;by_cases he:key a=k
   ·rw [decide_eq_true he,abZ];exact ⟨a,aad h,by simpa using he⟩
   ·rw [decide_eq_false he];simp only [abc,decide_eq_true_eq];exact wj hr (fun b hb=>by rw [h] at hb;cases hb;exact he)
theorem TJ {syn:Int} {single:Bool} {l:List (List UInt8)} {v:List UInt8} {vs:List (List UInt8)} (h0:(dZ syn single l (v::vs)).2=0) :
  (cW syn v).isSome=true/\inM syn l (ft syn v)=false/\dZ syn single l (v::vs)=dZ syn single (ff syn v false l) vs:=by
 rw [dZ] at h0 ⊢;rcases hv:cW syn v with _|n
 ·rw [hv] at h0;cases h0
 ·rw [hv] at h0;simp only at h0 ⊢;have hk:ft syn v=n:=by simp [ft,hv]
  split
  ·rename_i hc;rw [if_pos hc] at h0;cases h0
  ·rename_i hc
   exact ⟨rfl,by rw [hk];simpa using hc,rfl⟩
theorem U3 {syn:Int} {v:List UInt8} {l:List (List UInt8)} (h:inM syn l (ft syn v)=false):(ff syn v false l).length=l.length+1:=by
 rw [LA syn v l h,(Ln _ _ _).length_eq,ZN]
theorem MB {syn:Int} {single:Bool}:∀ {vs l:List (List UInt8)},(dZ syn single l vs).2=0->(dZ syn single l vs).1.length=l.length+vs.length
 | [],l,h0=>by
   rw [dZ] at h0 ⊢;split
   ·rename_i hc;rw [if_pos hc] at h0;cases h0
   ·rfl
 | v::vs,l,h0=>by
   obtain ⟨h1,h2,h3⟩:=TJ h0;rw [h3] at h0 ⊢;rw [MB h0,U3 h2,ZN];omega
theorem Yc (ts:List Typ):InA ts []:=⟨List.Pairwise.nil,fun a ha=>by cases ha⟩
end Go.Proofs.YtcmfcpjnhephaaaGreatDoor.Av
set_option maxRecDepth 100000
namespace Go.Proofs.YtcmfcpjnhephaaaGreatDoor.Av
open Go
def vM:LSO:=[Ab 4 0,Af 5]
def vL:LSO:=[Aa 6 0,Aa 7 1,Ai 8 38 7,o1 9 (.call 145 [(tm 6),(tm 8),(.av (.func 146 []))]),Ar 10 9,Au 11 9,Aa 4 10,Aa 5 11]
def fo:br:=⟨12,(.seq (.sreg vM [])
 (.seq (.sreg vL Co)
 .ret)),[(.tmp 4),(.tmp 5)]⟩
attribute [push_cast] vM vL
theorem qZ:bt Tryz.prog (fun _ _=>1) 103=some fo.raw:=by kernel_rfl
def ny:LSO:=[A5 2 0,Ab 4 0]
def nx:LSO:=[Ad 5 0 2,Ac 6 1 5,Ai 7 38 6,Aa 8 1,Aq 9 126 7 8,Aa 4 9]
def eo:br:=⟨10,(.seq (.sreg ny [])
 (.seq (.sreg nx Ch)
 .ret)),[(.tmp 4)]⟩
attribute [push_cast] ny nx
theorem mG:bt Tryz.prog (fun _ _=>1) 146=some eo.raw:=by kernel_rfl
def Fn:LSO:=[Aj 4]
def Fm:LSO:=[Aa 8 0,Aa 9 1,Aq 10 103 8 9,Aa 7 10,Ar 11 7,Au 12 7,Aa 5 11,Aa 6 12]
def Fl:LSO:=[Aa 13 6]
def Fk:LSO:=[Aa 14 0,Aa 15 5,An 16 2 14 15,Ad 17 1 16,Ac 18 1 17,Ai 19 51 18,Aa 4 19]
def Fj:LSO:=[Aj 4]
def eL:br:=⟨20,(.seq (.sreg Fn [])
 (.seq (.seq (.sreg Fm Co)
 (.seq (.sreg Fl [])
 (.cond (tm 13) (.seq (.sreg Fk Ci)
 .ret)
 .skip)))
 (.seq (.sreg Fj [])
 .ret))),[(.tmp 4)]⟩
attribute [push_cast] Fn Fm Fl Fk Fj
theorem mH:bt Tryz.prog (fun _ _=>1) 52=some eL.raw:=by kernel_rfl
def sn:LSO:=[A5 2 0,Bn 4,Af 5]
def sj:LSO:=[Aw 6 2 2,o1 7 (.build [(.sl [] 0 (some 0)),(.sl [] 0 (some 0))] [(0,(2,(tm 6)))]),Aa 8 1,Aq 9 102 7 8,Ar 10 9,Au 11 9,Ao 4 4 10,Aa 5 11]
def nM:br:=⟨12,(.seq (.sreg sn [])
 (.seq (.sreg sj Ci)
 .ret)),[(.cell true 4 4),(.tmp 5)]⟩
attribute [push_cast] sn sj
theorem Jt:bt Tryz.prog (fun _ _=>1) 49=some nM.raw:=by kernel_rfl
def jg:LSO:=[A5 2 0,A5 3 1,Bn 4,Af 5]
def jf:LSO:=[Ad 7 0 2,Ad 8 0 7,Ac 9 1 8,o1 10 (.mkfn 143 [(tm 3)]),Aq 11 142 9 10,Aa 6 11]
def je:LSO:=[Aa 12 6,AL 13 12 0]
def jd:LSO:=[o1 14 (.build [(.str []),(.int .i64 0),(.bool false),(.bool false)] []),Ao 4 4 14,Af 5]
def jc:LSO:=[Ad 15 0 2,Ad 16 0 15,Ac 17 1 16,Aa 18 6,An 19 4 17 18,Aw 20 4 19,Ao 4 4 20,Ay 5]
def fv:br:=⟨21,(.seq (.sreg jg [])
 (.seq (.sreg jf Ch)
 (.seq (.seq (.sreg je Cd)
 (.cond (tm 13) (.seq (.sreg jd Cd)
 .ret)
 .skip))
 (.seq (.sreg jc Ci)
 .ret)))),[(.cell true 4 4),(.tmp 5)]⟩
attribute [push_cast] jg jf je jd jc
theorem vY:bt Tryz.prog (fun _ _=>1) 102=some fv.raw:=by kernel_rfl
def fT:LSO:=[A5 2 0,Af 3]
def fS:LSO:=[Ad 4 0 2,Ac 5 1 4,Ac 6 1 1,Aq 7 144 5 6,Aa 3 7]
def eK:br:=⟨8,(.seq (.sreg fT [])
 (.seq (.sreg fS Cg)
 .ret)),[(.tmp 3)]⟩
attribute [push_cast] fT fS
theorem qY:bt Tryz.prog (fun _ _=>1) 143=some eK.raw:=by kernel_rfl
def si:LSO:=[Af 4]
def sg:LSO:=[Aa 5 0,Ai 6 38 5,Aa 7 1,Ai 8 38 7,AA 9 6 8,Aa 4 9]
def nL:br:=⟨10,(.seq (.sreg si [])
 (.seq (.sreg sg Ch)
 .ret)),[(.tmp 4)]⟩
attribute [push_cast] si sg
theorem Js:bt Tryz.prog (fun _ _=>1) 144=some nL.raw:=by kernel_rfl
def cV:LSO:=[Ab 4 0]
def cU:LSO:=[Aa 6 0,Al 7 6,Ab 8 0]
def cT:LSO:=[Ak 9 8 7]
def cR:LSO:=[Aa 10 8,Aa 5 10]
def cQ:LSO:=[Aa 11 1,Aa 12 0,Aa 13 5,An 14 4 12 13,Aw 15 4 14,Bo 16 11 15]
def cP:LSO:=[Aa 17 5,Aa 4 17]
def cO:LSO:=[Ah 18 8 1,Aa 8 18]
def cN:LSO:=[Ab 4 (-1)]
def b9:br:=⟨19,(.seq (.sreg cV [])
 (.seq (.seq (.sreg cU Cj)
 (.block 0 (.loop (.seq (.sreg cT [])
 (.seq (.cond (tm 9) .skip
 (.exit 0))
 (.seq (.block 1 (.seq (.sreg cR Cd)
 (.seq (.sreg cQ Ch)
 (.cond (tm 16) (.seq (.sreg cP Cd)
 .ret)
 .skip))))
 (.sreg cO Cd)))))))
 (.seq (.sreg cN [])
 .ret))),[(.tmp 4)]⟩
attribute [push_cast] cV cU cT cR cQ cP cO cN
theorem eF:bt Tryz.prog (fun _ _=>1) 142=some b9.raw:=by kernel_rfl
def bR:LSO:=[Ab 6 0,Af 7]
def bQ:LSO:=[Aa 12 0,Al 13 12,Aa 8 13]
def bP:LSO:=[Aa 14 8,Ab 9 0,Aa 10 14]
def bO:LSO:=[Aa 15 9,Aa 16 10,Ak 17 15 16]
def bN:LSO:=[Aa 18 9,Aa 19 10,AM 20 18 19,o1 21 (.conv .u64 (tm 20)),o1 22 (.bin .shr (tm 21) (.av (.int .u64 1))),Bf 23 22,
 Aa 11 23]
def bM:LSO:=[Aa 24 2,Aa 25 0,Aa 26 11,An 27 2 25 26,Aw 28 2 27,Aa 29 1,o1 30 (.callv (tm 24) [(tm 28),(tm 29)]),AL 31 30 0]
def bL:LSO:=[Aa 32 11,Ah 33 32 1,Aa 9 33]
def bK:LSO:=[Aa 34 11,Aa 10 34]
def bJ:LSO:=[Aa 35 9,Aa 36 9,Aa 37 8,Ak 38 36 37,Aa 39 38,.grp none 39 true
 [Ag 40 39 2,Ag 41 39 0,Ag 42 39 9,Bz 43 39 2 41 42,og 44 39 true (.load true 2 (tm 43)),Ag 45 39 1,og 46 39 true (.callv (tm 40) [(tm 44),(tm 45)]),B4 47 39 46 0]
 48 (tm 47),Aa 6 35,Aa 7 48]
def aK:br:=⟨49,(.seq (.sreg bR [])
 (.seq (.sreg bQ Ce)
 (.seq (.sreg bP Cj)
 (.seq (.block 0 (.loop (.seq (.seq (.sreg bO Ce)
 (.cond (tm 17) .skip
 (.exit 0)))
 (.block 1 (.seq (.sreg bN Ci)
 (.seq (.sreg bM Cm)
 (.cond (tm 31) (.sreg bL Ce)
 (.sreg bK Cd))))))))
 (.seq (.sreg bJ Co)
 .ret))))),[(.tmp 6),(.tmp 7)]⟩
attribute [push_cast] bR bQ bP bO bN bM bL bK bJ
theorem bG:bt Tryz.prog (fun _ _=>1) 145=some aK.raw:=by kernel_rfl
def dP:LSO:=[Aj 2]
def dO:LSO:=[Aa 3 0,o1 4 (.slnil false (tm 3))]
def dN:LSO:=[Aj 2]
def dM:LSO:=[o1 5 (.bslice false 1 0 [] []),Aa 6 0,o1 7 (.app 2 1 16 [(.str [])] (tm 5) (tm 6)),Aa 2 7]
def aO:br:=⟨8,(.seq (.sreg dP [])
 (.seq (.seq (.sreg dO Cd)
 (.cond (tm 4) (.seq (.sreg dN [])
 .ret)
 .skip))
 (.seq (.sreg dM Cf)
 .ret))),[(.tmp 2)]⟩
attribute [push_cast] dP dO dN dM
theorem bW:bt Tryz.prog (fun r i=>if r=3/\i=2 then 2 else 1) 51=some aO.raw:=by kernel_rfl
attribute [push_cast] eL nM fv b9 aK aO
set_option maxHeartbeats 8000000
set_option maxRecDepth 100000
def YH (L:List Blk) (C:List AV) (n s:Nat) (v:AV):Prop:=(∃ cap,v=.sl C n cap)\/∃ i cp rest,v=.lsl i 0 n cp s/\L[i]?=some (.cells (C++rest))
def Zr (f:FuncId) (caps:List AV) (L:List Blk) (el:Nat->AV) (tg:AV) (n:Nat) (c:Nat->Int):Prop:=∀ (h:Nat) (K:AV->List Blk->Prop),h<n->K (.int .i64 (c h)) L->Zx f ([el h,tg]++caps) L K
theorem Y7 {f:FuncId} {caps C:List AV} {n m:Nat} {tg v:AV} {c:Nat->Int} {L:List Blk} (hn:n<=1100000) (hC:C.length=n * 2) (hm:m<=n) (hrow:YH L C n 2 v) (hf:Zr f caps L (fun h=>.agg ((C.drop (h * 2)).take 2)) tg n c) (hc:∀ h,h<n->(c h<0↔h<m))
  {K:Zy} (h:K (.tup [.int .i64 (m:Nat),.bool (decide (m<n) && decide (c m=0))]) L) :
  Zx 145 [v,tg,.func f caps] L K:=by
 replace h:=hid h;replace hf:=hid hf;replace hc:=hid hc;rcases hrow with ⟨cap,rfl⟩|⟨bi,cp,rest,rfl,hL⟩
 ·refine Zw bG ?_;refine ak (fun q T' L'=>∃ a b:Nat,q=b - a/\a<=m/\m<=b/\b<=n/\T'=[(10,.int .i64 (b:Int)),(9,.int .i64 (a:Int)),(8,.int .i64 (n:Nat)),(0,.sl C n cap),(1,tg),(2,.func f caps)]/\L=L') (CutS (b:=ZA _)) ⟨0,n,rfl,ZI _,hm,ZA _,rfl,rfl⟩ ?_;rintro _ _ L' ⟨a,b,rfl,ham,hmb,hb,rfl,e⟩;subst e;by_cases hlt:a<b
  ·have g1:(a:Int)<(b:Int):=by omega
   obtain ⟨z,hz⟩:∃ z,z=(a+b) / 2:=⟨_,rfl⟩;have g2:IntKind.i64.wrap ((a:Int)+b)=(a:Int)+b:=ac (by omega) (by omega);have g3:IntKind.u64.wrap ((a:Int)+b)=(a:Int)+b:=K4 (by omega) (by omega);have g4:Int.fdiv ((a:Int)+b) (2 ^ (min 1 IntKind.u64.bits))=(z:Int):=by
    have:(2:Int) ^ (min 1 IntKind.u64.bits)=2:=by decide
    rw [this,Int.fdiv_eq_ediv_of_nonneg _ (by omega)];omega
   have g5:IntKind.i64.wrap (z:Int)=z:=ac (by omega) (by omega);have g6:=Zv z (by omega);have g8:a<=z/\z<b:=by omega
   have g9:(z:Int)<(n:Int):=by omega
   have hzn:z<n:=by omega
   have hcz:=hc.out z hzn;have e2:z * 2+2<=C.length:=by omega
   replace g8:=hid g8;replace hcz:=hid hcz;replace hC:=hid hC;clear hz;refine wk ?_;refine hf.out z _ hzn ?_;refine sk ?_;obtain ⟨w,hw⟩:=Zt (c z);rw [hw] at hcz;simp only [hw];by_cases hneg:w<0
   ·have hzm:=hcz.out.1 hneg;clear hcz hw;have hg8:=g8.out;refine wk ?_;exact aj _ _ _ (by omega) (CutL (b:=by simp)) ⟨z+1,b,rfl,hzm,hmb,hb,rfl,rfl⟩
   ·have hzm:m<=z:=by
     rcases ZT z m with e|e
     ·exact absurd (hcz.out.2 e) hneg
     ·exact e
    clear hcz hw;have hg8:=g8.out;refine wk ?_;exact aj _ _ _ (by omega) (CutL (b:=by simp)) ⟨a,z,rfl,ham,hzm,by omega,rfl,rfl⟩
  obtain rfl:a=m:=by omega
  obtain rfl:b=a:=by omega
  have g1:¬ (b:Int)<(b:Int):=by omega
  by_cases hbn:b<n
  ·have g2:(b:Int)<(n:Int):=by omega
   have h':=h.out;rw [decide_eq_true hbn,aaw] at h';obtain ⟨w,hw⟩:=Zt (c b);rw [hw] at h';replace h':=hid h';have e2:b * 2+2<=C.length:=by omega
   replace hC:=hid hC;have kk1:Hid (∀ {K:Zy},K (.int .i64 w) L->Zx f (AV.agg ((C.drop (b * 2)).take 2)::tg::caps) L K):=hid fun q=>hf.out b _ hbn (by rw [hw];exact q)
   refine wk ?_;exact aa h'.out
  ·have g2:¬ (b:Int)<(n:Int):=by omega
   have h':=h.out;rw [decide_eq_false hbn,aa5] at h';replace h':=hid h';refine wk ?_;exact aa h'.out
 ·refine Zw bG ?_;refine ak (fun q T' L'=>∃ a b:Nat,q=b - a/\a<=m/\m<=b/\b<=n/\T'=[(10,.int .i64 (b:Int)),(9,.int .i64 (a:Int)),(8,.int .i64 (n:Nat)),(0,.lsl bi 0 n cp 2),(1,tg),(2,.func f caps)]/\L=L') (CutS (b:=ZA _)) ⟨0,n,rfl,ZI _,hm,ZA _,rfl,rfl⟩ ?_;rintro _ _ L' ⟨a,b,rfl,ham,hmb,hb,rfl,e⟩;subst e;by_cases hlt:a<b
  ·have g1:(a:Int)<(b:Int):=by omega
   obtain ⟨z,hz⟩:∃ z,z=(a+b) / 2:=⟨_,rfl⟩;have g2:IntKind.i64.wrap ((a:Int)+b)=(a:Int)+b:=ac (by omega) (by omega);have g3:IntKind.u64.wrap ((a:Int)+b)=(a:Int)+b:=K4 (by omega) (by omega);have g4:Int.fdiv ((a:Int)+b) (2 ^ (min 1 IntKind.u64.bits))=(z:Int):=by
    have:(2:Int) ^ (min 1 IntKind.u64.bits)=2:=by decide
    rw [this,Int.fdiv_eq_ediv_of_nonneg _ (by omega)];omega
   have g5:IntKind.i64.wrap (z:Int)=z:=ac (by omega) (by omega);have g6:=Zv z (by omega);have g8:a<=z/\z<b:=by omega
   have g9:(z:Int)<(n:Int):=by omega
   have hzn:z<n:=by omega
   have hcz:=hc.out z hzn;have e1:((C++rest).drop (z * 2)).take 2=(C.drop (z * 2)).take 2:=by
    rw [List.drop_append_of_le_length (by omega),List.take_append_of_le_length (by simp;omega)]
   have e2:z * 2+2<=C.length+rest.length:=by omega
   replace g8:=hid g8;replace hcz:=hid hcz;replace hC:=hid hC;clear hz;refine wk ?_;refine hf.out z _ hzn ?_;refine sk ?_;obtain ⟨w,hw⟩:=Zt (c z);rw [hw] at hcz;simp only [hw];by_cases hneg:w<0
   ·have hzm:=hcz.out.1 hneg;clear hcz hw;have hg8:=g8.out;refine wk ?_;exact aj _ _ _ (by omega) (CutL (b:=by simp)) ⟨z+1,b,rfl,hzm,hmb,hb,rfl,rfl⟩
   ·have hzm:m<=z:=by
     rcases ZT z m with e|e
     ·exact absurd (hcz.out.2 e) hneg
     ·exact e
    clear hcz hw;have hg8:=g8.out;refine wk ?_;exact aj _ _ _ (by omega) (CutL (b:=by simp)) ⟨a,z,rfl,ham,hzm,by omega,rfl,rfl⟩
  obtain rfl:a=m:=by omega
  obtain rfl:b=a:=by omega
  have g1:¬ (b:Int)<(b:Int):=by omega
  by_cases hbn:b<n
  ·have g2:(b:Int)<(n:Int):=by omega
   have h':=h.out;rw [decide_eq_true hbn,aaw] at h';obtain ⟨w,hw⟩:=Zt (c b);rw [hw] at h';replace h':=hid h';have e1:((C++rest).drop (b * 2)).take 2=(C.drop (b * 2)).take 2:=by
    rw [List.drop_append_of_le_length (by omega),List.take_append_of_le_length (by simp;omega)]
   have e2:b * 2+2<=C.length+rest.length:=by omega
   replace hC:=hid hC;have kk1:Hid (∀ {K:Zy},K (.int .i64 w) L->Zx f (AV.agg ((C.drop (b * 2)).take 2)::tg::caps) L K):=hid fun q=>hf.out b _ hbn (by rw [hw];exact q)
   refine wk ?_;exact aa h'.out
  ·have g2:¬ (b:Int)<(n:Int):=by omega
   have h':=h.out;rw [decide_eq_false hbn,aa5] at h';replace h':=hid h';refine wk ?_;exact aa h'.out
variable {L:List Blk} {K:Zy}
theorem Tz {cap:Option Nat} (h:K (.sl [] 0 (some 0)) L):Zx 51 [.sl [] 0 cap] L K:=by
 refine ad bW (by simp [aO]) ?_;simp only [aO,aq]
 repeat' first
  | refine bb ?_
  | (first|refine aU (by kernel_rfl) ?_|refine aA (by kernel_rfl) ?_|refine aD ?_|refine bS ?_|refine bh (fun _=>?_)|refine ay ?_|refine aW ?_)
    refine sm ?_
  | (first|refine aP (by kernel_rfl) ?_|refine aQ ?_|refine aC ?_|refine aV ?_|refine bq (ax ?_))
    refine sl ?_
  | exact bj
  | first|apply bm|apply aR|apply bo|apply aS|apply bp|apply aT
  | refine aG ?_
  | refine aB ?_
  | first|refine aE rfl ?_|refine aF rfl ?_|refine an rfl ?_ ?_|refine aI rfl (fun _=>?_) (fun _=>?_)|refine aH rfl (fun _=>?_) (fun _=>?_)
  | ((first|refine am (fun _=>?_) (fun _=>?_)|refine aw (fun _=>?_) (fun _=>?_))<;>try refine sm ?_)
  | refine And.intro trivial ?_
  | refine And.intro (by omega) ?_
  | refine aM rfl (fun _=>?_) (fun _=>?_)
  | refine And.intro ?_ ?_
 all_goals (first|refine ae rfl (Kto h ?_)|refine aa (Kto h ?_)|refine ae (by simp only [AV.refs,AV.refsL, *];rfl) (Kto h ?_)|refine bv (ae rfl (Kto h ?_))|(trace_state;fail))
 all_goals (first|(simp [*];done)|(simp [*];omega)|(simp [*];intros;omega)|(simp_all [Hid,Hid];done)|(simp_all [Hid,Hid];omega))
theorem VT {xs:List (List UInt8)} {cap:Option Nat} (h0:xs.length≠0) (hn:xs.length<=1100000) (h:K (.lsl L.length 0 xs.length none 1) (L++[.cells (xs.map AV.str)])) :
  Zx 51 [.sl (xs.map AV.str) xs.length cap] L K:=by
 have h1:=UT xs;refine ad bW (by simp [aO]) ?_;simp only [aO,aq]
 repeat' first
  | refine bb ?_
  | (first|refine aU (by kernel_rfl) ?_|refine aA (by kernel_rfl) ?_|refine aD ?_|refine bS ?_|refine bh (fun _=>?_)|refine ay ?_|refine aW ?_)
    refine sm ?_
  | (first|refine aP (by kernel_rfl) ?_|refine aQ ?_|refine aC ?_|refine aV ?_|refine bq (ax ?_))
    refine sl ?_
  | exact bj
  | first|apply bm|apply aR|apply bo|apply aS|apply bp|apply aT
  | refine aG ?_
  | refine aB ?_
  | first|refine aE rfl ?_|refine aF rfl ?_|refine an rfl ?_ ?_|refine aI rfl (fun _=>?_) (fun _=>?_)|refine aH rfl (fun _=>?_) (fun _=>?_)
  | ((first|refine am (fun _=>?_) (fun _=>?_)|refine aw (fun _=>?_) (fun _=>?_))<;>try refine sm ?_)
  | refine And.intro trivial ?_
  | refine And.intro (by omega) ?_
  | refine aM rfl (fun _=>?_) (fun _=>?_)
  | refine And.intro ?_ ?_
 refine R5 L.length (.cells (xs.map AV.str)) rfl (ZA _) (by simp) (by simp [AV.refs]) (fA _ _) ?_;simpa [AV.ren] using h
abbrev bd (s:List UInt8):Prop:=(s.length:Int)<=140737488351232
theorem VP (a b:List UInt8):Lib.compareBytes a b<0↔a<b:=by
 rw [OJ];by_cases h:a<b
 ·simp [h]
 ·by_cases h2:b<a<;>simp [h,h2]
theorem Ty (a b:List UInt8):Lib.compareBytes a b=0↔a=b:=by
 rw [OJ];by_cases h:a<b
 ·simp only [h,if_true];exact ⟨fun e=>by omega,fun e=>by subst e;exact absurd h (aaL _)⟩
 ·by_cases h2:b<a
  ·simp only [h,h2,if_true,if_false];exact ⟨fun e=>by omega,fun e=>by subst e;exact absurd h2 (aaL _)⟩
  ·simp only [h,h2,if_false,true_iff];exact ack (aaS.1 h2) (aaS.1 h)
def XJ (w:AV):Prop:=(∃ l n cap,w=.sl l n cap)\/∃ i off n cp s,w=.lsl i off n cp s
theorem UN {x n:List UInt8} {w:AV} (hx:bd x) (hw:XJ w) (h:K (.int .i64 (Lib.compareBytes (ab x) n)) L) :
  Zx 146 [.agg [.str x,w],.str n] L K:=by
 replace h:=hid h;rcases hw with ⟨l,m,cap,rfl⟩|⟨i,off,m,cp,s,rfl⟩
 ·refine ad mG (by simp [eo]) ?_;simp only [eo,aq];have kk1:=@hid _ (fun L K=>eR hx (L:=L) (K:=K));have kk2:=@hid _ @Lb;refine wk ?_;exact ae rfl h.out
 ·refine ad mG (by simp [eo]) ?_;simp only [eo,aq];have kk1:=@hid _ (fun L K=>eR hx (L:=L) (K:=K));have kk2:=@hid _ @Lb;refine wk ?_;exact ae rfl h.out
def Zk (l:List Atr) (C:List AV):Prop:=C.length=l.length * 2/\∀ h:Nat,h<l.length->∃ w,XJ w/\(C.drop (h * 2)).take 2=[.str (l.getD h ([],[])).1,w]
def To {α:Type} (key:α->List UInt8) (l:List α) (k:List UInt8):Bool:=l.any fun a=>decide (key a=k)
theorem Q5 {α:Type} {key:α->List UInt8} {l:List α} {k:List UInt8} (hr:gr key l) {d:α}:To key l k=(decide (eX key l k<l.length) && decide (key (l.getD (eX key l k) d)=k)):=by
 rw [To,Tx hr];by_cases hc:eX key l k<l.length
 ·rw [ZR hc,decide_eq_true hc,aaw];simp [hc]
 ·rw [aaM (by omega),decide_eq_false hc];rfl
theorem WX {l:List Atr} {C:List AV} {v:AV} {n:List UInt8} {L:List Blk} (hl:l.length<=1100000) (hC:Zk l C) (hrow:YH L C l.length 2 v) (hr:gr dC l) (hn:bd n) (hz:∀ a∈l,bd a.1)
  {K:Zy} (h:K (.tup [.int .i64 (eX dC l (ab n):Nat),.bool (To dC l (ab n))]) L) :
  Zx 103 [v,.str n] L K:=by
 have hbs:∀ {K:Zy},K (.tup [.int .i64 (eX dC l (ab n):Nat),.bool (To dC l (ab n))]) L->Zx 145 [v,.str (ab n),.func 146 []] L K:=fun {K} q=>by
  refine Y7 (m:=eX dC l (ab n)) (c:=fun h=>Lib.compareBytes (dC (l.getD h ([],[]))) (ab n)) hl hC.1 (RO _ _ _) hrow (fun h K hh hk=>?_) (fun h hh=>?_) ?_
  ·obtain ⟨w,hw,e⟩:=hC.2 h hh;simp only [e];refine UN (hz _ ?_) hw hk;simp [hh]
  ·simp only [VP];have:=VO (key:=dC) (k:=ab n) hr h hh;simpa [hh] using this
  ·have:=Q5 (key:=dC) (k:=ab n) hr (d:=([],[]));rw [this] at q;simpa only [Ty] using q
 replace hbs:=@hid _ @hbs;replace h:=hid h;rcases hrow with ⟨cap,rfl⟩|⟨bi,cp,rest,rfl,hL⟩
 ·refine ad qZ (by simp [fo]) ?_;simp only [fo,aq];have kk2:=@hid _ @hbs.out;have kk1:=@hid _ (fun L K=>eR hn (L:=L) (K:=K));refine wk ?_;exact aa h.out
 ·refine ad qZ (by simp [fo]) ?_;simp only [fo,aq];have kk2:=@hid _ @hbs.out;have kk1:=@hid _ (fun L K=>eR hn (L:=L) (K:=K));refine wk ?_;exact aa h.out
abbrev tyC (ty:Typ):List AV:=[.str ty.1,.int .i64 ty.2.1,.bool ty.2.2.1,.bool ty.2.2.2]
def cy (ts:List Typ):List AV:=ts.flatMap tyC
theorem G3 (ts:List Typ):(cy ts).length=ts.length * 4:=by
 induction ts with
 | nil=>rfl
 | cons a l ih=>simp only [cy,aaO,ZQ,tyC,ZN,aav] at ih ⊢;omega
abbrev lW:Typ:=([],0,false,false)
theorem Dm:∀ {ts:List Typ} {k:Nat},k<ts.length->((cy ts).drop (k * 4)).take 4=tyC (ts.getD k lW)
 | a::l,0,_=>rfl
 | a::l,k+1,h=>by
   have ih:=@Dm l k (by simpa using h);rw [show (k+1) * 4=k * 4+1+1+1+1 by omega];simpa [cy,tyC] using ih
theorem Yf {a b:List UInt8} (ha:bd a) (hb:bd b) (h:K (.bool (decide (ab a=ab b))) L):Zx 144 [.str a,.str b] L K:=by
 replace h:=hid h;refine ad Js (by simp [nL]) ?_;simp only [nL,aq];have kk1:=@hid _ (fun L K=>eR ha (L:=L) (K:=K));have kk2:=@hid _ (fun L K=>eR hb (L:=L) (K:=K));refine wk ?_;exact aa h.out
theorem W3 {ty:Typ} {n:List UInt8} {p:Nat} (ha:bd ty.1) (hn:bd n) {L:List Blk} (hp:L[p]?=some (.cells [.str n])) {K:Zy} (h:K (.bool (decide (ab ty.1=ab n))) L) :
  Zx 143 [.agg (tyC ty),.ptr p 0] L K:=by
 replace h:=hid h;have hp2:∀ X:List Blk,(L++X)[p]?=some (.cells [.str n]):=fun X=>by
  rw [ZM (Zz.1 hp).1];exact hp
 refine ad qY (by simp [eK]) ?_;simp only [eK,aq];have kk1:=@hid _ (fun L K=>Yf ha hn (L:=L) (K:=K));refine wk ?_;exact ae rfl h.out
theorem Yk {f:FuncId} {caps:List AV} {ts:List Typ} {cap:Option Nat} {q:Typ->Bool} {L:List Blk} (hn:ts.length<=1100000) (hf:∀ (ty:Typ) (K:AV->List Blk->Prop),ty∈ts->K (.bool (q ty)) L->Zx f (.agg (tyC ty)::caps) L K)
  {K:Zy} (h1:(∀ ty∈ts,q ty=false)->K (.int .i64 (-1)) L) (h2:∀ k:Nat,k<ts.length->(∀ j,j<k->q (ts.getD j lW)=false)->q (ts.getD k lW)=true->K (.int .i64 k) L) :
  Zx 142 [.sl (cy ts) ts.length cap,.func f caps] L K:=by
 replace hf:=hid hf;replace h1:=hid h1;replace h2:=hid h2;refine Zw eF ?_;refine ak (fun n T' L'=>∃ k:Nat,n=ts.length - k/\k<=ts.length/\T'=[(8,.int .i64 (k:Int)),(7,.int .i64 ts.length),(0,.sl (cy ts) ts.length cap),(1,.func f caps)]/\L=L' /\
  ∀ j,j<k->q (ts.getD j lW)=false) (CutS (b:=ZA _)) ⟨0,rfl,ZI _,rfl,rfl,by simp⟩ ?_
 rintro _ _ L' ⟨k,rfl,hk,rfl,e,hr⟩;subst e;replace hr:=hid hr;by_cases hlt:k<ts.length
 ·have g1:(k:Int)<(ts.length:Int):=by omega
  have g2:=Zv k (by omega);have e4:k * 4+4<=(cy ts).length:=by rw [G3];omega
  have e3:=Dm hlt;obtain ⟨ty,hty⟩:=Zt (ts.getD k lW);have hm:ty∈ts:=by rw [<- hty];simp [hlt]
  rw [hty] at e3;replace hty:=hid hty;rcases hqk:q ty with _|_
  ·have kk1:Hid (∀ {K:Zy},K (.bool false) L->Zx f (.agg (tyC ty)::caps) L K):=hid fun a=>hf.out ty _ hm (by rw [hqk];exact a)
   replace hqk:=hid hqk;simp only [tyC] at kk1 e3;refine wk ?_;refine aj _ _ _ (by omega) (CutL (b:=by simp)) ⟨k+1,rfl,hlt,rfl,rfl,fun j hj=>?_⟩;rcases ZT j k with h|h
   ·exact hr.out j h
   ·have:j=k:=by omega
    subst this;rw [hty.out];exact hqk.out
  ·have kk1:Hid (∀ {K:Zy},K (.bool true) L->Zx f (.agg (tyC ty)::caps) L K):=hid fun a=>hf.out ty _ hm (by rw [hqk];exact a)
   replace hqk:=hid hqk;simp only [tyC] at kk1 e3;refine wk ?_;exact aa (h2.out k hlt hr.out (by rw [hty.out];exact hqk.out))
 ·have g1:¬ (k:Int)<(ts.length:Int):=by omega
  refine wk ?_;refine aa (h1.out fun ty hty=>?_);obtain ⟨j,hj,e⟩:=aa1.1 hty;have:=hr.out j (by omega);simpa [hj,e] using this
def Km (o:Option Typ):AV:=.tup [.agg (tyC (o.getD lW)),.bool o.isSome]
theorem GC {α:Type} {q:α->Bool} {d:α}:∀ {l:List α} {k:Nat},k<l.length->(∀ j,j<k->q (l.getD j d)=false)->q (l.getD k d)=true->l.find? q=some (l.getD k d)
 | a::t,0,_,_,h=>by
   simp only [aaB] at h ⊢;rw [aaK,h]
 | a::t,k+1,hk,hp,h=>by
   have h0:=hp 0 (by omega);simp only [aaB] at h0;rw [aaK,h0];simp only [aba] at h ⊢;exact GC (by simpa using hk) (fun j hj=>by simpa using hp (j+1) (by omega)) h
theorem Yg {ts:List Typ} {capT:Option Nat} {c2:List AV} {n2:Nat} {cap2:Option Nat} {n:List UInt8} (hl:ts.length<=1100000) (hts:∀ t∈ts,bd t.1) (hn:bd n) (h:K (Km (eD ts n)) L) :
  Zx 102 [.agg [.sl (cy ts) ts.length capT,.sl c2 n2 cap2],.str n] L K:=by
 replace h:=hid h;refine Zw vY ?_;refine Yk (q:=fun t=>decide (ab t.1=ab n)) hl (fun ty K hm hk=>?_) (fun hno=>?_) (fun k hk hp hq=>?_)
 ·exact W3 (hts ty hm) hn (by simp) hk
 ·have e:eD ts n=none:=acl.2 fun t ht=>by simpa using hno t ht
  rw [e] at h;simp only [Km,ab8,abg,tyC] at h;refine sk ?_;refine wk ?_;exact ae rfl h.out
 ·have e:eD ts n=some (ts.getD k lW):=GC (d:=lW) hk hp hq;have e4:k * 4+4<=(cy ts).length:=by rw [G3];omega
  have e3:=Dm hk;have g1:¬ (k:Int)<0:=by omega
  have g2:(k:Int)<(ts.length:Int):=by omega
  obtain ⟨ty,hty⟩:=Zt (ts.getD k lW);rw [hty] at e e3;rw [e] at h;simp only [Km,aaA,abm,tyC] at h e3;clear hp hq hty e;refine sk ?_;refine wk ?_;exact ae rfl h.out
theorem Yq {ts:List Typ} {capT:Option Nat} {c2:List AV} {n2:Nat} {cap2:Option Nat} {n:List UInt8} (hl:ts.length<=1100000) (hts:∀ t∈ts,bd t.1) (hn:bd n) (h:K (Km (eD ts n)) L) :
  Zx 49 [.agg [.sl (cy ts) ts.length capT,.sl c2 n2 cap2],.str n] L K:=by
 unfold Km at h;refine Zw Jt ?_;refine Yg hl hts hn ?_;unfold Km;obtain ⟨ty,hty⟩:=Zt ((eD ts n).getD lW);obtain ⟨b,hb⟩:=Zt ((eD ts n).isSome);rw [hty,hb] at h ⊢;replace h:=hid h;refine sk ?_;refine wk ?_;exact ae rfl h.out
abbrev PAt:=Nat×Atr
abbrev pC (q:PAt):List AV:=[.str q.2.1,.lsl q.1 0 q.2.2.length none 1]
def psC (ps:List PAt):List AV:=ps.flatMap pC
abbrev noP:PAt:=(0,[],[])
def MH (L:List Blk) (b p:Nat) (s1 s2:AV) (ps:List PAt):Prop :=
 b<=p/\(ps.map (·.1)).Nodup/\(∀ q∈ps,b<=q.1/\q.1≠p/\∃ rest,L[q.1]?=some (.cells (q.2.2.map AV.str++rest))) /\
 ((L[p]?=some (.cells [s1,s2,.sl [] 0 (some 0)])/\ps=[])\/∃ r rest,L[p]?=some (.cells [s1,s2,.lsl r 0 ps.length none 2])/\L[r]?=some (.cells (psC ps++rest))/\b<=r/\r≠p/\∀ q∈ps,q.1≠r)
theorem MH.row {L:List Blk} {b p:Nat} {s1 s2:AV} {ps:List PAt} (h:MH L b p s1 s2 ps):∃ row,L[p]?=some (.cells [s1,s2,row])/\YH L (psC ps) ps.length 2 row/\(row=.sl [] 0 (some 0)/\ps=[]\/∃ r rest,row=.lsl r 0 ps.length none 2/\L[r]?=some (.cells (psC ps++rest))/\b<=r/\r≠p/\∀ q∈ps,q.1≠r):=by
 obtain ⟨_,_,_,h4⟩:=h;rcases h4 with ⟨h1,rfl⟩|⟨r,rest,h1,h2,h3⟩
 ·exact ⟨_,h1,.inl ⟨some 0,rfl⟩,.inl ⟨rfl,rfl⟩⟩
 ·exact ⟨_,h1,.inr ⟨r,none,rest,rfl,h2⟩,.inr ⟨r,rest,rfl,h2,h3⟩⟩
def Kpt (b:Nat) (L L':List Blk):Prop:=b<=L'.length/\∀ k,k<b->L'[k]?=L[k]?
theorem Kpt.trans {b:Nat} {L L1 L2:List Blk} (h:Kpt b L L1) (k:Kpt b L1 L2):Kpt b L L2:=⟨k.1,fun i hi=>(k.2 i hi).trans (h.2 i hi)⟩
theorem Kpt.app {b:Nat} {L:List Blk} (h:b<=L.length) (X:List Blk):Kpt b L (L++X):=⟨by simp;omega,fun k hk=>by rw [ZM (by omega)]⟩
theorem Kpt.eq {b:Nat} {L L':List Blk} (h:Kpt b L L') (hb:b=L.length):∃ X,L'=L++X:=by
 refine ⟨L'.drop L.length,?_⟩;apply aaZ;intro i;rw [aaG];split
 ·rename_i hi;rw [h.2 i (by omega)]
 ·rw [aan];congr 1;omega
theorem Wx {l:List Atr} {n:List UInt8} (hr:gr dC l):dz l n=if To dC l (ab n)=true then (l.getD (eX dC l (ab n)) ([],[])).2 else []:=by
 rw [N2 n l hr,Q5 hr (d:=([],[]))];by_cases hc:eX dC l (ab n)<l.length
 ·rw [ZR hc];simp [hc]
 ·rw [aaM (by omega)];simp [hc]
theorem TM {syn:Int} {single:Bool} {l:List (List UInt8)} {v:List UInt8} {vs:List (List UInt8)} (h:cW syn v=none):dZ syn single l (v::vs)=([],21):=by rw [dZ,h]
theorem TK {syn:Int} {single:Bool} {l:List (List UInt8)} {v n:List UInt8} {vs:List (List UInt8)} (h:cW syn v=some n):dZ syn single l (v::vs)=if inM syn l n=true then ([],20) else dZ syn single (ff syn v false l) vs:=by rw [dZ,h]
theorem MH.frame {L L':List Blk} {b p:Nat} {s1 s2:AV} {ps:List PAt} (h:MH L b p s1 s2 ps) (hf:∀ k,k<L.length->L'[k]?=L[k]?):MH L' b p s1 s2 ps:=by
 have up:∀ (i:Nat) (k:Blk),L[i]?=some k->L'[i]?=some k:=fun i k hk=>by rw [hf i (Zz.1 hk).1];exact hk
 obtain ⟨h1,h2,h3,h4⟩:=h;refine ⟨h1,h2,fun q hq=>?_,?_⟩
 ·obtain ⟨a,c,rest,d⟩:=h3 q hq;exact ⟨a,c,rest,up _ _ d⟩
 ·rcases h4 with ⟨a,c⟩|⟨r,rest,a,c,d⟩
  ·exact .inl ⟨up _ _ a,c⟩
  ·exact .inr ⟨r,rest,up _ _ a,up _ _ c,d⟩
theorem SQ {l:List Nat} {c x:Nat} (h:l.Nodup) (hx:∀ i:Nat,i≠c->l[i]?≠some x):(l.set c x).Nodup:=by
 rw [List.nodup_iff_pairwise_ne,acx] at h ⊢;intro i j hi hj hij;simp only [acm] at hi hj;rw [List.getElem_set,List.getElem_set];split
 ·rename_i e1
  rw [if_neg (by omega)];intro e;exact hx j (by omega) (by rw [ZR hj,e])
 ·split
  ·intro e;exact hx i (by omega) (by rw [ZR hi,<- e])
  ·exact h i j hi hj hij
theorem Ke {α:Type} {l:List α} {c:Nat} {x q:α} (h:q∈l.set c x):q=x\/∃ i,i≠c/\l[i]?=some q:=by
 obtain ⟨i,hi⟩:=abf.1 h;rw [ZX] at hi;split at hi
 ·split at hi
  ·cases hi;exact .inl rfl
  ·cases hi
 ·rename_i e
  exact .inr ⟨i,fun e'=>e e'.symm,hi⟩
theorem RI {ps:List PAt} (h:(ps.map (·.1)).Nodup) {i c:Nat} {q a:PAt} (hi:ps[i]?=some q) (hc:ps[c]?=some a) (hne:i≠c):q.1≠a.1:=fun e=>by
 obtain ⟨h1,rfl⟩:=Zz.1 hi;obtain ⟨h2,rfl⟩:=Zz.1 hc;rw [List.nodup_iff_pairwise_ne,acx] at h;rcases Nat.lt_or_gt_of_ne hne with h3|h3
 ·exact h i c (by simpa using h1) (by simpa using h2) h3 (by simpa using e)
 ·exact h c i (by simpa using h2) (by simpa using h1) h3 (by simpa using e.symm)
theorem MH.vals {L L' L2:List Blk} {b p:Nat} {s1 s2:AV} {ps:List PAt} {c j:Nat} {u:List (List UInt8)} {rest:List AV} (h:MH L b p s1 s2 ps) (hc:c<ps.length) {l0 jat:Nat} (hl0:L.length<=l0) (hjat:jat=(ps.getD c noP).1) (hfr:∀ k,k<l0->k≠jat->L'[k]?=L[k]?\/L.length<=k)
  (hj:j=jat\/l0<=j) (hLj:L'[j]?=some (.cells (u.map AV.str++rest))) {r:Nat} {rest2:List AV} (hLp:L[p]?=some (.cells [s1,s2,.lsl r 0 ps.length none 2])) (hLr:L[r]?=some (.cells (psC ps++rest2))) (hbr:b<=r) (hrp:r≠p) (hqr:∀ q∈ps,q.1≠r)
  (h2:L2=L'.set r (.cells (psC (ps.set c (j,(ps.getD c noP).2.1,u))++rest2))):MH L2 b p s1 s2 (ps.set c (j,(ps.getD c noP).2.1,u)):=by
 obtain ⟨g1,g2,g3,g4⟩:=h;have hcg:ps[c]?=some (ps.getD c noP):=by simp [hc]
 have hm:ps.getD c noP∈ps:=aad hcg;have lt:∀ (i:Nat) (k:Blk),L[i]?=some k->i<L.length:=fun i k hk=>(Zz.1 hk).1
 obtain ⟨m1,m2,mr,m3⟩:=g3 _ hm;rw [<- hjat] at m1 m2 m3;have hjl:=lt _ _ m3;have hrl:=lt _ _ hLr;have hpl:=lt _ _ hLp;have keep:∀ k,k<L.length->k≠jat->k≠r->L2[k]?=L[k]?:=fun k hk hkj hkr=>by
  rw [h2,ZU (Ne.symm hkr)];rcases hfr k (by omega) hkj with e|e
  ·exact e
  ·omega
 have hrj:r≠jat:=by rw [hjat];exact (hqr _ hm).symm
 have hjr:j≠r:=by rcases hj with e|e<;>omega
 have hrl':r<L'.length:=by
  rcases hfr r (by omega) hrj with e|e
  ·rw [hLr] at e;exact (Zz.1 e).1
  ·omega
 refine ⟨g1,?_,fun q hq=>?_,.inr ⟨r,rest2,?_,?_,hbr,hrp,fun q hq=>?_⟩⟩
 ·rw [List.map_set];refine SQ g2 fun i hi e=>?_
  rw [aag,ZZ] at e;obtain ⟨q,e1,e2⟩:=e;have:=RI g2 e1 hcg hi;rw [<- hjat] at this;obtain ⟨_,_,_,q3⟩:=g3 q (aad e1);have:=lt _ _ q3;omega
 ·rcases Ke hq with rfl|⟨i,hi,e⟩
  ·refine ⟨by simp only;omega,?_,rest,?_⟩
   ·simp only;rcases hj with e|e
    ·rw [e];exact m2
    ·omega
   ·simp only;rw [h2,ZU (Ne.symm hjr)];exact hLj
  ·obtain ⟨q1,q2,qr,q3⟩:=g3 q (aad e);have hne:=RI g2 e hcg hi;rw [<- hjat] at hne;refine ⟨q1,q2,qr,?_⟩;rw [keep _ (lt _ _ q3) hne (hqr q (aad e))];exact q3
 ·rw [keep p hpl (fun e=>m2 e.symm) (Ne.symm hrp),acm];exact hLp
 ·rw [h2];simp [hrl']
 ·rcases Ke hq with rfl|⟨i,hi,e⟩
  ·exact hjr
  ·exact hqr q (aad e)
theorem MH.more {L L2:List Blk} {b p c j r:Nat} {s1 s2:AV} {ps:List PAt} {n:List UInt8} {u:List (List UInt8)} {rest:List AV} (h:MH L b p s1 s2 ps) (hc:c<=ps.length) (hkeep:∀ q∈ps,L2[q.1]?=L[q.1]?)
  (hjb:b<=j) (hjp:j≠p) (hjq:∀ q∈ps,q.1≠j) (hLj:L2[j]?=some (.cells (u.map AV.str++rest))) (hLp:L2[p]?=some (.cells [s1,s2,.lsl r 0 (ps.length+1) none 2])) (hLr:L2[r]?=some (.cells (psC (ps.take c++(j,n,u)::ps.drop c)))) (hbr:b<=r) (hrp:r≠p) (hrj:j≠r) (hqr:∀ q∈ps,q.1≠r) :
  MH L2 b p s1 s2 (ps.take c++(j,n,u)::ps.drop c):=by
 obtain ⟨g1,g2,g3,g4⟩:=h;have hperm:(ps.take c++(j,n,u)::ps.drop c).Perm ((j,n,u)::ps):=Ln ps c _;refine ⟨g1,?_,fun q hq=>?_,.inr ⟨r,[],?_,by rw [aah];exact hLr,hbr,hrp,fun q hq=>?_⟩⟩
 ·refine ((hperm.map (·.1)).nodup_iff).2 ?_;simp only [ZK,aay];refine ⟨fun hm=>?_,g2⟩;obtain ⟨q,hq,e⟩:=ZC.1 hm;exact hjq q hq e
 ·rcases Dr.1 hq with rfl|hq
  ·exact ⟨hjb,hjp,rest,hLj⟩
  ·obtain ⟨q1,q2,qr,q3⟩:=g3 q hq;exact ⟨q1,q2,qr,by rw [hkeep q hq];exact q3⟩
 ·have:(ps.take c++(j,n,u)::ps.drop c).length=ps.length+1:=by simpa using hperm.length_eq
  rw [this];exact hLp
 ·rcases Dr.1 hq with rfl|hq
  ·exact hrj
  ·exact hqr q hq
def Y9 (ts:List Typ):Prop:=ts.length<=1100000/\(∀ ty∈ts,bd ty.1)/\∀ ty∈ts,eD ts ty.1=some ty
theorem K8 {n:List UInt8} {vs:List (List UInt8)} {a:Atr}:∀ {d:Bool} {l:List Atr},a∈me n vs d l->a=(n,vs)\/a∈l
 | d,[],h=>by
   rw [me] at h;split at h
   ·cases h
   ·simp at h;exact .inl h
 | d,x::t,h=>by
   rw [me,ZD,ZD] at h;rcases h with (h|h)|h
   ·split at h
    ·simp at h;exact .inl h
    ·cases h
   ·split at h
    ·simp at h;exact .inr (by simp [h])
    ·cases h
   ·rcases K8 h with e|e
    ·exact .inl e
    ·exact .inr (by simp [e])
theorem N5 {n:List UInt8} {vs:List (List UInt8)}:∀ {d:Bool} {l:List Atr},(me n vs d l).length<=l.length+(if d=true then 0 else 1)
 | d,[]=>by rw [me];split<;>simp
 | d,x::t=>by
   have ih:=@N5 n vs (d || !decide (ab x.1<ab n)) t;rw [me];simp only [ZQ,ZN];have h1:(if ab n≠ab x.1 then [x] else []).length<=1:=by split<;>simp
   obtain ⟨z,hz⟩:=Zt ((if ab n≠ab x.1 then [x] else []).length);rw [hz] at h1 ⊢;cases d with
   | true =>
     simp only [aaF,false_and,if_false,aav,abI,if_true] at ih ⊢;omega
   | false =>
     by_cases hx:ab x.1<ab n
     ·simp only [hx,decide_true,abh,Bool.or_self,ZP,if_false] at ih ⊢;simp;omega
     ·simp only [hx,decide_false,abu,abW,if_true] at ih ⊢;simp;omega
theorem T9 {l:List Atr} {n:List UInt8} {m:Nat} (h:∀ a∈l,a.2.length<=m):(dz l n).length<=m:=by
 induction l with
 | nil=>simp [dz]
 | cons a l ih =>
   rw [dz];split
   ·exact h a (by simp)
   ·exact ih fun b hb=>h b (by simp [hb])
theorem VY (l:List Atr):Zk l (be l):=by
 exact ⟨kO l,fun h hh=>⟨G9 (l.getD h ([],[])).2,.inl ⟨_,_,_,rfl⟩,l3 hh⟩⟩
theorem VH {l:List Atr} {cap:Option Nat} {n:List UInt8} (hl:l.length<=1100000) (hr:gr dC l) (hz:∀ a∈l,bd a.1/\a.2.length<=1100000) (hn:bd n) (h:K (G9 (dz l n)) L) :
  Zx 52 [.sl (be l) l.length cap,.str n] L K:=by
 obtain ⟨c,hc⟩:=Zt (eX dC l (ab n));obtain ⟨fd,hfd⟩:=Zt (To dC l (ab n));have hv:=Wx (n:=n) hr;rw [hfd,hc] at hv;rw [hv] at h;have hpc:∀ {K:Zy},K (.tup [.int .i64 c,.bool fd]) L->Zx 103 [.sl (be l) l.length cap,.str n] L K:=fun {K} q =>
  WX hl (VY l) (.inl ⟨cap,rfl⟩) hr hn (fun a ha=>(hz a ha).1) (by rw [hc,hfd];exact q)
 have kk1:=@hid _ @hpc;clear hpc;rcases fd with _|_
 ·rw [if_neg (by simp)] at h;replace h:=hid h;refine Zw mH ?_;exact bv (aa h.out)
 ·rw [if_pos rfl] at h;have h0:=Q5 (key:=dC) (k:=ab n) hr (d:=([],[]));rw [hfd,hc] at h0;have h1:c<l.length:=by simpa using ((ZE _ _).mp h0.symm).1
  have e5:=VX h1;have hm:l.getD c ([],[])∈l:=by simp [h1]
  have hln:=(hz _ hm).2;obtain ⟨vs,hvs⟩:=Zt ((l.getD c ([],[])).2);rw [hvs] at h e5 hln;have e6:(c:Int)<(l.length:Int):=by omega
  have e7:c * 2+1<(be l).length:=by rw [kO];omega
  replace h:=hid h;clear h0 hm hvs hv hfd hc;by_cases h2:vs.length=0
  ·obtain rfl:vs=[]:=by simpa using h2
   refine ad mH (by simp [eL]) ?_;simp only [eL,aq];have kk2:=@hid _ (fun L K=>Tz (cap:=none) (L:=L) (K:=K));refine wk ?_;exact bv (aa h.out)
  ·refine ad mH (by simp [eL]) ?_;simp only [eL,aq];have kk2:=@hid _ (fun L K=>VT (cap:=none) (L:=L) (K:=K) h2 hln);refine wk ?_;refine P7 (i:=L.length) (l:=vs.map AV.str) (by rw [Z5 (ZA _),aaY];rfl) ?_;have e8:((vs.map AV.str).drop 0).take (vs.length * 1)=vs.map AV.str:=by
    rw [abk,Nat.mul_one,aaR (by simp)]
   simp only [AV.snap,if_true,e8];rw [aaz _ _ (ZA _)];refine ae ?_ h.out;simp only [AV.refs,fA]
def vR (l:List UInt8):Bool:=l.any fun c=>c != 32
def Hc (t:List UInt8) (k:Nat):List UInt8:=if vR (t.drop k)=true then bF (t.take k) else cZ (bF (t.take k))
theorem NM {t:List UInt8} {k:Nat} (h:k<t.length):t.drop k=t.getD k 0::t.drop (k+1):=by
 rw [aal h,Z2,ZR h];rfl
theorem LM (c:UInt8) (l:List UInt8):vR (c::l)=(c != 32 || vR l):=rfl
theorem eN (b:List UInt8) (c:UInt8):cZ (b++[c])=if c=32 then b else b++[c]:=by simp [cZ]
theorem LF (t:List UInt8):∀ k,k<=t.length->bF (t.take k)≠[]->(qV (bF (t.take k))=true↔t.getD (k - 1) 0=32)
 | 0,_,h=>by simp [bF] at h
 | k+1,hk,h=>by
   have ih:=LF t k (by omega);rw [rk (show k<t.length by omega)] at h ⊢;rw [show k+1 - 1=k by omega];unfold aJ at h ⊢;split
   ·rename_i e;exact ⟨fun _=>e.1,fun _=>e.2⟩
   ·simp [qV]
theorem SA {t:List UInt8} {k:Nat} (h:k<t.length):Hc t (k+1) =
  if vR (t.drop k)=false\/(t.getD k 0=32/\(Hc t k=[]\/t.getD (k - 1) 0=32)) then Hc t k else Hc t k++[t.getD k 0]:=by
 have hd:=NM h;have hl:=LF t k (by omega);unfold Hc;rw [rk h,hd,LM];obtain ⟨c,hc⟩:=Zt (t.getD k 0);obtain ⟨p,hp⟩:=Zt (bF (t.take k));rw [hc];rw [hp] at hl ⊢;have he:p=[]->qV p=true:=fun e=>by rw [e];rfl
 by_cases h32:c=32
 ·subst h32;by_cases hn:vR (t.drop (k+1))=true
  ·simp only [hn,bne_self_eq_false,aa2,if_true,aJ,true_and,aaF,false_or];by_cases hp0:p=[]
   ·simp [hp0,qV]
   ·simp [hp0,hl hp0]
  ·have hn':vR (t.drop (k+1))=false:=by simpa using hn
   simp only [hn',bne_self_eq_false,aa2,ZP,if_false,true_or,if_true];unfold aJ;split
   ·rfl
   ·rename_i e
    rw [eN,if_pos rfl];unfold cZ;rw [if_neg];intro e2;exact e ⟨rfl,by simp [qV,e2]⟩
 ·have hb:(c != 32)=true:=by simpa using h32
  simp only [hb,abI,if_true,h32,false_and,or_false,aaF,if_false];have:aJ p c=p++[c]:=by rw [aJ,if_neg fun e=>h32 e.1]
  rw [this,eN,if_neg h32];split<;>rfl
theorem Sz (t:List UInt8):Hc t 0=[]:=by unfold Hc;split<;>simp [bF,cZ]
theorem UC (t:List UInt8):Hc t t.length=cZ (bF t):=by simp [Hc,vR]
theorem UB (t:List UInt8) (k:Nat):(Hc t k).length<=k:=by
 have:=l6 t k;unfold Hc;split
 ·exact this
 ·unfold cZ;split
  ·simp;omega
  ·exact this
theorem rf {s:List UInt8} (hs:(s.length:Int)<=100000) (h:K (.str (bD s)) L):Zx 90 [.str s] L K:=by
 replace h:=hid h;refine ad KL (by simp [rM]) ?_;simp only [rM,aq];obtain ⟨t,ht⟩:=Zt (ab s);have htl:(t.length:Int)<=100000:=by rw [<- ht];simpa [ab] using hs
 have hfin:=hid (show Hc t t.length=bD s by rw [UC,bD,ht]);have kk1:=@hid _ (fun L K=>iX hs (L:=L) (K:=K));refine wk ?_;refine cG (l:=[]) (n:=0) 4 1 rfl (aae 1).symm ?_;refine ak (fun n T' L'=>∃ (k:Nat) (b:List UInt8) (v:List AV) (m:Nat),n=t.length - k/\k<=t.length/\b=Hc t k/\v=u8s b/\m=b.length/\T'=[(5,.int .i64 (k:Int)),(4,.gsl v m L.length 1),(3,.str t),(2,.str [])]/\L'=L++[.spare m 1]) (CutS (b:=by simp)) ⟨0,[],[],0,rfl,ZI _,(Sz t).symm,rfl,rfl,rfl,rfl⟩ ?_;rintro _ _ _ ⟨k,b,v,m,rfl,hk,hb,rfl,rfl,rfl,rfl⟩;replace hb:=hid hb;by_cases hlt:k<t.length
 ·have h1:(k:Int)<(t.length:Int):=by omega
  have h2:=Zv k (by omega);refine wk ?_;have hbl:b.length<=k:=by rw [hb.out];exact UB t k
  have hub:(u8s b).length=b.length:=by simp [u8s]
  have hsucc:=hid (SA hlt);refine ak (fun n T' L'=>∃ (j:Nat) (later:Bool),n=t.length - j/\j<=t.length/\(later=true->vR (t.drop k)=true)/\(later=false->vR (t.drop k)=vR (t.drop j))/\T'=[(7,.int .i64 (j:Int)),(6,.bool later),(5,.int .i64 (k:Int)),(4,.gsl (u8s b) b.length L.length 1),(3,.str t),(2,.str [])]/\L'=L++[.spare b.length 1]) (CutS (b:=by simp)) ⟨k,false,rfl,by omega,(by simp),(by simp),rfl,rfl⟩ ?_;rintro _ _ _ ⟨j,later,rfl,hj,hla,hlb,rfl,rfl⟩;replace hla:=hid hla;replace hlb:=hid hlb;obtain ⟨c,hc⟩:=Zt (t.getD k 0);rw [hc] at hsucc;have hc':((t[k]?.getD 0))=c:=by rw [<- hc,Z2]
  cases later
  ·by_cases hjl:j<t.length
   ·have g1:(j:Int)<(t.length:Int):=by omega
    have g2:=Zv j (by omega);have hd:=hid (NM hjl);obtain ⟨x,hx⟩:=Zt (t.getD j 0);rw [hx] at hd;refine wk ?_;have hx32:(x != 32) = !decide ((x.toNat:Int)=32):=by
     have:(x.toNat:Int)=32↔x=32:=⟨fun h=>abb.1 (by have:(32:UInt8).toNat=32:=rfl;omega),fun h=>by rw [h];rfl⟩;by_cases h:x=32<;>simp [h,this]
    have hnb:=hlb.out rfl;rw [hd.out,LM,hx32] at hnb;refine aj _ _ _ (by omega) (CutL (b:=by simp)) ⟨j+1, !decide ((x.toNat:Int)=32),rfl,hjl,fun e=>by rw [hnb,e];rfl,fun e=>by rw [hnb,e];rfl,rfl,rfl⟩
   ·have g1:¬ (j:Int)<(t.length:Int):=by omega
    have hn:vR (t.drop k)=false:=by rw [hlb.out rfl,abn (by omega)];rfl
    replace hsucc:=hid (show Hc t (k+1)=b by rw [hsucc.out,if_pos (.inl hn),hb.out]);refine wk ?_;exact aj _ _ _ (by omega) (CutL (b:=by simp)) ⟨k+1,b,_,b.length,rfl,hlt,hsucc.out.symm,rfl,rfl,rfl,rfl⟩
  ·have hn:vR (t.drop k)=true:=hla.out rfl;have hs2:=hsucc.out;rw [hn] at hs2;simp only [aaF,false_or,<- hb.out] at hs2;replace hs2:=hid hs2;have g6:b.length≠0->(1:Int)<=(k:Int):=fun h=>by omega
   replace g6:=hid g6;have g7:=hid fun h:1<=k=>show IntKind.i64.wrap ((k:Int) - 1)=(k:Int) - 1 from ac (by omega) (by omega)
   have u32:∀ x:UInt8,(x.toNat:Int)=32↔x=32:=fun x=>⟨fun h=>abb.1 (by have:(32:UInt8).toNat=32:=rfl;omega),fun h=>by rw [h];rfl⟩
   replace u32:=hid u32
   repeat' first
    | refine bb ?_
    | (first|refine aU (by kernel_rfl) ?_|refine aA (by kernel_rfl) ?_|refine aD ?_|refine bS ?_|refine bh (fun _=>?_)|refine ay ?_|refine aW ?_)
      refine sm ?_
    | (first|refine aP (by kernel_rfl) ?_|refine aQ ?_|refine aC ?_|refine aV ?_|refine bq (ax ?_))
      refine sl ?_
    | exact bj
    | first|apply bm|apply aR|apply bo|apply aS|apply bp|apply aT
    | refine aG ?_
    | refine aB ?_
    | first|refine aE rfl ?_|refine aF rfl ?_|refine an rfl ?_ ?_|refine aI rfl (fun _=>?_) (fun _=>?_)|refine aH rfl (fun _=>?_) (fun _=>?_)
    | ((first|refine am (fun _=>?_) (fun _=>?_)|refine aw (fun _=>?_) (fun _=>?_))<;>try refine sm ?_)
    | refine And.intro trivial ?_
    | refine And.intro (by omega) ?_
    | refine aM rfl (fun _=>?_) (fun _=>?_)
    | refine And.intro ?_ ?_
   ·rename_i hz
    rw [g7.out (by omega)];omega
   ·rename_i hz
    rw [g7.out (by omega)];omega
   ·rename_i hq
    have hcond:c=32/\(b=[]\/t.getD (k - 1) 0=32):=by
     refine ⟨(u32.out c).1 hq.1,?_⟩;rcases hq.2 with e|e
     ·exact .inl (aaj.1 (by omega))
     ·by_cases hb0:b=[]
      ·exact .inl hb0
      ·have hk1:1<=k:=by have:=aaQ.2 hb0;omega
       rw [g7.out hk1,show ((k:Int) - 1).toNat=k - 1 by omega] at e;exact .inr ((u32.out _).1 e)
    exact aj _ _ _ (by omega) (CutL (b:=by simp)) ⟨k+1,b,_,b.length,rfl,hlt,by rw [hs2.out,if_pos hcond],rfl,rfl,rfl,rfl⟩
   ·rename_i hq
    have hcond:¬ (c=32/\(b=[]\/t.getD (k - 1) 0=32)):=fun ⟨e1,e2⟩=>hq (by
     refine ⟨(u32.out c).2 e1,?_⟩;by_cases hb0:b=[]
     ·exact .inl (by rw [hb0];rfl)
     ·have hk1:1<=k:=by have:=aaQ.2 hb0;omega
      rcases e2 with e|e
      ·exact absurd e hb0
      ·refine .inr ?_;rw [g7.out hk1,show ((k:Int) - 1).toNat=k - 1 by omega];exact (u32.out _).2 e)
    rw [show u8s b++[AV.int IntKind.u8 (c.toNat:Int)]=u8s (b++[c]) by simp [u8s]];exact aj _ _ _ (by omega) (CutL (b:=by simp)) ⟨k+1,b++[c],_,b.length+1,rfl,hlt,by rw [hs2.out,if_neg hcond],rfl,by simp,rfl,rfl⟩
 ·have hke:k=t.length:=by omega
  subst hke;have h1:¬ (t.length:Int)<(t.length:Int):=by omega
  have e1:=fP b;have e2:=fc b;have e3:=hid (show b=bD s by rw [hb.out,hfin.out]);refine wk ?_;refine ae rfl ?_;rw [e3.out];exact h.out
end Go.Proofs.YtcmfcpjnhephaaaGreatDoor.Av
