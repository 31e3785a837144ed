/- Joined texts of the walk, made small by a program. -/
import Derived.Test.YtcmfcpjnhephaaaGreatDoorJk16
import Derived.Test.YtcmfcpjnhephaaaGreatDoorJk17
import Derived.Test.YtcmfcpjnhephaaaGreatDoorJk4
import Derived.Test.YtcmfcpjnhephaaaGreatDoorJk5
import Derived.Shelf.SlIterI.Nil
import Derived.Lib.SlKeysI
import Derived.Test.YtcmfcpjnhephaaaGreatDoorJk6
import Derived.Test.YtcmfcpjnhephaaaGreatDoorJk19
import Derived.Test.YtcmfcpjnhephaaaGreatDoorJk18
set_option linter.unusedSimpArgs false
set_option linter.unusedVariables false
namespace Go.Proofs.YtcmfcpjnhephaaaGreatDoor.Av
open Go
variable {L:List Blk} {K:abD}
set_option maxHeartbeats 8000000
set_option maxRecDepth 100000
abbrev Ent:=Int×Bool×Nat
def Ov (p:Ent):AV×AV×Nat:=(.int .i64 p.1,.bool p.2.1,p.2.2)
abbrev fj (xs:List Ent):List (AV×AV×Nat):=xs.map Ov
theorem Vl (q:Nat->Bool) (xs:List Ent) (ck:Nat):Blk.refs q (.map (fj xs) ck)=true:=by
 simp [Blk.refs,Ov,AV.refs]
theorem RB:∀ (xs:List Ent) (p:Ent) (k:Nat),(xs.map (·.1)).Nodup->p∈xs->∃ j,dJ (.int .i64 p.1) (fj xs) k=some (some (k+j,.bool p.2.1))/\(fj xs).eraseIdx j=fj (xs.filter fun r=>decide (r.1≠p.1))
 | [],p,k,_,h=>by cases h
 | x::xs,p,k,hn,h=>by
   rw [abS,acz] at hn;by_cases hx:p.1=x.1
   ·have hp:p=x:=by
     rcases abJ.1 h with h|h
     ·exact h
     ·exact absurd (abI.2 ⟨p,h,hx⟩) hn.1
    subst hp;refine ⟨0,by simp [fj,Ov,dJ,rK],?_⟩;have hf:xs.filter (fun r=>decide (r.1≠p.1))=xs:=aeu.2 fun r hr=>by
     have:r.1≠p.1:=fun e=>hn.1 (abI.2 ⟨r,hr,e⟩)
     simpa using this
    simp only [abS,List.eraseIdx_zero,List.tail_cons,aec,ne_eq,not_true_eq_false,decide_false,abU,if_false];simp only [ne_eq] at hf;rw [hf]
   ·have hm:p∈xs:=by
     rcases abJ.1 h with h|h
     ·exact absurd (by rw [h]) hx
     ·exact h
    obtain ⟨j,h1,h2⟩:=RB xs p (k+1) hn.2 hm;refine ⟨j+1,?_,?_⟩
    ·simp only [fj,abS,Ov,dJ,rK,if_true,decide_eq_false hx];simp only [fj] at h1;rw [h1,show k+1+j=k+(j+1) by omega]
    ·have hx':x.1≠p.1:=fun e=>hx e.symm
     simp only [fj,abS,List.eraseIdx_cons_succ,aec,hx',ne_eq,not_false_eq_true,decide_true,if_true];simp only [fj,ne_eq] at h2;rw [h2]
theorem YX {xs:List Ent} {p:Ent} {ck:Nat} {seen:List Nat} (hb:(xs.map (·.2.2)).Nodup) (hp:p∈xs):mat (fj xs) ck (seen++[p.2.2]) ck=some (.int .i64 p.1,.bool p.2.1,p.2.2):=by
 have key:∀ xs:List Ent,(xs.map (·.2.2)).Nodup->p∈xs->(fj xs).find? (fun e=>Nat.beq e.2.2 p.2.2)=some (Ov p):=by
  intro xs
  induction xs with
  | nil=>intro _ h;cases h
  | cons x xs ih =>
    intro hn h;rw [abS,acz] at hn;rcases abJ.1 h with h|h
    ·subst h;simp [fj,Ov]
    ·have hne:x.2.2≠p.2.2:=fun e=>hn.1 (abI.2 ⟨p,h,e.symm⟩)
     have hbq:Nat.beq x.2.2 p.2.2=false:=by
      cases hh:Nat.beq x.2.2 p.2.2 with
      | false=>rfl
      | true=>exact absurd (aew hh) hne
     simp only [fj,abS,acP];rw [show Nat.beq (Ov x).2.2 p.2.2=false from hbq];exact ih hn.2 h
 simp only [mat,List.getLast?_append,List.getLast?_singleton,Option.some_or,if_true];exact key xs hb hp
def XY (f:FuncId) (caps:List AV) (ok:List Blk->Prop) (q:Int->Bool):Prop:=∀ (L:List Blk) (x:Int) (b:Bool) (K:AV->List Blk->Prop),ok L->K (.bool (q x)) L->abC f ([.int .i64 x,.bool b]++caps) L K
def xA (xs:List Ent) (q:Int->Bool) (seen:List Nat):List Ent:=xs.filter fun p => !(seen.contains p.2.2 && q p.1)
theorem EX {X Y:Type} {f:X->Y}:∀ {l:List X},(l.map f).Nodup->∀ {a b:X},a∈l->b∈l->f a=f b->a=b
 | x::l,h,a,b,ha,hb,e=>by
   rw [abS,acz] at h;rcases abJ.1 ha with h1|h1
   ·rcases abJ.1 hb with h2|h2
    ·rw [h1,h2]
    ·exact absurd (abI.2 ⟨b,h2,by rw [<- e,h1]⟩) h.1
   ·rcases abJ.1 hb with h2|h2
    ·exact absurd (abI.2 ⟨a,h1,by rw [e,h2]⟩) h.1
    ·exact EX h.2 h1 h2 e
theorem V7 {xs:List Ent} {q:Int->Bool} {seen:List Nat} {p:Ent} (hk:(xs.map (·.1)).Nodup) (hb:(xs.map (·.2.2)).Nodup) (hp:p∈xs) (hq:q p.1=true):(xA xs q seen).filter (fun r=>decide (r.1≠p.1))=xA xs q (seen++[p.2.2]):=by
 unfold xA;rw [List.filter_filter];refine ad5 fun r hr=>?_
 by_cases e:r=p
 ·subst e;simp [hq]
 ·have e1:r.1≠p.1:=fun h=>e (EX hk hr hp h)
  have e2:r.2.2≠p.2.2:=fun h=>e (EX (f:=fun x:Ent=>x.2.2) hb hr hp h)
  simp [e1,e2]
theorem Yz {xs:List Ent} {q:Int->Bool} {seen:List Nat} {p:Ent} (hb:(xs.map (·.2.2)).Nodup) (hp:p∈xs) (hq:q p.1=false):xA xs q (seen++[p.2.2])=xA xs q seen:=by
 unfold xA;refine ad5 fun r hr=>?_
 by_cases e:r=p
 ·subst e;simp [hq]
 ·have e2:r.2.2≠p.2.2:=fun h=>e (EX (f:=fun x:Ent=>x.2.2) hb hr hp h)
  simp [e2]
theorem V8 {xs:List Ent} {q:Int->Bool} {seen:List Nat} (h:∀ e∈fj (xA xs q seen),seen.contains e.2.2=true):xA xs q seen=xs.filter fun p => !q p.1:=by
 unfold xA at h ⊢;refine ad5 fun r hr=>?_
 cases hq:q r.1 with
 | false=>simp
 | true =>
   have:seen.contains r.2.2=true:=by
    cases hs:seen.contains r.2.2 with
    | true=>rfl
    | false =>
      have:=h (Ov r) (abI.2 ⟨r,acl.2 ⟨hr,by simp only [hs,adb,ads]⟩,rfl⟩);rw [show (Ov r).2.2=r.2.2 from rfl,hs] at this;exact this
   simp only [this,adv]
theorem Uh {xs:List Ent} {seen:List Nat} {p:Ent} (hp:p∈xs) (hs:seen.contains p.2.2=false):(xs.filter fun r => !(seen++[p.2.2]).contains r.2.2).length<(xs.filter fun r => !seen.contains r.2.2).length:=by
 have e:(xs.filter fun r => !(seen++[p.2.2]).contains r.2.2)=(xs.filter fun r => !seen.contains r.2.2).filter (fun r=>decide (r.2.2≠p.2.2)):=by
  rw [List.filter_filter];refine ad5 fun r _=>?_
  by_cases h:r.2.2=p.2.2<;>simp [h]
 rw [e];refine aeF.2 ⟨p,acl.2 ⟨hp,by rw [hs];rfl⟩,by simp⟩
theorem TC {f:FuncId} {caps:List AV} {ok:List Blk->Prop} {q:Int->Bool} {xs:List Ent} {i ck:Nat} (hq:XY f caps ok q) (hok:∀ l c y,ok (L.set i (.map l c)++[y])) (hk:(xs.map (·.1)).Nodup) (hb:(xs.map (·.2.2)).Nodup) (hc:∀ p∈xs,p.2.2<ck)
  (hi:L[i]?=some (.map (fj xs) ck)) (h:K (.tup []) (L.set i (.map (fj (xs.filter fun p => !q p.1)) ck))) :
  abC 42 [.lmap i,.func f caps] L K:=by
 have hil:i<L.length:=(abE.1 hi).1;have hset:L.set i (.map (fj xs) ck)=L:=by
  apply ac6;intro j;rw [ab3];split
  ·rename_i e;subst e
   first|exact hi.symm|(rw [if_pos hil];exact hi.symm)
  ·rfl
 replace h:=hid h;replace hq:=hid hq;replace hok:=hid hok;replace hk:=hid hk;replace hb:=hid hb;replace hc:=hid hc;replace hset:=hid hset;refine ad dT (by simp [bJ]) ?_;simp only [bJ,ao]
 repeat' first
  | refine a8 ?_
  | (first|refine aU (by kernel_rfl) ?_|refine aB (by kernel_rfl) ?_|refine aE ?_|refine bI ?_|refine bf (fun _=>?_)|refine ay ?_|refine aW ?_)
    refine sm ?_
  | (first|refine aO (by kernel_rfl) ?_|refine aP ?_|refine aD ?_|refine aV ?_|refine bp (ax ?_))
    refine sl ?_
  | exact bg
  | first|apply bh|apply aR|apply bj|apply aS|apply bm|apply aT
  | refine aH ?_
  | refine aC ?_
  | first|refine aF rfl ?_|refine aG rfl ?_|refine an rfl ?_ ?_|refine aJ rfl (fun _=>?_) (fun _=>?_)|refine aI rfl (fun _=>?_) (fun _=>?_)
  | ((first|refine am (fun _=>?_) (fun _=>?_)|refine aw (fun _=>?_) (fun _=>?_))<;>try refine sm ?_)
  | refine And.intro trivial ?_
  | refine And.intro (by omega) ?_
  | refine aM rfl (fun _=>?_) (fun _=>?_)
  | refine And.intro ?_ ?_
 have e0:xA xs q []=xs:=by simp [xA]
 refine ak (fun n T' L'=>∃ (seen:List Nat),n=(xs.filter fun r => !seen.contains r.2.2).length/\T'=[(7,.ptr L.length 0),(0,.lmap i),(1,.func f caps)]/\L'=L.set i (.map (fj (xA xs q seen)) ck)++[.miter (some i) ck seen ck]) (CutS (b:=by simp)) ⟨[],rfl,rfl,by rw [e0,hset.out]⟩ ?_;clear hi e0;rintro _ _ _ ⟨seen,rfl,rfl,rfl⟩;have i1:∀ A B,(L.set i A++[B])[L.length]?=some B:=fun A B=>by simp
 have i2:∀ A B,(L.set i A++[B])[i]?=some A:=fun A B=>by rw [abQ (by simpa using hil)];simp [hil]
 have i3:∀ A B C,(L.set i A++[B]).set L.length C=L.set i A++[C]:=fun A B C=>by
  have:=sc (L.set i A) B C []
  rwa [aeq] at this
 have i4:∀ A B C,(L.set i A++[B]).set i C=L.set i C++[B]:=fun A B C=>by
  rw [acH _ _ (by simpa using hil),ad8]
 refine a8 ?_;refine MG (i:=L.length) (j:=i) (es:=fj (xA xs q seen)) (by kernel_rfl) rfl (i1 _ _) (i2 _ _) (fun e he=>?_) (abF _) (fun hall=>?_) (fun e he hs=>?_)
 ·obtain ⟨p,hp,rfl⟩:=abI.1 he;exact hc.out p (acl.1 hp).1
 ·have hfin:=h.out;rw [<- V8 hall] at hfin;replace hfin:=hid hfin;clear hall;simp only [Kon,push_cast,reduceIte,Nat.reduceEqDiff,Nat.reduceAdd,Nat.reduceMul,Nat.reduceSub,Nat.reduceLT,Nat.reduceLeDiff,Int.reduceLT,Int.reduceLE,Int.reduceAdd,Int.reduceSub,Int.reduceNeg,Int.reduceToNat,Int.reduceEq,reduceCtorEq, *]
  repeat' first
   | refine a8 ?_
   | (first|refine aU (by kernel_rfl) ?_|refine aB (by kernel_rfl) ?_|refine aE ?_|refine bI ?_|refine bf (fun _=>?_)|refine ay ?_|refine aW ?_)
     refine sm ?_
   | (first|refine aO (by kernel_rfl) ?_|refine aP ?_|refine aD ?_|refine aV ?_|refine bp (ax ?_))
     refine sl ?_
   | exact bg
   | first|apply bh|apply aR|apply bj|apply aS|apply bm|apply aT
   | refine aH ?_
   | refine aC ?_
   | first|refine aF rfl ?_|refine aG rfl ?_|refine an rfl ?_ ?_|refine aJ rfl (fun _=>?_) (fun _=>?_)|refine aI rfl (fun _=>?_) (fun _=>?_)
   | ((first|refine am (fun _=>?_) (fun _=>?_)|refine aw (fun _=>?_) (fun _=>?_))<;>try refine sm ?_)
   | refine And.intro trivial ?_
   | refine And.intro (by omega) ?_
   | refine aM rfl (fun _=>?_) (fun _=>?_)
   | refine And.intro ?_ ?_
  exact .inl rfl;refine ⟨True,[],rfl,trivial,?_⟩;refine RV (L0:=L) (L1:=L.set i (.map (fj (xA xs q seen)) ck)) (by simp) (fun hw k hk'=>?_) rfl hfin.out;rcases List.mem_or_eq_of_mem_set hk' with h1|h1
  ·exact hw k h1
  ·rw [h1];exact Vl _ _ _
 ·obtain ⟨p,hp,rfl⟩:=abI.1 he;clear he;have hpx:=(acl.1 hp).1;have hs':seen.contains p.2.2=false:=hs;have hlt:=hid (Uh hpx hs');have hsub:(xA xs q seen).Sublist xs:=aer;have hmat:=YX (ck:=ck) (seen:=seen) (List.Nodup.sublist (hsub.map (fun x:Ent=>x.2.2)) hb.out) hp;obtain ⟨jj,hj1,hj2⟩:=RB (xA xs q seen) p 0 (List.Nodup.sublist (hsub.map (fun x:Ent=>x.1)) hk.out) hp;have hy:=hid (fun hq'=>V7 (seen:=seen) hk.out hb.out hpx (q:=q) hq');have hn:=hid (fun hq'=>Yz (seen:=seen) hb.out hpx (q:=q) hq');rw [acT] at hj1;obtain ⟨x,b,m⟩:=p;simp only [Ov] at *;clear hs hs' hsub hp;simp only [i3];have hkf:bC .int (.int .i64 x)=true:=rfl;have hle:(L++[Blk.miter (some i) ck [] ck]).length<=(L.set i (Blk.map (fj (xA xs q seen)) ck)++[Blk.miter (some i) ck (seen++[m]) ck]).length:=by simp
  replace hle:=hid hle;simp only [Kon,push_cast,reduceIte,Nat.reduceEqDiff,Nat.reduceAdd,Nat.reduceMul,Nat.reduceSub,Nat.reduceLT,Nat.reduceLeDiff,Int.reduceLT,Int.reduceLE,Int.reduceAdd,Int.reduceSub,Int.reduceNeg,Int.reduceToNat,Int.reduceEq,reduceCtorEq, *]
  repeat' first
   | refine a8 ?_
   | (first|refine aU (by kernel_rfl) ?_|refine aB (by kernel_rfl) ?_|refine aE ?_|refine bI ?_|refine bf (fun _=>?_)|refine ay ?_|refine aW ?_)
     refine sm ?_
   | (first|refine aO (by kernel_rfl) ?_|refine aP ?_|refine aD ?_|refine aV ?_|refine bp (ax ?_))
     refine sl ?_
   | exact bg
   | first|apply bh|apply aR|apply bj|apply aS|apply bm|apply aT
   | refine aH ?_
   | refine aC ?_
   | first|refine aF rfl ?_|refine aG rfl ?_|refine an rfl ?_ ?_|refine aJ rfl (fun _=>?_) (fun _=>?_)|refine aI rfl (fun _=>?_) (fun _=>?_)
   | ((first|refine am (fun _=>?_) (fun _=>?_)|refine aw (fun _=>?_) (fun _=>?_))<;>try refine sm ?_)
   | refine And.intro trivial ?_
   | refine And.intro (by omega) ?_
   | refine aM rfl (fun _=>?_) (fun _=>?_)
   | refine And.intro ?_ ?_
  refine hq.out _ _ _ _ (hok.out _ _ _) ?_;simp only [Kon,push_cast,reduceIte,Nat.reduceEqDiff,Nat.reduceAdd,Nat.reduceMul,Nat.reduceSub,Nat.reduceLT,Nat.reduceLeDiff,Int.reduceLT,Int.reduceLE,Int.reduceAdd,Int.reduceSub,Int.reduceNeg,Int.reduceToNat,Int.reduceEq,reduceCtorEq, *];rcases hqx:q x with _|_
  ·have e1:=hid (hn.out hqx)
   repeat' first
    | refine a8 ?_
    | (first|refine aU (by kernel_rfl) ?_|refine aB (by kernel_rfl) ?_|refine aE ?_|refine bI ?_|refine bf (fun _=>?_)|refine ay ?_|refine aW ?_)
      refine sm ?_
    | (first|refine aO (by kernel_rfl) ?_|refine aP ?_|refine aD ?_|refine aV ?_|refine bp (ax ?_))
      refine sl ?_
    | exact bg
    | first|apply bh|apply aR|apply bj|apply aS|apply bm|apply aT
    | refine aH ?_
    | refine aC ?_
    | first|refine aF rfl ?_|refine aG rfl ?_|refine an rfl ?_ ?_|refine aJ rfl (fun _=>?_) (fun _=>?_)|refine aI rfl (fun _=>?_) (fun _=>?_)
    | ((first|refine am (fun _=>?_) (fun _=>?_)|refine aw (fun _=>?_) (fun _=>?_))<;>try refine sm ?_)
    | refine And.intro trivial ?_
    | refine And.intro (by omega) ?_
    | refine aM rfl (fun _=>?_) (fun _=>?_)
    | refine And.intro ?_ ?_
   refine ai _ _ _ hlt.out (CutS (b:=by simp)) ⟨seen++[m],rfl,rfl,?_⟩;rw [e1.out]
  ·have e1:=hid (hy.out hqx)
   repeat' first
    | refine a8 ?_
    | (first|refine aU (by kernel_rfl) ?_|refine aB (by kernel_rfl) ?_|refine aE ?_|refine bI ?_|refine bf (fun _=>?_)|refine ay ?_|refine aW ?_)
      refine sm ?_
    | (first|refine aO (by kernel_rfl) ?_|refine aP ?_|refine aD ?_|refine aV ?_|refine bp (ax ?_))
      refine sl ?_
    | exact bg
    | first|apply bh|apply aR|apply bj|apply aS|apply bm|apply aT
    | refine aH ?_
    | refine aC ?_
    | first|refine aF rfl ?_|refine aG rfl ?_|refine an rfl ?_ ?_|refine aJ rfl (fun _=>?_) (fun _=>?_)|refine aI rfl (fun _=>?_) (fun _=>?_)
    | ((first|refine am (fun _=>?_) (fun _=>?_)|refine aw (fun _=>?_) (fun _=>?_))<;>try refine sm ?_)
    | refine And.intro trivial ?_
    | refine And.intro (by omega) ?_
    | refine aM rfl (fun _=>?_) (fun _=>?_)
    | refine And.intro ?_ ?_
   refine ai _ _ _ hlt.out (CutS (b:=by simp)) ⟨seen++[m],rfl,rfl,?_⟩;rw [<- e1.out]
def Rm (es:List (AV×AV×Nat)) (x:Int):Option Bool:=match dJ (.int .i64 x) es 0 with
 | some (some (_,.bool b))=>some (!b)
 | some none=>some true
 | _=>none
theorem Sy {ip j ck:Nat} {es:List (AV×AV×Nat)} (q:Int->Bool) (hes:∀ x,Rm es x=some (q x)):XY 43 [.ptr ip 0] (fun L=>L[ip]?=some (.cells [.lmap j])/\L[j]?=some (.map es ck)) q:=fun L x b K hok h=>by
 obtain ⟨h1,h2⟩:=hok;replace h:=hid h;have hx:=hes x;clear hes;unfold Rm at hx;have hkf:bC .int (.int .i64 x)=true:=rfl;refine ad fG (by simp [cZ]) ?_;simp only [cZ,ao];split at hx
 ·rename_i jj y hm
  simp only [abG] at hx;replace hx:=hid hx
  repeat' first
   | refine a8 ?_
   | (first|refine aU (by kernel_rfl) ?_|refine aB (by kernel_rfl) ?_|refine aE ?_|refine bI ?_|refine bf (fun _=>?_)|refine ay ?_|refine aW ?_)
     refine sm ?_
   | (first|refine aO (by kernel_rfl) ?_|refine aP ?_|refine aD ?_|refine aV ?_|refine bp (ax ?_))
     refine sl ?_
   | exact bg
   | first|apply bh|apply aR|apply bj|apply aS|apply bm|apply aT
   | refine aH ?_
   | refine aC ?_
   | first|refine aF rfl ?_|refine aG rfl ?_|refine an rfl ?_ ?_|refine aJ rfl (fun _=>?_) (fun _=>?_)|refine aI rfl (fun _=>?_) (fun _=>?_)
   | ((first|refine am (fun _=>?_) (fun _=>?_)|refine aw (fun _=>?_) (fun _=>?_))<;>try refine sm ?_)
   | refine And.intro trivial ?_
   | refine And.intro (by omega) ?_
   | refine aM rfl (fun _=>?_) (fun _=>?_)
   | refine And.intro ?_ ?_
  have h':=h.out;rw [<- hx.out] at h';exact aa h'
 ·rename_i hm
  simp only [abG] at hx;replace hx:=hid hx
  repeat' first
   | refine a8 ?_
   | (first|refine aU (by kernel_rfl) ?_|refine aB (by kernel_rfl) ?_|refine aE ?_|refine bI ?_|refine bf (fun _=>?_)|refine ay ?_|refine aW ?_)
     refine sm ?_
   | (first|refine aO (by kernel_rfl) ?_|refine aP ?_|refine aD ?_|refine aV ?_|refine bp (ax ?_))
     refine sl ?_
   | exact bg
   | first|apply bh|apply aR|apply bj|apply aS|apply bm|apply aT
   | refine aH ?_
   | refine aC ?_
   | first|refine aF rfl ?_|refine aG rfl ?_|refine an rfl ?_ ?_|refine aJ rfl (fun _=>?_) (fun _=>?_)|refine aI rfl (fun _=>?_) (fun _=>?_)
   | ((first|refine am (fun _=>?_) (fun _=>?_)|refine aw (fun _=>?_) (fun _=>?_))<;>try refine sm ?_)
   | refine And.intro trivial ?_
   | refine And.intro (by omega) ?_
   | refine aM rfl (fun _=>?_) (fun _=>?_)
   | refine And.intro ?_ ?_
  have h':=h.out;rw [<- hx.out] at h';exact aa h'
 ·cases hx
theorem UU {ip:Nat}:XY 43 [.ptr ip 0] (fun L=>L[ip]?=some (.cells [.nilmap])) (fun _=>true):=fun L x b K hok h=>by
 replace h:=hid h;have hkf:bC .int (.int .i64 x)=true:=rfl;refine ad fG (by simp [cZ]) ?_;simp only [cZ,ao]
 repeat' first
  | refine a8 ?_
  | (first|refine aU (by kernel_rfl) ?_|refine aB (by kernel_rfl) ?_|refine aE ?_|refine bI ?_|refine bf (fun _=>?_)|refine ay ?_|refine aW ?_)
    refine sm ?_
  | (first|refine aO (by kernel_rfl) ?_|refine aP ?_|refine aD ?_|refine aV ?_|refine bp (ax ?_))
    refine sl ?_
  | exact bg
  | first|apply bh|apply aR|apply bj|apply aS|apply bm|apply aT
  | refine aH ?_
  | refine aC ?_
  | first|refine aF rfl ?_|refine aG rfl ?_|refine an rfl ?_ ?_|refine aJ rfl (fun _=>?_) (fun _=>?_)|refine aI rfl (fun _=>?_) (fun _=>?_)
  | ((first|refine am (fun _=>?_) (fun _=>?_)|refine aw (fun _=>?_) (fun _=>?_))<;>try refine sm ?_)
  | refine And.intro trivial ?_
  | refine And.intro (by omega) ?_
  | refine aM rfl (fun _=>?_) (fun _=>?_)
  | refine And.intro ?_ ?_
 exact aa h.out
open Go Go.Proofs Go.RowKit Go.Maps Go.Sort Go.Shelf
theorem OV (m:Nat):AnyZI.SortsIn Tryz.prog Tryz.sortedA_ren Fence.wide m :=
 ⟨fun blk off cap ss W hH hblk hsz=>callsIn_wide.2 (Tryz.slices_Sort_int blk off cap ss W hH hblk hsz),
  fun p cap W=>callsIn_wide.2 (Tryz.slices_Sort_int_none p cap W)⟩
set_option maxHeartbeats 2000000 in
theorem UC {H:Type} (b nn:Nat) (D0:DataW H) (R:Value->Option (DataW H×List MemPlace)) (w:World) (hown:w.ownsMap Tryz.prog 3 R b nn D0) (hmax:Maps.size D0<=maxLen) (hbytes:Maps.size D0 * 8<=140737488355328) :
  Calls Tryz.prog 44 #[.map (some b)] w fun e w'=>∃ (v:Value) (ss:List Int),e=.returned v/\ss.Perm (intKeys D0) /\
   w'.ownsRow w.heap.size 3 1 v ss.length ((ss.mergeSort (fun x y=>decide (x<=y))).map encZ)/\(v=.slice none 0 0↔ss=[])/\Below w.heap.size w w':=by
 refine (callsIn_wide (n:=6)).1 ?_;have hbl:=hown.lt;have hseq:SeqGives Fence.wide 2 Tryz.prog 129 #[.pointer (some ⟨w.heap.size,0,none⟩)] encZ (fun ss=>ss.Perm (intKeys D0)) (Maps.size D0) (w.alloc (.cells #[.map (some b)] 101)) :=
  AnyZI.keys_gives (ρ:=Tryz.keysA_ren) { Tryz.keysA with } Fence.wide _ trivial rfl (by omega) w.heap.size b nn D0 _ (by simp) (by simp) (by
   obtain ⟨es,clock,hb,Ft,hs,hD⟩:=hown;exact ⟨es,clock,(Below.heap_alloc _ _ b hbl).trans hb,Ft,hs,hD⟩)
 have cK:∀ mb W,CallsIn Fence.wide 5 Tryz.prog 88 #[.map mb] W fun e w'=>e=.returned (.func (.func 129) #[] #[.pointer (some ⟨W.heap.size,0,none⟩)])/\w'=W.alloc (.cells #[.map mb] 101):=fun mb W=>AnyZI.keys_in Tryz.keysA Fence.wide 5 trivial rfl mb W
 have cS:=AnyZI.sorted_in Tryz.sortedA Fence.wide 5 trivial trivial trivial trivial rfl (by omega) (OV _) (enters_of Tryz.func105 (by kernel_rfl) rfl) 129 #[.pointer (some ⟨w.heap.size,0,none⟩)] trivial (enters_of Tryz.func129 (by kernel_rfl) rfl) _ _ hmax hbytes _ hseq;change CallsIn _ _ Tryz.prog 55 _ _ _ at cS;have hfK:Fence.wide.fn 88:=trivial;have hfS:Fence.wide.fn 55:=trivial;refine callsIn_of_wp Tryz.func44 rfl trivial ?_ rfl;simp only [Tryz.ntmps44,aea,abR,acD,Nat.reduceAdd,Nat.reduceSub,Array.replicate_succ,Array.replicate_zero,List.push_toArray,List.append_toArray,aci,acn]
 gi_wp2_with (first
  | (gi_at_call 88;refine (cK _ _).mono ?_;rintro e w' ⟨rfl,rfl⟩)
  | (gi_at_call 55;refine cS.mono ?_;rintro e w' ⟨v,ss,rfl,hS,hrow,hnil,hb⟩))
 go_ret
 exact ⟨v,ss,rfl,hS,ownsRow_base_a hrow (by simp),hnil,((Below.refl _ w).alloc (abF _) _).trans (hb.mono (by simp))⟩
theorem Ol (w:World):Calls Tryz.prog 44 #[.map none] w fun e w'=>e=.returned (.slice none 0 0)/\Below w.heap.size w w':=by
 refine (callsIn_wide (n:=6)).1 ?_;have hseq:SeqGives Fence.wide 2 Tryz.prog 129 #[.pointer (some ⟨w.heap.size,0,none⟩)] encZ (fun ss:List Int=>ss=[]) 0 (w.alloc (.cells #[.map none] 101)) :=
  AnyZI.keys_gives_nil (ρ:=Tryz.keysA_ren) { Tryz.keysA with } Fence.wide _ trivial rfl w.heap.size _ (by simp) (by simp)
 have cK:∀ mb W,CallsIn Fence.wide 5 Tryz.prog 88 #[.map mb] W fun e w'=>e=.returned (.func (.func 129) #[] #[.pointer (some ⟨W.heap.size,0,none⟩)])/\w'=W.alloc (.cells #[.map mb] 101):=fun mb W=>AnyZI.keys_in Tryz.keysA Fence.wide 5 trivial rfl mb W
 have cS:=AnyZI.sorted_in Tryz.sortedA Fence.wide 5 trivial trivial trivial trivial rfl (by omega) (OV _) (enters_of Tryz.func105 (by kernel_rfl) rfl) 129 #[.pointer (some ⟨w.heap.size,0,none⟩)] trivial (enters_of Tryz.func129 (by kernel_rfl) rfl) _ 0 (abL _) (by omega) _ hseq;change CallsIn _ _ Tryz.prog 55 _ _ _ at cS;have hfK:Fence.wide.fn 88:=trivial;have hfS:Fence.wide.fn 55:=trivial;refine callsIn_of_wp Tryz.func44 rfl trivial ?_ rfl;simp only [Tryz.ntmps44,aea,abR,acD,Nat.reduceAdd,Nat.reduceSub,Array.replicate_succ,Array.replicate_zero,List.push_toArray,List.append_toArray,aci,acn]
 gi_wp2_with (first
  | (gi_at_call 88;refine (cK _ _).mono ?_;rintro e w' ⟨rfl,rfl⟩)
  | (gi_at_call 55;refine cS.mono ?_;rintro e w' ⟨v,ss,rfl,rfl,hrow,hnil,hb⟩;obtain rfl:v=.slice none 0 0:=hnil.2 rfl))
 go_ret
 exact ⟨rfl,((Below.refl _ w).alloc (abF _) _).trans (hb.mono (by simp))⟩
theorem Rel.grownNew {w0:World} {S0:SB} {E:Env} {L:List Blk} {w w':World} (h:Rel w0 S0 E L w) (g:EH w w') :
  ∃ E',E.le E'/\Rel w0 S0 E' L w'/\∀ b o v,w.heap.size<=b->w'.cell? ⟨b,o,none⟩=some v->E'.mem b o=some v:=by
 have h':=h.grown g;have hle:E.le { E with mem:=fun b o=>if w.heap.size<=b then w'.cell? ⟨b,o,none⟩ else E.mem b o }:=⟨fun b o v hv=>by
  show (if w.heap.size<=b then w'.cell? ⟨b,o,none⟩ else E.mem b o)=some v
  have:=h.mem_lt hv;rw [if_neg (by omega)];exact hv,fun _ _ x=>x,fun _ t ht=>⟨t,ht,.inl rfl⟩⟩
 refine ⟨_,hle,⟨fun b o v hv=>?_,fun i k hk=>?_,h'.fresh,fun i k c hk hl hc=>⟨fun o=>?_,(h'.own i k c hk hl hc).2⟩,h'.inj,h'.tkfresh,fun i n sz t d hi ht hd=>⟨fun o ho=>?_,(h'.tkown i n sz t d hi ht hd).2⟩,h'.tkloc,h'.tkinj,h'.frame,h'.size,h'.os,h'.tape,h'.output,h'.glob.mono hle.mem,h'.gsz⟩,fun b o v hb hv=>?_⟩
 ·have hv:(if w.heap.size<=b then w'.cell? ⟨b,o,none⟩ else E.mem b o)=some v:=hv;split at hv
  ·exact hv
  ·exact h'.mem b o v hv
 ·rcases hl:k.live with _|_
  ·exact bw.still (E:=E) hl rfl (fun _ _ _ _ _ _ _=>rfl) (h'.blk i k hk)
  ·exact bw.mono hle hl (h'.blk i k hk)
 ·have hc:E.loc i=some c:=hc;show (if w.heap.size<=c.blk then w'.cell? ⟨c.blk,o,none⟩ else E.mem c.blk o)=none
  have:=h.loc_lt hk hl hc;rw [if_neg (by omega)];exact (h.own i k c hk hl hc).1 o
 ·have ht:E.tok i=some t:=ht;show (if w.heap.size<=d.blk then w'.cell? ⟨d.blk,o,none⟩ else E.mem d.blk o)=none
  have:=h.tok_lt hi ht hd;rw [if_neg (by omega)];exact (h.tkown i n sz t d hi ht hd).1 o ho
 ·show (if w.heap.size<=b then w'.cell? ⟨b,o,none⟩ else E.mem b o)=some v
  rw [if_pos hb];exact hv
theorem PH {P:Program} {f:FuncId} {fn:Func} (hf:P.funcs[f]?=some fn) (hb:fn.body.isSome=true) (hn:(fn.name == "runtime.NumGoroutine")=false) {args:List AV} {r:AV}
  (hc:∀ (w0:World) (S0:SB) (E:Env) (w:World) (vs:List Value),Rel w0 S0 E L w->VRL E args vs->Calls P f ⟨vs⟩ w fun e w'=>∃ v,e=.returned v/\EH w w'/\∀ E':Env,E.le E'->(∀ b o v,w.heap.size<=b->w'.cell? ⟨b,o,none⟩=some v->E'.mem b o=some v)->VR E' r v) (hk:K r L):af P f args L K:=fun w0 S0 E w vs hR hv=>by
 refine .inl ⟨?_,(hc w0 S0 E w vs hR hv).mono fun e w' ⟨v,h1,h3,h2⟩=>by
  obtain ⟨E',g1,g2,g3⟩:=hR.grownNew h3;exact ⟨E',v,r,L,h1,g1,hk,h2 E' g1 g3,g2⟩⟩
 simp only [callFunc,abM,run_program,abN,hf,hn];cases h:fn.body with
 | none=>simp [h] at hb
 | some c=>simp
open Go.RowKit Go.Maps Go.Sort Go.MapKept in
theorem Wo {L:List Blk} {i ck:Nat} {es:List (AV×AV×Nat)} {ks:List Int} (hi:L[i]?=some (.map es ck)) (hks:sq es=some ks) (hf:MA es ck ks=true) {K:abD} (h:K (.sl ((n9 ks).map (AV.int .i64)) ks.length none) L):abC 44 [.lmap i] L K:=by
 refine PH Tryz.func44 rfl (by kernel_rfl) (fun w0 S0 E w vs hR hv=>?_) h;simp only [VRL] at hv;obtain ⟨v,_,rfl,hv,rfl⟩:=hv;obtain ⟨c,rs,hc,rfl,hb,hm⟩:=EY hR hi hv;obtain ⟨hk1,hk2⟩:=Ph hm hks;simp only [MA,abK,abO,decide_eq_true_eq] at hf;obtain ⟨⟨⟨⟨f1,f2⟩,f3⟩,f4⟩,f5⟩:=hf;have hlen:rs.size=es.length:=by have:=au.len hm;simpa using this
 have hkl:ks.length=es.length:=by
  have:=congrArg List.length hk1;simp at this;omega
 have hkey:∀ (k:Int),k∈ks->keyOf Tryz.prog 3 (.int .i64 k)=some (.int .i64 k):=fun k hk=>by
  have hw:(Lit.int .i64 k).wf=true:=by
   have:=f1 k hk;simp only [Lit.wf,abK,decide_eq_true_eq];exact this
  unfold keyOf mapKey;rw [show (Tryz.prog).underlying 3=some (.int .i64) from Tryz.underlying3];simp [hw]
 have hmem:∀ x∈rs.toList,∃ k,k∈ks/\x.key=.int .i64 k:=fun x hx=>by
  have:x.key∈rs.toList.map (·.key):=abI.2 ⟨x,hx,rfl⟩;rw [hk1] at this;obtain ⟨k,h1,h2⟩:=abI.1 this;exact ⟨k,h1,h2.symm⟩
 have hrd:∀ x∈rs.toList,∀ k,k∈ks->x.key=.int .i64 k->Go.WideElems.rd Tryz.prog 3 (fun _=>some ((.nil:DataW Unit),[])) x=some (.int .i64 k,.nil):=fun x hx k hk e=>by
  simp [Go.WideElems.rd,e,hkey k hk]
 have hown:w.ownsMap Tryz.prog 3 (fun _=>some ((.nil:DataW Unit),[])) c.blk rs.size (.map ((rs.toList.map (Go.WideElems.rg Tryz.prog 3 (fun _=>some ((.nil:DataW Unit),[])))).foldr DataW.insert [])):=by
  refine ⟨rs,ck,hb,⟨by simp only [maxLen];omega,⟨fun x hx=>?_,?_,?_⟩,fun x hx=>?_⟩,abF _,rfl⟩
  ·have:x.born∈rs.toList.map (·.born):=abI.2 ⟨x,hx,rfl⟩;rw [hk2] at this;obtain ⟨e,h1,h2⟩:=abI.1 this;rw [<- h2];exact f4 e h1
  ·rw [hk2];exact Pb f3
  ·rw [hk1];exact List.Pairwise.map (Value.int .i64) (fun a b hab e=>hab (by simpa using e)) (O9 f2)
  ·obtain ⟨k,h1,h2⟩:=hmem x hx;exact ⟨_,hrd x hx k h1 h2⟩
 have hperm:(intKeys (.map ((rs.toList.map (Go.WideElems.rg Tryz.prog 3 (fun _=>some ((.nil:DataW Unit),[])))).foldr DataW.insert []))).Perm ks:=by
  have e1:(rs.toList.map (Go.WideElems.rg Tryz.prog 3 (fun _=>some ((.nil:DataW Unit),[])))).map (fun p=>_root_.Go.intOf p.1)=ks:=by
   have e2:rs.toList.map (fun x=>_root_.Go.intOf ((Go.WideElems.rg Tryz.prog 3 (fun _=>some ((.nil:DataW Unit),[]))) x).1)=rs.toList.map fun x=>(match x.key with | .int _ n=>n|_=>0):=by
    refine adc fun x hx=>?_
    obtain ⟨k,h1,h2⟩:=hmem x hx;rw [Go.WideElems.rg_of (hrd x hx k h1 h2),h2];rfl
   simp only [ab9,adY];rw [e2];have e3:(rs.toList.map (·.key)).map (fun v:Value=>match v with | .int _ n=>n|_=>0)=ks:=by
    rw [hk1,ab9];exact List.map_id' ks
   simp only [ab9,adY] at e3;exact e3
  have:=(WideShapes.sorted_perm (rs.toList.map (Go.WideElems.rg Tryz.prog 3 (fun _=>some ((.nil:DataW Unit),[]))))).map (fun p=>_root_.Go.intOf p.1);rw [e1] at this;exact this
 have hsz:Maps.size (.map ((rs.toList.map (Go.WideElems.rg Tryz.prog 3 (fun _=>some ((.nil:DataW Unit),[])))).foldr DataW.insert []))=rs.size:=by
  rw [Maps.size_eq,(WideShapes.sorted_perm _).length_eq];simp
 refine (UC c.blk rs.size _ _ w hown (by rw [hsz];simp only [maxLen];omega) (by rw [hsz];omega)).mono ?_;rintro e w' ⟨v,ss,rfl,hS,hrow,hnil,hbel⟩;refine ⟨v,rfl,⟨fun b hb=>hbel.block b hb,hbel.size,hbel.os,hbel.tape,hbel.output⟩,fun E' hE hnew=>?_⟩;have hp:ss.Perm ks:=hS.trans hperm;have hms:ss.mergeSort (fun x y=>decide (x<=y))=n9 ks:=by
  rw [<- UY];exact mergeSort_of_perm_i hp
 rw [hms] at hrow;have hl2:ss.length=ks.length:=hp.length_eq;simp only [VR];rcases hrow.2 with ⟨rfl,hz⟩|⟨g,cap,cur,rfl,hg,hcur,h1,h2,h3,h4⟩
 ·refine ⟨none,0,by rw [hl2] at hz;rw [hz],by omega,(fun k hk=>by cases hk),.inl ⟨by omega,rfl,?_⟩⟩;have:(n9 ks).length=0:=by rw [(kY ks).length_eq];omega
  rw [ack.1 this];rfl
 ·refine ⟨some ⟨g,0,none⟩,cap,by rw [hl2],by omega,(fun k hk=>by cases hk),.inr ⟨g,0,rfl,VRC.of_get fun j a ha=>?_⟩⟩;obtain ⟨z,hz,rfl⟩:=ab4.1 (acq .. ▸ ha);refine ⟨.int .i64 z,?_,by simp [VR]⟩;refine hnew g (0+j) _ hg ?_;have hj:j<(n9 ks).length:=(abE.1 hz).1;have h5:(cur.toList.take (ss.length * 1))[j]?=some (Value.int .i64 z):=by
   rw [h4,acq,hz];rfl
  rw [List.getElem?_take] at h5;split at h5
  ·simp only [World.cell?,hcur];simpa using h5
  ·cases h5
theorem Sd (h:K (.sl [] 0 (some 0)) L):abC 44 [.nilmap] L K:=by
 refine PH Tryz.func44 rfl (by kernel_rfl) (fun w0 S0 E w vs hR hv=>?_) h;simp only [VRL,VR] at hv;obtain ⟨_,_,rfl,rfl,rfl⟩:=hv;refine (Ol w).mono ?_;rintro e w' ⟨rfl,hbel⟩;refine ⟨_,rfl,⟨fun b hb=>hbel.block b hb,hbel.size,hbel.os,hbel.tape,hbel.output⟩,fun E' hE hnew=>?_⟩;simp only [VR];exact ⟨none,0,rfl,abF _,(fun k hk=>by cases hk;rfl),.inl (by simp)⟩
abbrev nY (l:List Int):AV:=.sl (l.map (AV.int .i64)) l.length none
structure PG (l:List bt):Prop where
 len:l.length<=1000
 rng:∀ e∈l,-9223372036854775808<=e.1/\e.1<=9223372036854775807
def QQ (tm:TMp) (l:List bt) (n:List UInt8):List Int:=match cI tm (ab n) with
 | none=>[]
 | some _=>gC l (ab n)
def NE (tm:TMp) (l:List bt) (n v:List UInt8):List Int:=match cI tm (ab n) with
 | none=>[]
 | some ty=>RD (eE tm) l (ab n) ty.2.1 v
def Q9 (tm:TMp) (l:List bt) (n:List UInt8) (ps:List Pc):List Int:=match cI tm (ab n) with
 | none=>[]
 | some ty=>KP (eE tm) l (ab n) ty.2.1 ps
theorem PV {l:List bt} (h:PG l) {f:List UInt8}:(∀ x∈gC l f,-9223372036854775808<=x/\x<=9223372036854775807)/\(gC l f).length<=1000:=by
 refine ⟨fun x hx=>?_,?_⟩
 ·obtain ⟨a,h1,_⟩:=mF.1 hx;exact h.rng _ h1
 ·unfold gC;rw [aco];exact ab7 (adx _ _) h.len
theorem TK {tys:List (List UInt8×Int)} {l:List bt} (h:PG l) {k:aY}:(∀ x∈eF tys l k,-9223372036854775808<=x/\x<=9223372036854775807)/\(eF tys l k).length<=1000:=by
 refine ⟨fun x hx=>?_,?_⟩
 ·obtain ⟨a,h1,_⟩:=gG.1 hx;exact h.rng _ h1
 ·unfold eF;rw [aco];exact ab7 (adx _ _) h.len
theorem Qa {L:List Blk} {b:Nat} {P:Int->Prop} (h:mV L b P) {l:List Int} (hl:l.Pairwise (· < ·)) (hp:∀ x,P x↔x∈l) (hi:(∀ x∈l,-9223372036854775808<=x/\x<=9223372036854775807)/\l.length<=1000) {K:abD} (hk:K (nY l) L):abC 44 [.lmap b] L K:=by
 obtain ⟨es,ck,ks,h1,h2,h3,h4,h5⟩:=h.rise hl hp hi.1 hi.2;refine Wo h1 h2 h3 ?_;rw [h4,h5];exact hk
theorem MB {L:List Blk} {it:Nat} {tm:TMp} {l:List bt} {B:Nat->Prop} (ho:IxO L it tm l B) {n:List UInt8} (hn:bd n) {K:abD} (h:K (.bool (cI tm (ab n)).isSome) L):abC 11 [.ptr it 0,.str n] L K:=by
 obtain ⟨im,ie,ip,ii,em,ec,pm,pc,dm,dc,h1,h2,h3,h4⟩:=ho;obtain ⟨f,hf⟩:=aby (ab n);have kk1:Hid (Ctr Tryz.prog 38 [.str n] (.str f)):=@hid _ (by intro L K q;exact eR hn (by rw [hf];exact q));rw [hf] at h;have hst:∀ X,(L++X)[it]?=some (.cells [.lmap im,.lmap ie,.lmap ip,.lmap ii]):=fun X=>(h1.more X).st
 have hty:∀ X,(L++X)[im]?=some (.map (a7 AV.str tyV tm) tm.length):=fun X=>(h1.more X).ty
 have hst0:=h1.st;have hty0:=h1.ty;have hks:bC .str (.str f)=true:=rfl;rcases db (va:=tyV) nQ h1.tok f kQ with ⟨j,⟨w1,w2,w3,w4⟩,q1,q2,_⟩|⟨q1,q2,_⟩
 ·rw [q1] at h;simp only [adk] at h;replace h:=hid h;clear h1 h2 h3 h4 q1;refine abB k7 ?_;refine ⟨aN (kk1.out ⟨rfl,rfl⟩) rfl,?_⟩;refine wk ?_;exact ae rfl h.out
 ·rw [q1] at h;simp only [adf] at h;replace h:=hid h;clear h1 h2 h3 h4 q1;refine abB k7 ?_;refine ⟨aN (kk1.out ⟨rfl,rfl⟩) rfl,?_⟩;refine wk ?_;exact ae rfl h.out
theorem W5 {L:List Blk} {it:Nat} {tm:TMp} {l:List bt} {B:Nat->Prop} (ho:IxO L it tm l B) (hi:PG l) {n:List UInt8} (hn:bd n) {K:abD} (h:K (nY (QQ tm l n)) L):abC 14 [.ptr it 0,.str n] L K:=by
 have kk1:Hid (∀ {K:abD},K (.bool (cI tm (ab n)).isSome) L->abC 11 [.ptr it 0,.str n] L K):=@hid _ (fun {K} q=>MB ho hn q);have hr:=ho.rise;obtain ⟨im,ie,ip,ii,em,ec,pm,pc,dm,dc,h1,h2,h3,h4⟩:=ho;unfold QQ at h;obtain ⟨f,hf⟩:=aby (ab n);have kk2:Hid (Ctr Tryz.prog 38 [.str n] (.str f)):=@hid _ (by intro L K q;exact eR hn (by rw [hf];exact q));rw [hf] at h kk1;have hst:=h1.st;have hpr:=h1.pr;have hks:bC .str (.str f)=true:=rfl;cases hg:cI tm f with
 | none =>
   rw [hg] at h kk1;simp only [adf] at kk1;replace h:=hid h;clear h1 h2 h3 h4 hg hr;refine abB fo ?_;exact bv (aa h.out)
 | some ty =>
   rw [hg] at h kk1;simp only [adk] at kk1;have hfm:f∈pm.map (·.1):=(h1.pk f).2 (by
    obtain ⟨c,hc⟩:=fi hg;exact abI.2 ⟨_,hc,rfl⟩)
   obtain ⟨j,b,q1,q2,_⟩:=mM (va:=AV.lmap) nQ 0 h1.pok.keys hfm;rw [acT] at q2;obtain ⟨R,hR⟩:=aby (gC l f);have kk3:Hid (∀ {K:abD},K (nY R) L->abC 44 [.lmap b] L K):=@hid _ (fun {K} q=>Qa (h1.ps f b q1) (O0 hr) (fun x=>Iff.rfl) (PV hi) (by rw [hR];exact q));simp only [hR] at h;replace h:=hid h;clear h1 h2 h3 h4 hg hr q1 hfm hR;refine abB fo ?_;exact aa h.out
theorem Y4 {L:List Blk} {it:Nat} {tm:TMp} {l:List bt} {B:Nat->Prop} (ho:IxO L it tm l B) (hi:PG l) {n v:List UInt8} (hn:bd n) {K:abD} (h:K (nY (NE tm l n v)) L):abC 18 [.ptr it 0,.str n,.str v] L K:=by
 have kk1:Hid (∀ {K:abD},K (.bool (cI tm (ab n)).isSome) L->abC 11 [.ptr it 0,.str n] L K):=@hid _ (fun {K} q=>MB ho hn q);have hr:=ho.rise;obtain ⟨im,ie,ip,ii,em,ec,pm,pc,dm,dc,h1,h2,h3,h4⟩:=ho;unfold NE at h;obtain ⟨f,hf⟩:=aby (ab n);have kk2:Hid (Ctr Tryz.prog 38 [.str n] (.str f)):=@hid _ (by intro L K q;exact eR hn (by rw [hf];exact q));rw [hf] at h kk1;have hst:=h1.st;have hty:=h1.ty;have hid':=h1.ids;have hks:bC .str (.str f)=true:=rfl;rcases db (va:=tyV) nQ h1.tok f kQ with ⟨j,⟨w1,w2,w3,w4⟩,q1,q2,_⟩|⟨q1,q2,_⟩
 rotate_left
 ·rw [q1] at h kk1;simp only [adf] at kk1;replace h:=hid h;clear h1 h2 h3 h4 hr q1;refine abB dt ?_;exact bv (aa h.out)
 ·rw [q1] at h kk1;simp only [adk] at kk1;simp only [RD] at h;have kN:Hid (Ctr Tryz.prog 48 [.int .i64 w2,.str v] (J8 (bY w2 v))):=@hid _ (fun {L K} q=>HY q);rcases hno:bY w2 v with _|m
  ·rw [hno] at kN h;have kk3:Hid (Ctr Tryz.prog 48 [.int .i64 w2,.str v] (.tup [.str [],.bool false])):=@hid _ (fun {L K} q=>kN.out q);replace h:=hid h;clear h1 h2 h3 h4 hr q1 kN hno;refine abB dt ?_;exact bv (aa h.out)
  ·rw [hno] at kN h;simp only at h;have kk3:Hid (Ctr Tryz.prog 48 [.int .i64 w2,.str v] (.tup [.str m,.bool true])):=@hid _ (fun {L K} q=>kN.out q);have hk3:bC (.st [.str,.bool,.str]) (.agg [.str f,.bool false,.str m])=true:=rfl;obtain ⟨R,hR⟩:=aby (eF (eE tm) l (f,false,m));rcases db (va:=AV.lmap) rL h1.dok (f,false,m) 0 with ⟨j',b,p1,p2,_⟩|⟨p1,p2,_⟩
   ·have kk4:Hid (∀ {K:abD},K (nY R) L->abC 44 [.lmap b] L K):=@hid _ (fun {K} q=>Qa (h1.ds _ b p1) (U1 hr) (fun x=>Iff.rfl) (TK hi) (by rw [hR];exact q));simp only [hR] at h;simp only [lh] at p2;replace h:=hid h;clear h1 h2 h3 h4 hr q1 kN hno p1 hR;refine abB dt ?_;exact aa h.out
   ·have hRn:R=[]:=by
     rw [<- hR];have:=h1.dn _ p1;exact aex.2 this
    have kk4:Hid (Ctr Tryz.prog 44 [.nilmap] (.sl [] 0 (some 0))):=@hid _ (fun {L K} q=>Sd q);simp only [hR,hRn] at h;simp only [lh] at p2;replace h:=hid h;clear h1 h2 h3 h4 hr q1 kN hno p1 hR hRn;refine abB dt ?_;exact bv (aa h.out)
theorem U4 {xs:List (bb Int Bool)} {ck:Nat} (h:cG xs ck) (ht:∀ e∈xs,e.2.1=true) (x:Int):Rm (a7 (AV.int .i64) AV.bool xs) x=some (!(xs.map (·.1)).contains x):=by
 unfold Rm;rcases db (va:=AV.bool) nR h x true with ⟨j,w,q1,q2,_,q4⟩|⟨q1,q2,_,q4⟩
 ·have hw:w=true:=by
   obtain ⟨c,hc⟩:=fi q1;exact ht _ hc
  simp only [q2,hw];rw [acx.2 q4]
 ·simp only [q2];have:(xs.map (·.1)).contains x=false:=by
   cases hc:(xs.map (·.1)).contains x with
   | false=>rfl
   | true=>exact absurd (acx.1 hc) q4
  rw [this];rfl
structure LkS (l:List bt) (f:List UInt8) (ys:List (bb Int Bool)) (ck:Nat) (M:Int->Prop):Prop where
 ok:cG ys ck
 tr:∀ e∈ys,e.2.1=true
 mem:∀ x,x∈ys.map (·.1)↔x∈gC l f/\M x
theorem LkS.iff {l:List bt} {f:List UInt8} {ys:List (bb Int Bool)} {ck:Nat} {M M':Int->Prop} (h:LkS l f ys ck M) (e:∀ x,M x↔M' x):LkS l f ys ck M':=⟨h.ok,h.tr,fun x=>by rw [h.mem,e]⟩
theorem LkS.del {l:List bt} {f:List UInt8} {ys:List (bb Int Bool)} {ck:Nat} {M:Int->Prop} (h:LkS l f ys ck M) (q:Int->Bool):LkS l f (ys.filter fun p => !q p.1) ck (fun x=>M x/\q x=false):=by
 refine ⟨h.ok.filter _,fun e he=>h.tr e (acl.1 he).1,fun x=>?_⟩;rw [abI];constructor
 ·rintro ⟨e,he,rfl⟩;obtain ⟨h1,h2⟩:=acl.1 he;obtain ⟨h3,h4⟩:=(h.mem e.1).1 (abI.2 ⟨e,h1,rfl⟩);exact ⟨h3,h4,by simpa using h2⟩
 ·rintro ⟨h1,h2,h3⟩;obtain ⟨e,he,rfl⟩:=abI.1 ((h.mem x).2 ⟨h1,h2⟩);exact ⟨e,acl.2 ⟨he,by simpa using h3⟩,rfl⟩
theorem KW (t:List UInt8):(ab t).length=t.length:=by unfold ab;simp
theorem Re {L:List Blk} {it:Nat} {tm:TMp} {l:List bt} {B:Nat->Prop} (ho:IxO L it tm l B) (hi:PG l) {n:List UInt8} (hn:bd n) {ps:List Pc} (hps:ps.length<=1000/\∀ p∈ps,p.2.length<=100000) {cap:Option Nat} {K:abD} (h:K (nY (Q9 tm l n ps)) L):abC 13 [.ptr it 0,.str n,.sl (dH ps) ps.length cap] L K:=by
 have kk1:Hid (∀ {K:abD},K (.bool (cI tm (ab n)).isSome) L->abC 11 [.ptr it 0,.str n] L K):=@hid _ (fun {K} q=>MB ho hn q);have hr:=ho.rise;obtain ⟨im,ie,ip,ii,em,ec,pm,pc,dm,dc,h1,h2,h3,h4⟩:=ho;unfold Q9 at h;obtain ⟨f,hf⟩:=aby (ab n);have kk2:Hid (Ctr Tryz.prog 38 [.str n] (.str f)):=@hid _ (by intro L K q;exact eR hn (by rw [hf];exact q));rw [hf] at h kk1;have hst:=h1.st;have hpr:=h1.pr;have hks:bC .str (.str f)=true:=rfl;rcases db (va:=tyV) nQ h1.tok f kQ with ⟨j,⟨w1,w2,w3,w4⟩,q1,q2,_⟩|⟨q1,_⟩
 rotate_left
 ·rw [q1] at h kk1;simp only [adf] at kk1;replace h:=hid h;clear h1 h2 h3 h4 hr q1;refine abB i6 ?_;exact bv (aa h.out)
 ·rw [q1] at h kk1;simp only [adk] at kk1;simp only at h;have hfm:f∈pm.map (·.1):=(h1.pk f).2 (by
   obtain ⟨c,hc⟩:=fi q1;exact abI.2 ⟨_,hc,rfl⟩)
  obtain ⟨jb,b,y1,y2,_⟩:=mM (va:=AV.lmap) nQ 0 h1.pok.keys hfm;rw [acT] at y2;obtain ⟨xs,ck,s1,s2,s3,s4⟩:=h1.ps f b y1;have kk3:Hid (∀ {K:abD},K (.lmap L.length) (L++[gS xs ck])->abC 40 [.lmap b] L K):=@hid _ (fun {K} q=>Sr s1 q);replace h:=hid h;replace hps:=hid hps;replace h1:=hid h1;replace s4:=hid s4;replace s3:=hid s3;replace s2:=hid s2;replace hr:=hid hr;replace hi:=hid hi;clear h2 h3 h4 q1 hfm y1 s1;have hpl:=Ea ps;obtain ⟨PS,hPS⟩:=aby (dH ps);have hat:=hid (fun k (q:k<ps.length)=>J5 q);rw [hPS] at hat hpl ⊢;clear hPS;refine abB i6 ?_;obtain ⟨tys,htys⟩:=aby (eE tm);rw [htys] at h h1;obtain ⟨ex,hex⟩:=aby (decide (w2=2));refine ak (fun m T' L'=>∃ (i:Nat) (ys:List (bb Int Bool)) (X:List Blk),m=ps.length - i/\i<=ps.length/\Hid (LkS l f ys ck fun x=>∀ p∈ps.take i,∀ g∈cF (pcT ex p),x∈eF tys l (f,true,g))/\T'=[(30,.int .i64 (i:Int)),(29,.int .i64 ps.length),(28,.sl PS ps.length cap),(8,.lmap L.length),(7,.str f),(0,.ptr it 0)]/\L'=L++(gS ys ck::X)) (CutS (b:=by simp)) ⟨0,xs,[],rfl,abL _,hid ⟨s2.out,s3.out,fun x=>by rw [s4.out];simp⟩,rfl,rfl⟩ ?_;clear kk1 kk2 kk3 hn s2 s3 s4;rintro _ _ _ ⟨i,ys,X0,rfl,hi2,hS,rfl,rfl⟩;have aX:∀ (X:List Blk) {i:Nat} {b:Blk},L[i]?=some b->(L++X)[i]?=some b:=fun X {i b} e=>abz e
  have a1:∀ X,(L++X)[it]?=some (.cells [.lmap im,.lmap ie,.lmap ip,.lmap ii]):=fun X=>aX X hst
  have a2:∀ X,(L++X)[im]?=some (.map (a7 AV.str tyV tm) tm.length):=fun X=>aX X h1.out.ty
  have a3:∀ X,(L++X)[ii]?=some (.map (a7 lh AV.lmap dm) dc):=fun X=>aX X h1.out.ids
  by_cases hlt:i<ps.length
  ·have hpb:=hps.out.1;have j1:(i:Int)<(ps.length:Int):=by omega
   have j2:=abA i (by omega);have e3:=hat.out i hlt;have e4:i * 2+2<=PS.length:=by rw [hpl];omega
   obtain ⟨⟨k,t⟩,hp⟩:∃ p,ps.getD i (0,[])=p:=⟨_,rfl⟩;have htb:=hps.out.2 (k,t) (by rw [<- hp];simp [hlt]);simp only at htb;rw [hp] at e3;simp only [pcA] at e3;have htk:ps.take (i+1)=ps.take i++[(k,t)]:=by rw [ab2 hlt,<- hp];simp [hlt]
   obtain ⟨t',ht'⟩:=aby (pcT ex (k,t));have hpt:t'.length<=100000:=by
    rw [<- ht'];unfold pcT;split
    ·exact htb
    ·rw [KW];exact htb
   have kk1:Hid (Ctr Tryz.prog 41 [.str t'] (xC (cF t'))):=@hid _ (fun {L K} q=>TN hpt q);have hgb:(cF t').length<=100000:=by rw [mL];omega
   have hrt:bd t:=by unfold bd;omega
   have kk2:Hid (ex=false->∀ {L:List Blk} {K:abD},K (.str t') L->abC 38 [.str t] L K):=@hid _ (fun he {L K} q=>eR hrt (by rw [<- ht',he] at q;exact q));have htt:ex=true->t'=t:=fun he=>by rw [<- ht',he];rfl
   replace htk:=hid htk;replace ht':=hid ht';obtain ⟨gs,hgs⟩:=aby (cF t');rw [hgs] at kk1 hgb;replace hgs:=hid hgs;replace hgb:=hid hgb;clear hp htb hpt hrt hpb;have hcase:(∃ e:w2=2,t'=t)\/(¬ w2=2/\Hid (Ctr Tryz.prog 38 [.str t] (.str t'))):=by
    cases hx:ex with
    | true=>exact .inl ⟨of_decide_eq_true (hex.trans hx),htt hx⟩
    | false=>exact .inr ⟨of_decide_eq_false (hex.trans hx),@hid _ (fun {L K} q=>kk2.out hx q)⟩
   clear kk2 htt;replace hex:=hid hex;rcases hcase with ⟨hw,rfl⟩|⟨hw,kk2⟩
   all_goals
    refine wk ?_;refine ak (fun m T' L'=>∃ (j:Nat) (ys:List (bb Int Bool)) (X:List Blk),m=gs.length - j/\j<=gs.length/\Hid (X0.length+1<=X.length)/\Hid (LkS l f ys ck fun x=>(∀ p∈ps.take i,∀ g∈cF (pcT ex p),x∈eF tys l (f,true,g))/\∀ g∈gs.take j,x∈eF tys l (f,true,g))/\T'=[(49,.int .i64 (j:Int)),(48,.int .i64 gs.length),(47,.sl (gs.map AV.str) gs.length none),(30,.int .i64 (i:Int)),(29,.int .i64 ps.length),(28,.sl PS ps.length cap),(8,.lmap L.length),(7,.str f),(0,.ptr it 0)]/\L'=L++(gS ys ck::X)) (CutS (b:=by simp)) ⟨0,ys,_,rfl,abL _,hid (by simp),hid (hS.out.iff fun x=>by simp),rfl,rfl⟩ ?_;clear hS kk1;rintro _ _ _ ⟨j,ys,X,rfl,hj,hXl,hS,rfl,rfl⟩;by_cases hjg:j<gs.length
    ·have hgb2:=hgb.out;have g1:(j:Int)<(gs.length:Int):=by omega
     have g2:=abA j (by omega);have g3:(gs.map AV.str).getD j .undef=.str (gs.getD j []):=by simp [hjg]
     have g4:j<(gs.map AV.str).length:=by simpa using hjg
     obtain ⟨g,hg⟩:=aby (gs.getD j []);have htj:gs.take (j+1)=gs.take j++[g]:=by rw [ab2 hjg,<- hg];simp [hjg]
     rw [hg] at g3;replace htj:=hid htj;obtain ⟨GS,hGS⟩:=aby (gs.map AV.str);rw [hGS] at g3 g4 ⊢;clear hg hgb2;have hk3:bC (.st [.str,.bool,.str]) (.agg [.str f,.bool true,.str g])=true:=rfl;rcases db (va:=AV.lmap) rL h1.out.dok (f,true,g) 0 with ⟨j',b2,p1,p2,_⟩|⟨p1,p2,_⟩
     ·obtain ⟨zs,ck2,z1,z2,z3,z4⟩:=h1.out.ds _ b2 p1;have hqx:∀ x,(!(zs.map (·.1)).contains x)=false↔x∈eF tys l (f,true,g):=fun x=>by
       have e:=z4 x;simp only at e;simp [e]
      have hes:=U4 z2 z3;obtain ⟨q,hq⟩:∃ q:Int->Bool,(fun x => !(zs.map (·.1)).contains x)=q:=⟨_,rfl⟩;have hqx2:∀ x,q x=false↔x∈eF tys l (f,true,g):=fun x=>by rw [<- hq];exact hqx x
      have hes2:∀ x,Rm (a7 (AV.int .i64) AV.bool zs) x=some (q x):=fun x=>by rw [<- hq];exact hes x
      clear hq hqx hes;have hS2:=hid ((hS.out.del q).iff (M':=fun x=>(∀ p∈ps.take i,∀ g∈cF (pcT ex p),x∈eF tys l (f,true,g))/\∀ g∈gs.take (j+1),x∈eF tys l (f,true,g)) fun x=>by
       rw [htj.out,and_assoc];refine and_congr_right fun _=>?_
       rw [hqx2 x];simp only [abH,abZ];constructor
       ·rintro ⟨q1,q2⟩ y (hy|rfl)
        ·exact q1 y hy
        ·exact q2
       ·intro u;exact ⟨fun y hy=>u y (.inl hy),u g (.inr rfl)⟩)
      have kk1:Hid (∀ {K:abD},K (.tup []) (L++(gS (ys.filter fun p => !q p.1) ck::(X++[.cells [.lmap b2]])))->abC 42 [.lmap L.length,.func 43 [.ptr (L.length+(X.length+1)) 0]] (L++(gS ys ck::(X++[.cells [.lmap b2]]))) K):=@hid _ (fun {K} u=>by
       refine TC (xs:=ys) (ck:=ck) (q:=q) (Sy (j:=b2) (ck:=ck2) _ hes2) (fun l c y=>⟨?_,?_⟩) hS.out.ok.keys hS.out.ok.born hS.out.ok.lt (by rw [l9];rfl) ?_
       ·rw [sc,abT,ab8 (by omega),show L.length+(X.length+1) - L.length=X.length+1 by omega,acn,adg,abT];exact l9 _ _ _
       ·rw [sc,abT,abQ (abE.1 z1).1];exact z1
       ·rw [sc];exact u)
      simp only [lh] at p2;clear z1 z2 z3 z4 p1 hS hqx2 hes2;refine wk ?_;rw [<- hGS];exact ai _ _ _ (by omega) (CutL (b:=by simp;have:=hXl.out;omega)) ⟨j+1,_,X++[.cells [.lmap b2]],rfl,hjg,hid (by simp;have:=hXl.out;omega),hS2,rfl,rfl⟩
     ·obtain ⟨q,hq⟩:∃ q:Int->Bool,(fun _=>true)=q:=⟨_,rfl⟩;have hS2:=hid ((hS.out.del q).iff (M':=fun x=>(∀ p∈ps.take i,∀ g∈cF (pcT ex p),x∈eF tys l (f,true,g))/\∀ g∈gs.take (j+1),x∈eF tys l (f,true,g)) fun x=>by
       constructor
       ·rintro ⟨_,u⟩;rw [<- hq] at u;cases u
       ·rintro ⟨_,u⟩;exact absurd (u g (by rw [htj.out];simp)) (h1.out.dn _ p1 x))
      have kk1:Hid (∀ {K:abD},K (.tup []) (L++(gS (ys.filter fun p => !q p.1) ck::(X++[.cells [.nilmap]])))->abC 42 [.lmap L.length,.func 43 [.ptr (L.length+(X.length+1)) 0]] (L++(gS ys ck::(X++[.cells [.nilmap]]))) K):=@hid _ (fun {K} u=>by
       refine TC (xs:=ys) (ck:=ck) (q:=q) (by rw [<- hq];exact UU) (fun l c y=>?_) hS.out.ok.keys hS.out.ok.born hS.out.ok.lt (by rw [l9];rfl) ?_
       ·rw [sc,abT,ab8 (by omega),show L.length+(X.length+1) - L.length=X.length+1 by omega,acn,adg,abT];exact l9 _ _ _
       ·rw [sc];exact u)
      simp only [lh] at p2;clear p1 hS hq;refine wk ?_;rw [<- hGS];exact ai _ _ _ (by omega) (CutL (b:=by simp;have:=hXl.out;omega)) ⟨j+1,_,X++[.cells [.nilmap]],rfl,hjg,hid (by simp;have:=hXl.out;omega),hS2,rfl,rfl⟩
    ·have hje:j=gs.length:=by omega
     subst hje;have g1:¬ (gs.length:Int)<(gs.length:Int):=by omega
     have hS2:=hid (hS.out.iff (M':=fun x=>∀ p∈ps.take (i+1),∀ g∈cF (pcT ex p),x∈eF tys l (f,true,g)) fun x=>by
      rw [htk.out,abY];simp only [abH,abZ];constructor
      ·rintro ⟨q1,q2⟩ p (hp|rfl)
       ·exact q1 p hp
       ·rw [ht'.out,hgs.out];exact q2
      ·intro q;refine ⟨fun p hp=>q p (.inl hp),?_⟩;have:=q _ (.inr rfl);rw [ht'.out,hgs.out] at this;exact this)
     clear hS;refine wk ?_;exact ai _ _ _ (by omega) (CutL (b:=by simp)) ⟨i+1,_,_,rfl,hlt,hS2,rfl,rfl⟩
  ·have hie:i=ps.length:=by omega
   subst hie;have j1:¬ (ps.length:Int)<(ps.length:Int):=by omega
   have hlr:(KP tys l f w2 ps).Pairwise (· < ·):=by
    unfold KP;exact List.Pairwise.sublist aer (O0 hr.out)
   have hlm:∀ x,x∈ys.map (·.1)↔x∈KP tys l f w2 ps:=fun x=>by
    rw [hS.out.mem,abY];unfold KP;rw [acl,hex];simp only [abO,acx]
   have hln:(∀ x∈KP tys l f w2 ps,-9223372036854775808<=x/\x<=9223372036854775807)/\(KP tys l f w2 ps).length<=1000:=by
    obtain ⟨g1,g2⟩:=PV hi.out (f:=f);unfold KP;exact ⟨fun x hx=>g1 x (acl.1 hx).1,ab7 (adx _ _) g2⟩
   obtain ⟨R,hR⟩:=aby (KP tys l f w2 ps);rw [hR] at hlr hlm hln h;have kk1:Hid (∀ {K:abD},K (nY R) (L++(gS ys ck::X0))->abC 44 [.lmap L.length] (L++(gS ys ck::X0)) K):=@hid _ (fun {K} q=>Qa (P:=fun x=>x∈ys.map (·.1)) ⟨ys,ck,by simp,hS.out.ok,hS.out.tr,fun x=>Iff.rfl⟩ hlr hlm hln q);clear hlr hlm hln hR hS aX hst a1 a2 a3;refine wk ?_;exact ae (by simp only [AV.refs,KI]) h.out
theorem abq {l:List (List UInt8)} {k:Nat} (h:k<l.length):(l.map AV.str).getD k .undef=.str (l.getD k []):=by
 rw [ab5,ab5];simp [h]
theorem Y9 {xs:List (List UInt8)} {cap:Option Nat} {s:List UInt8} (hn:xs.length<=1000000000000) (h:K (.bool (xs.contains s)) L) :
  abC 82 [.sl (xs.map AV.str) xs.length cap,.str s] L K:=by
 replace h:=hid h;have hg:=hid (fun k (q:k<xs.length)=>abq q);have hl:(xs.map AV.str).length=xs.length:=by simp
 obtain ⟨X,hX⟩:=aby (xs.map AV.str);rw [hX] at hg hl ⊢;clear hX;refine abB NV ?_;refine ak (fun n T' L'=>∃ k:Nat,n=xs.length - k/\k<=xs.length/\T'=[(9,.int .i64 (k:Int)),(8,.int .i64 xs.length),(7,.sl X xs.length cap),(1,.str s)]/\L=L'/\Hid (∀ j,j<k->xs.getD j []≠s)) (CutS (b:=abF _)) ⟨0,rfl,abL _,rfl,rfl,hid (by simp)⟩ ?_;rintro _ _ L' ⟨k,rfl,hk,rfl,e,hr⟩;subst e;by_cases hlt:k<xs.length
 ·have g1:(k:Int)<(xs.length:Int):=by omega
  have g2:=abA k (by omega);have e3:=hg.out k hlt;have e4:k<X.length:=by omega
  obtain ⟨x,hx⟩:=aby (xs.getD k []);rw [hx] at e3;by_cases hq:x=s
  ·have e:xs.contains s=true:=by
    rw [acx,<- hq,<- hx];simp [hlt]
   rw [e] at h;replace hx:=hid hx;subst hq;clear e;refine wk ?_;exact aa h.out
  ·have hr2:Hid (∀ j,j<k+1->xs.getD j []≠s):=hid (fun j hj=>by
    rcases abX j k with h|h
    ·exact hr.out j h
    ·have:j=k:=by omega
     subst this;rw [hx];exact hq)
   clear hx hr;refine wk ?_;exact ai _ _ _ (by omega) (CutL (b:=by simp)) ⟨k+1,rfl,hlt,rfl,rfl,hr2⟩
 ·have g1:¬ (k:Int)<(xs.length:Int):=by omega
  have e:xs.contains s=false:=by
   simp only [acr,decide_eq_false_iff_not];intro hs;obtain ⟨j,hj,e⟩:=acV.1 hs;exact hr.out j (by omega) (by simp [hj,e])
  rw [e] at h;clear hr e;refine wk ?_;exact aa h.out
end Go.Proofs.YtcmfcpjnhephaaaGreatDoor.Av
