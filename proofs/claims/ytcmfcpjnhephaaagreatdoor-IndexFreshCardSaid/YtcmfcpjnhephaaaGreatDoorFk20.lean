/- Joined texts of the walk, made small by a program. -/
import Derived.Test.YtcmfcpjnhephaaaGreatDoorFk16
import Derived.Test.YtcmfcpjnhephaaaGreatDoorFk17
import Derived.Test.YtcmfcpjnhephaaaGreatDoorFk4
import Derived.Test.YtcmfcpjnhephaaaGreatDoorFk5
import Derived.Shelf.SlIterI.Nil
import Derived.Lib.SlKeysI
import Derived.Test.YtcmfcpjnhephaaaGreatDoorFk6
import Derived.Test.YtcmfcpjnhephaaaGreatDoorFk19
import Derived.Test.YtcmfcpjnhephaaaGreatDoorFk12
set_option linter.unusedSimpArgs false
set_option linter.unusedVariables false
namespace Go.Proofs.YtcmfcpjnhephaaaGreatDoor.Av
open Go
variable {L:List Blk} {K:Zy}
set_option maxHeartbeats 8000000
set_option maxRecDepth 100000
abbrev Ent:=Int×Bool×Nat
def MT (p:Ent):AV×AV×Nat:=(.int .i64 p.1,.bool p.2.1,p.2.2)
abbrev fi (xs:List Ent):List (AV×AV×Nat):=xs.map MT
theorem Tq (q:Nat->Bool) (xs:List Ent) (ck:Nat):Blk.refs q (.map (fi xs) ck)=true:=by
 simp [Blk.refs,MT,AV.refs]
theorem PP:∀ (xs:List Ent) (p:Ent) (k:Nat),(xs.map (·.1)).Nodup->p∈xs->∃ j,dI (.int .i64 p.1) (fi xs) k=some (some (k+j,.bool p.2.1))/\(fi xs).eraseIdx j=fi (xs.filter fun r=>decide (r.1≠p.1))
 | [],p,k,_,h=>by cases h
 | x::xs,p,k,hn,h=>by
   rw [ZK,aay] at hn;by_cases hx:p.1=x.1
   ·have hp:p=x:=by
     rcases ZF.1 h with h|h
     ·exact h
     ·exact absurd (ZC.2 ⟨p,h,hx⟩) hn.1
    subst hp;refine ⟨0,by simp [fi,MT,dI,qM],?_⟩;have hf:xs.filter (fun r=>decide (r.1≠p.1))=xs:=ab0.2 fun r hr=>by
     have:r.1≠p.1:=fun e=>hn.1 (ZC.2 ⟨r,hr,e⟩)
     simpa using this
    simp only [ZK,List.eraseIdx_zero,List.tail_cons,ab9,ne_eq,not_true_eq_false,decide_false,ZP,if_false];simp only [ne_eq] at hf;rw [hf]
   ·have hm:p∈xs:=by
     rcases ZF.1 h with h|h
     ·exact absurd (by rw [h]) hx
     ·exact h
    obtain ⟨j,h1,h2⟩:=PP xs p (k+1) hn.2 hm;refine ⟨j+1,?_,?_⟩
    ·simp only [fi,ZK,MT,dI,qM,if_true,decide_eq_false hx];simp only [fi] at h1;rw [h1,show k+1+j=k+(j+1) by omega]
    ·have hx':x.1≠p.1:=fun e=>hx e.symm
     simp only [fi,ZK,List.eraseIdx_cons_succ,ab9,hx',ne_eq,not_false_eq_true,decide_true,if_true];simp only [fi,ne_eq] at h2;rw [h2]
theorem WZ {xs:List Ent} {p:Ent} {ck:Nat} {seen:List Nat} (hb:(xs.map (·.2.2)).Nodup) (hp:p∈xs):mat (fi xs) ck (seen++[p.2.2]) ck=some (.int .i64 p.1,.bool p.2.1,p.2.2):=by
 have key:∀ xs:List Ent,(xs.map (·.2.2)).Nodup->p∈xs->(fi xs).find? (fun e=>Nat.beq e.2.2 p.2.2)=some (MT p):=by
  intro xs
  induction xs with
  | nil=>intro _ h;cases h
  | cons x xs ih =>
    intro hn h;rw [ZK,aay] at hn;rcases ZF.1 h with h|h
    ·subst h;simp [fi,MT]
    ·have hne:x.2.2≠p.2.2:=fun e=>hn.1 (ZC.2 ⟨p,h,e.symm⟩)
     have hbq:Nat.beq x.2.2 p.2.2=false:=by
      cases hh:Nat.beq x.2.2 p.2.2 with
      | false=>rfl
      | true=>exact absurd (acs hh) hne
     simp only [fi,ZK,aaK];rw [show Nat.beq (MT x).2.2 p.2.2=false from hbq];exact ih hn.2 h
 simp only [mat,List.getLast?_append,List.getLast?_singleton,Option.some_or,if_true];exact key xs hb hp
def V3 (f:FuncId) (caps:List AV) (ok:List Blk->Prop) (q:Int->Bool):Prop:=∀ (L:List Blk) (x:Int) (b:Bool) (K:AV->List Blk->Prop),ok L->K (.bool (q x)) L->Zx f ([.int .i64 x,.bool b]++caps) L K
def wh (xs:List Ent) (q:Int->Bool) (seen:List Nat):List Ent:=xs.filter fun p => !(seen.contains p.2.2 && q p.1)
theorem Ds {X Y:Type} {f:X->Y}:∀ {l:List X},(l.map f).Nodup->∀ {a b:X},a∈l->b∈l->f a=f b->a=b
 | x::l,h,a,b,ha,hb,e=>by
   rw [ZK,aay] at h;rcases ZF.1 ha with h1|h1
   ·rcases ZF.1 hb with h2|h2
    ·rw [h1,h2]
    ·exact absurd (ZC.2 ⟨b,h2,by rw [<- e,h1]⟩) h.1
   ·rcases ZF.1 hb with h2|h2
    ·exact absurd (ZC.2 ⟨a,h1,by rw [e,h2]⟩) h.1
    ·exact Ds h.2 h1 h2 e
theorem Uj {xs:List Ent} {q:Int->Bool} {seen:List Nat} {p:Ent} (hk:(xs.map (·.1)).Nodup) (hb:(xs.map (·.2.2)).Nodup) (hp:p∈xs) (hq:q p.1=true):(wh xs q seen).filter (fun r=>decide (r.1≠p.1))=wh xs q (seen++[p.2.2]):=by
 unfold wh;rw [List.filter_filter];refine ab2 fun r hr=>?_
 by_cases e:r=p
 ·subst e;simp [hq]
 ·have e1:r.1≠p.1:=fun h=>e (Ds hk hr hp h)
  have e2:r.2.2≠p.2.2:=fun h=>e (Ds (f:=fun x:Ent=>x.2.2) hb hr hp h)
  simp [e1,e2]
theorem WC {xs:List Ent} {q:Int->Bool} {seen:List Nat} {p:Ent} (hb:(xs.map (·.2.2)).Nodup) (hp:p∈xs) (hq:q p.1=false):wh xs q (seen++[p.2.2])=wh xs q seen:=by
 unfold wh;refine ab2 fun r hr=>?_
 by_cases e:r=p
 ·subst e;simp [hq]
 ·have e2:r.2.2≠p.2.2:=fun h=>e (Ds (f:=fun x:Ent=>x.2.2) hb hr hp h)
  simp [e2]
theorem Uk {xs:List Ent} {q:Int->Bool} {seen:List Nat} (h:∀ e∈fi (wh xs q seen),seen.contains e.2.2=true):wh xs q seen=xs.filter fun p => !q p.1:=by
 unfold wh at h ⊢;refine ab2 fun r hr=>?_
 cases hq:q r.1 with
 | false=>simp
 | true =>
   have:seen.contains r.2.2=true:=by
    cases hs:seen.contains r.2.2 with
    | true=>rfl
    | false =>
      have:=h (MT r) (ZC.2 ⟨r,aak.2 ⟨hr,by simp only [hs,aa5,abu]⟩,rfl⟩);rw [show (MT r).2.2=r.2.2 from rfl,hs] at this;exact this
   simp only [this,abl]
theorem Sc {xs:List Ent} {seen:List Nat} {p:Ent} (hp:p∈xs) (hs:seen.contains p.2.2=false):(xs.filter fun r => !(seen++[p.2.2]).contains r.2.2).length<(xs.filter fun r => !seen.contains r.2.2).length:=by
 have e:(xs.filter fun r => !(seen++[p.2.2]).contains r.2.2)=(xs.filter fun r => !seen.contains r.2.2).filter (fun r=>decide (r.2.2≠p.2.2)):=by
  rw [List.filter_filter];refine ab2 fun r _=>?_
  by_cases h:r.2.2=p.2.2<;>simp [h]
 rw [e];refine acE.2 ⟨p,aak.2 ⟨hp,by rw [hs];rfl⟩,by simp⟩
theorem RB {f:FuncId} {caps:List AV} {ok:List Blk->Prop} {q:Int->Bool} {xs:List Ent} {i ck:Nat} (hq:V3 f caps ok q) (hok:∀ l c y,ok (L.set i (.map l c)++[y])) (hk:(xs.map (·.1)).Nodup) (hb:(xs.map (·.2.2)).Nodup) (hc:∀ p∈xs,p.2.2<ck)
  (hi:L[i]?=some (.map (fi xs) ck)) (h:K (.tup []) (L.set i (.map (fi (xs.filter fun p => !q p.1)) ck))) :
  Zx 42 [.lmap i,.func f caps] L K:=by
 have hil:i<L.length:=(Zz.1 hi).1;have hset:L.set i (.map (fi xs) ck)=L:=by
  apply aaZ;intro j;rw [ZX];split
  ·rename_i e;subst e
   first|exact hi.symm|(rw [if_pos hil];exact hi.symm)
  ·rfl
 replace h:=hid h;replace hq:=hid hq;replace hok:=hid hok;replace hk:=hid hk;replace hb:=hid hb;replace hc:=hid hc;replace hset:=hid hset;refine ad dR (by simp [bH]) ?_;simp only [bH,aq]
 repeat' first
  | refine bb ?_
  | (first|refine aU (by kernel_rfl) ?_|refine aA (by kernel_rfl) ?_|refine aD ?_|refine bS ?_|refine bh (fun _=>?_)|refine ay ?_|refine aW ?_)
    refine sm ?_
  | (first|refine aP (by kernel_rfl) ?_|refine aQ ?_|refine aC ?_|refine aV ?_|refine bq (ax ?_))
    refine sl ?_
  | exact bj
  | first|apply bm|apply aR|apply bo|apply aS|apply bp|apply aT
  | refine aG ?_
  | refine aB ?_
  | first|refine aE rfl ?_|refine aF rfl ?_|refine an rfl ?_ ?_|refine aI rfl (fun _=>?_) (fun _=>?_)|refine aH rfl (fun _=>?_) (fun _=>?_)
  | ((first|refine am (fun _=>?_) (fun _=>?_)|refine aw (fun _=>?_) (fun _=>?_))<;>try refine sm ?_)
  | refine And.intro trivial ?_
  | refine And.intro (by omega) ?_
  | refine aM rfl (fun _=>?_) (fun _=>?_)
  | refine And.intro ?_ ?_
 have e0:wh xs q []=xs:=by simp [wh]
 refine ak (fun n T' L'=>∃ (seen:List Nat),n=(xs.filter fun r => !seen.contains r.2.2).length/\T'=[(7,.ptr L.length 0),(0,.lmap i),(1,.func f caps)]/\L'=L.set i (.map (fi (wh xs q seen)) ck)++[.miter (some i) ck seen ck]) (CutS (b:=by simp)) ⟨[],rfl,rfl,by rw [e0,hset.out]⟩ ?_;clear hi e0;rintro _ _ _ ⟨seen,rfl,rfl,rfl⟩;have i1:∀ A B,(L.set i A++[B])[L.length]?=some B:=fun A B=>by simp
 have i2:∀ A B,(L.set i A++[B])[i]?=some A:=fun A B=>by rw [ZM (by simpa using hil)];simp [hil]
 have i3:∀ A B C,(L.set i A++[B]).set L.length C=L.set i A++[C]:=fun A B C=>by
  have:=re (L.set i A) B C []
  rwa [acm] at this
 have i4:∀ A B C,(L.set i A++[B]).set i C=L.set i C++[B]:=fun A B C=>by
  rw [aaC _ _ (by simpa using hil),ab4]
 refine bb ?_;refine K2 (i:=L.length) (j:=i) (es:=fi (wh xs q seen)) (by kernel_rfl) rfl (i1 _ _) (i2 _ _) (fun e he=>?_) (ZA _) (fun hall=>?_) (fun e he hs=>?_)
 ·obtain ⟨p,hp,rfl⟩:=ZC.1 he;exact hc.out p (aak.1 hp).1
 ·have hfin:=h.out;rw [<- Uk hall] at hfin;replace hfin:=hid hfin;clear hall;simp only [Kon,push_cast,reduceIte,Nat.reduceEqDiff,Nat.reduceAdd,Nat.reduceMul,Nat.reduceSub,Nat.reduceLT,Nat.reduceLeDiff,Int.reduceLT,Int.reduceLE,Int.reduceAdd,Int.reduceSub,Int.reduceNeg,Int.reduceToNat,Int.reduceEq,reduceCtorEq, *]
  repeat' first
   | refine bb ?_
   | (first|refine aU (by kernel_rfl) ?_|refine aA (by kernel_rfl) ?_|refine aD ?_|refine bS ?_|refine bh (fun _=>?_)|refine ay ?_|refine aW ?_)
     refine sm ?_
   | (first|refine aP (by kernel_rfl) ?_|refine aQ ?_|refine aC ?_|refine aV ?_|refine bq (ax ?_))
     refine sl ?_
   | exact bj
   | first|apply bm|apply aR|apply bo|apply aS|apply bp|apply aT
   | refine aG ?_
   | refine aB ?_
   | first|refine aE rfl ?_|refine aF rfl ?_|refine an rfl ?_ ?_|refine aI rfl (fun _=>?_) (fun _=>?_)|refine aH rfl (fun _=>?_) (fun _=>?_)
   | ((first|refine am (fun _=>?_) (fun _=>?_)|refine aw (fun _=>?_) (fun _=>?_))<;>try refine sm ?_)
   | refine And.intro trivial ?_
   | refine And.intro (by omega) ?_
   | refine aM rfl (fun _=>?_) (fun _=>?_)
   | refine And.intro ?_ ?_
  exact .inl rfl;refine ⟨True,[],rfl,trivial,?_⟩;refine P8 (L0:=L) (L1:=L.set i (.map (fi (wh xs q seen)) ck)) (by simp) (fun hw k hk'=>?_) rfl hfin.out;rcases List.mem_or_eq_of_mem_set hk' with h1|h1
  ·exact hw k h1
  ·rw [h1];exact Tq _ _ _
 ·obtain ⟨p,hp,rfl⟩:=ZC.1 he;clear he;have hpx:=(aak.1 hp).1;have hs':seen.contains p.2.2=false:=hs;have hlt:=hid (Sc hpx hs');have hsub:(wh xs q seen).Sublist xs:=acn;have hmat:=WZ (ck:=ck) (seen:=seen) (List.Nodup.sublist (hsub.map (fun x:Ent=>x.2.2)) hb.out) hp;obtain ⟨jj,hj1,hj2⟩:=PP (wh xs q seen) p 0 (List.Nodup.sublist (hsub.map (fun x:Ent=>x.1)) hk.out) hp;have hy:=hid (fun hq'=>Uj (seen:=seen) hk.out hb.out hpx (q:=q) hq');have hn:=hid (fun hq'=>WC (seen:=seen) hb.out hpx (q:=q) hq');rw [aaN] at hj1;obtain ⟨x,b,m⟩:=p;simp only [MT] at *;clear hs hs' hsub hp;simp only [i3];have hkf:bC .int (.int .i64 x)=true:=rfl;have hle:(L++[Blk.miter (some i) ck [] ck]).length<=(L.set i (Blk.map (fi (wh xs q seen)) ck)++[Blk.miter (some i) ck (seen++[m]) ck]).length:=by simp
  replace hle:=hid hle;simp only [Kon,push_cast,reduceIte,Nat.reduceEqDiff,Nat.reduceAdd,Nat.reduceMul,Nat.reduceSub,Nat.reduceLT,Nat.reduceLeDiff,Int.reduceLT,Int.reduceLE,Int.reduceAdd,Int.reduceSub,Int.reduceNeg,Int.reduceToNat,Int.reduceEq,reduceCtorEq, *]
  repeat' first
   | refine bb ?_
   | (first|refine aU (by kernel_rfl) ?_|refine aA (by kernel_rfl) ?_|refine aD ?_|refine bS ?_|refine bh (fun _=>?_)|refine ay ?_|refine aW ?_)
     refine sm ?_
   | (first|refine aP (by kernel_rfl) ?_|refine aQ ?_|refine aC ?_|refine aV ?_|refine bq (ax ?_))
     refine sl ?_
   | exact bj
   | first|apply bm|apply aR|apply bo|apply aS|apply bp|apply aT
   | refine aG ?_
   | refine aB ?_
   | first|refine aE rfl ?_|refine aF rfl ?_|refine an rfl ?_ ?_|refine aI rfl (fun _=>?_) (fun _=>?_)|refine aH rfl (fun _=>?_) (fun _=>?_)
   | ((first|refine am (fun _=>?_) (fun _=>?_)|refine aw (fun _=>?_) (fun _=>?_))<;>try refine sm ?_)
   | refine And.intro trivial ?_
   | refine And.intro (by omega) ?_
   | refine aM rfl (fun _=>?_) (fun _=>?_)
   | refine And.intro ?_ ?_
  refine hq.out _ _ _ _ (hok.out _ _ _) ?_;simp only [Kon,push_cast,reduceIte,Nat.reduceEqDiff,Nat.reduceAdd,Nat.reduceMul,Nat.reduceSub,Nat.reduceLT,Nat.reduceLeDiff,Int.reduceLT,Int.reduceLE,Int.reduceAdd,Int.reduceSub,Int.reduceNeg,Int.reduceToNat,Int.reduceEq,reduceCtorEq, *];rcases hqx:q x with _|_
  ·have e1:=hid (hn.out hqx)
   repeat' first
    | refine bb ?_
    | (first|refine aU (by kernel_rfl) ?_|refine aA (by kernel_rfl) ?_|refine aD ?_|refine bS ?_|refine bh (fun _=>?_)|refine ay ?_|refine aW ?_)
      refine sm ?_
    | (first|refine aP (by kernel_rfl) ?_|refine aQ ?_|refine aC ?_|refine aV ?_|refine bq (ax ?_))
      refine sl ?_
    | exact bj
    | first|apply bm|apply aR|apply bo|apply aS|apply bp|apply aT
    | refine aG ?_
    | refine aB ?_
    | first|refine aE rfl ?_|refine aF rfl ?_|refine an rfl ?_ ?_|refine aI rfl (fun _=>?_) (fun _=>?_)|refine aH rfl (fun _=>?_) (fun _=>?_)
    | ((first|refine am (fun _=>?_) (fun _=>?_)|refine aw (fun _=>?_) (fun _=>?_))<;>try refine sm ?_)
    | refine And.intro trivial ?_
    | refine And.intro (by omega) ?_
    | refine aM rfl (fun _=>?_) (fun _=>?_)
    | refine And.intro ?_ ?_
   refine aj _ _ _ hlt.out (CutS (b:=by simp)) ⟨seen++[m],rfl,rfl,?_⟩;rw [e1.out]
  ·have e1:=hid (hy.out hqx)
   repeat' first
    | refine bb ?_
    | (first|refine aU (by kernel_rfl) ?_|refine aA (by kernel_rfl) ?_|refine aD ?_|refine bS ?_|refine bh (fun _=>?_)|refine ay ?_|refine aW ?_)
      refine sm ?_
    | (first|refine aP (by kernel_rfl) ?_|refine aQ ?_|refine aC ?_|refine aV ?_|refine bq (ax ?_))
      refine sl ?_
    | exact bj
    | first|apply bm|apply aR|apply bo|apply aS|apply bp|apply aT
    | refine aG ?_
    | refine aB ?_
    | first|refine aE rfl ?_|refine aF rfl ?_|refine an rfl ?_ ?_|refine aI rfl (fun _=>?_) (fun _=>?_)|refine aH rfl (fun _=>?_) (fun _=>?_)
    | ((first|refine am (fun _=>?_) (fun _=>?_)|refine aw (fun _=>?_) (fun _=>?_))<;>try refine sm ?_)
    | refine And.intro trivial ?_
    | refine And.intro (by omega) ?_
    | refine aM rfl (fun _=>?_) (fun _=>?_)
    | refine And.intro ?_ ?_
   refine aj _ _ _ hlt.out (CutS (b:=by simp)) ⟨seen++[m],rfl,rfl,?_⟩;rw [<- e1.out]
def PC (es:List (AV×AV×Nat)) (x:Int):Option Bool:=match dI (.int .i64 x) es 0 with
 | some (some (_,.bool b))=>some (!b)
 | some none=>some true
 | _=>none
theorem QH {ip j ck:Nat} {es:List (AV×AV×Nat)} (q:Int->Bool) (hes:∀ x,PC es x=some (q x)):V3 43 [.ptr ip 0] (fun L=>L[ip]?=some (.cells [.lmap j])/\L[j]?=some (.map es ck)) q:=fun L x b K hok h=>by
 obtain ⟨h1,h2⟩:=hok;replace h:=hid h;have hx:=hes x;clear hes;unfold PC at hx;have hkf:bC .int (.int .i64 x)=true:=rfl;refine ad fI (by simp [cY]) ?_;simp only [cY,aq];split at hx
 ·rename_i jj y hm
  simp only [ZB] at hx;replace hx:=hid hx
  repeat' first
   | refine bb ?_
   | (first|refine aU (by kernel_rfl) ?_|refine aA (by kernel_rfl) ?_|refine aD ?_|refine bS ?_|refine bh (fun _=>?_)|refine ay ?_|refine aW ?_)
     refine sm ?_
   | (first|refine aP (by kernel_rfl) ?_|refine aQ ?_|refine aC ?_|refine aV ?_|refine bq (ax ?_))
     refine sl ?_
   | exact bj
   | first|apply bm|apply aR|apply bo|apply aS|apply bp|apply aT
   | refine aG ?_
   | refine aB ?_
   | first|refine aE rfl ?_|refine aF rfl ?_|refine an rfl ?_ ?_|refine aI rfl (fun _=>?_) (fun _=>?_)|refine aH rfl (fun _=>?_) (fun _=>?_)
   | ((first|refine am (fun _=>?_) (fun _=>?_)|refine aw (fun _=>?_) (fun _=>?_))<;>try refine sm ?_)
   | refine And.intro trivial ?_
   | refine And.intro (by omega) ?_
   | refine aM rfl (fun _=>?_) (fun _=>?_)
   | refine And.intro ?_ ?_
  have h':=h.out;rw [<- hx.out] at h';exact aa h'
 ·rename_i hm
  simp only [ZB] at hx;replace hx:=hid hx
  repeat' first
   | refine bb ?_
   | (first|refine aU (by kernel_rfl) ?_|refine aA (by kernel_rfl) ?_|refine aD ?_|refine bS ?_|refine bh (fun _=>?_)|refine ay ?_|refine aW ?_)
     refine sm ?_
   | (first|refine aP (by kernel_rfl) ?_|refine aQ ?_|refine aC ?_|refine aV ?_|refine bq (ax ?_))
     refine sl ?_
   | exact bj
   | first|apply bm|apply aR|apply bo|apply aS|apply bp|apply aT
   | refine aG ?_
   | refine aB ?_
   | first|refine aE rfl ?_|refine aF rfl ?_|refine an rfl ?_ ?_|refine aI rfl (fun _=>?_) (fun _=>?_)|refine aH rfl (fun _=>?_) (fun _=>?_)
   | ((first|refine am (fun _=>?_) (fun _=>?_)|refine aw (fun _=>?_) (fun _=>?_))<;>try refine sm ?_)
   | refine And.intro trivial ?_
   | refine And.intro (by omega) ?_
   | refine aM rfl (fun _=>?_) (fun _=>?_)
   | refine And.intro ?_ ?_
  have h':=h.out;rw [<- hx.out] at h';exact aa h'
 ·cases hx
theorem SU {ip:Nat}:V3 43 [.ptr ip 0] (fun L=>L[ip]?=some (.cells [.nilmap])) (fun _=>true):=fun L x b K hok h=>by
 replace h:=hid h;have hkf:bC .int (.int .i64 x)=true:=rfl;refine ad fI (by simp [cY]) ?_;simp only [cY,aq]
 repeat' first
  | refine bb ?_
  | (first|refine aU (by kernel_rfl) ?_|refine aA (by kernel_rfl) ?_|refine aD ?_|refine bS ?_|refine bh (fun _=>?_)|refine ay ?_|refine aW ?_)
    refine sm ?_
  | (first|refine aP (by kernel_rfl) ?_|refine aQ ?_|refine aC ?_|refine aV ?_|refine bq (ax ?_))
    refine sl ?_
  | exact bj
  | first|apply bm|apply aR|apply bo|apply aS|apply bp|apply aT
  | refine aG ?_
  | refine aB ?_
  | first|refine aE rfl ?_|refine aF rfl ?_|refine an rfl ?_ ?_|refine aI rfl (fun _=>?_) (fun _=>?_)|refine aH rfl (fun _=>?_) (fun _=>?_)
  | ((first|refine am (fun _=>?_) (fun _=>?_)|refine aw (fun _=>?_) (fun _=>?_))<;>try refine sm ?_)
  | refine And.intro trivial ?_
  | refine And.intro (by omega) ?_
  | refine aM rfl (fun _=>?_) (fun _=>?_)
  | refine And.intro ?_ ?_
 exact aa h.out
open Go Go.Proofs Go.RowKit Go.Maps Go.Sort Go.Shelf
theorem IX (m:Nat):AnyZI.SortsIn Tryz.prog Tryz.sortedA_ren Fence.wide m :=
 ⟨fun blk off cap ss W hH hblk hsz=>callsIn_wide.2 (Tryz.slices_Sort_int blk off cap ss W hH hblk hsz),
  fun p cap W=>callsIn_wide.2 (Tryz.slices_Sort_int_none p cap W)⟩
set_option maxHeartbeats 2000000 in
theorem Sy {H:Type} (b nn:Nat) (D0:DataW H) (R:Value->Option (DataW H×List MemPlace)) (w:World) (hown:w.ownsMap Tryz.prog 3 R b nn D0) (hmax:Maps.size D0<=maxLen) (hbytes:Maps.size D0 * 8<=140737488355328) :
  Calls Tryz.prog 44 #[.map (some b)] w fun e w'=>∃ (v:Value) (ss:List Int),e=.returned v/\ss.Perm (intKeys D0) /\
   w'.ownsRow w.heap.size 3 1 v ss.length ((ss.mergeSort (fun x y=>decide (x<=y))).map encZ)/\(v=.slice none 0 0↔ss=[])/\Below w.heap.size w w':=by
 refine (callsIn_wide (n:=6)).1 ?_;have hbl:=hown.lt;have hseq:SeqGives Fence.wide 2 Tryz.prog 129 #[.pointer (some ⟨w.heap.size,0,none⟩)] encZ (fun ss=>ss.Perm (intKeys D0)) (Maps.size D0) (w.alloc (.cells #[.map (some b)] 101)) :=
  AnyZI.keys_gives (ρ:=Tryz.keysA_ren) { Tryz.keysA with } Fence.wide _ trivial rfl (by omega) w.heap.size b nn D0 _ (by simp) (by simp) (by
   obtain ⟨es,clock,hb,Ft,hs,hD⟩:=hown;exact ⟨es,clock,(Below.heap_alloc _ _ b hbl).trans hb,Ft,hs,hD⟩)
 have cK:∀ mb W,CallsIn Fence.wide 5 Tryz.prog 88 #[.map mb] W fun e w'=>e=.returned (.func (.func 129) #[] #[.pointer (some ⟨W.heap.size,0,none⟩)])/\w'=W.alloc (.cells #[.map mb] 101):=fun mb W=>AnyZI.keys_in Tryz.keysA Fence.wide 5 trivial rfl mb W
 have cS:=AnyZI.sorted_in Tryz.sortedA Fence.wide 5 trivial trivial trivial trivial rfl (by omega) (IX _) (enters_of Tryz.func105 (by kernel_rfl) rfl) 129 #[.pointer (some ⟨w.heap.size,0,none⟩)] trivial (enters_of Tryz.func129 (by kernel_rfl) rfl) _ _ hmax hbytes _ hseq;change CallsIn _ _ Tryz.prog 55 _ _ _ at cS;have hfK:Fence.wide.fn 88:=trivial;have hfS:Fence.wide.fn 55:=trivial;refine callsIn_of_wp Tryz.func44 rfl trivial ?_ rfl;simp only [Tryz.ntmps44,abS,ZN,aav,Nat.reduceAdd,Nat.reduceSub,acB,acC,List.push_toArray,acD,aab,aaf]
 gi_wp2_with (first
  | (gi_at_call 88;refine (cK _ _).mono ?_;rintro e w' ⟨rfl,rfl⟩)
  | (gi_at_call 55;refine cS.mono ?_;rintro e w' ⟨v,ss,rfl,hS,hrow,hnil,hb⟩))
 go_ret
 exact ⟨v,ss,rfl,hS,ownsRow_base_a hrow (by simp),hnil,((Below.refl _ w).alloc (ZA _) _).trans (hb.mono (by simp))⟩
theorem ML (w:World):Calls Tryz.prog 44 #[.map none] w fun e w'=>e=.returned (.slice none 0 0)/\Below w.heap.size w w':=by
 refine (callsIn_wide (n:=6)).1 ?_;have hseq:SeqGives Fence.wide 2 Tryz.prog 129 #[.pointer (some ⟨w.heap.size,0,none⟩)] encZ (fun ss:List Int=>ss=[]) 0 (w.alloc (.cells #[.map none] 101)) :=
  AnyZI.keys_gives_nil (ρ:=Tryz.keysA_ren) { Tryz.keysA with } Fence.wide _ trivial rfl w.heap.size _ (by simp) (by simp)
 have cK:∀ mb W,CallsIn Fence.wide 5 Tryz.prog 88 #[.map mb] W fun e w'=>e=.returned (.func (.func 129) #[] #[.pointer (some ⟨W.heap.size,0,none⟩)])/\w'=W.alloc (.cells #[.map mb] 101):=fun mb W=>AnyZI.keys_in Tryz.keysA Fence.wide 5 trivial rfl mb W
 have cS:=AnyZI.sorted_in Tryz.sortedA Fence.wide 5 trivial trivial trivial trivial rfl (by omega) (IX _) (enters_of Tryz.func105 (by kernel_rfl) rfl) 129 #[.pointer (some ⟨w.heap.size,0,none⟩)] trivial (enters_of Tryz.func129 (by kernel_rfl) rfl) _ 0 (ZI _) (by omega) _ hseq;change CallsIn _ _ Tryz.prog 55 _ _ _ at cS;have hfK:Fence.wide.fn 88:=trivial;have hfS:Fence.wide.fn 55:=trivial;refine callsIn_of_wp Tryz.func44 rfl trivial ?_ rfl;simp only [Tryz.ntmps44,abS,ZN,aav,Nat.reduceAdd,Nat.reduceSub,acB,acC,List.push_toArray,acD,aab,aaf]
 gi_wp2_with (first
  | (gi_at_call 88;refine (cK _ _).mono ?_;rintro e w' ⟨rfl,rfl⟩)
  | (gi_at_call 55;refine cS.mono ?_;rintro e w' ⟨v,ss,rfl,rfl,hrow,hnil,hb⟩;obtain rfl:v=.slice none 0 0:=hnil.2 rfl))
 go_ret
 exact ⟨rfl,((Below.refl _ w).alloc (ZA _) _).trans (hb.mono (by simp))⟩
theorem Rel.grownNew {w0:World} {S0:SB} {E:Env} {L:List Blk} {w w':World} (h:Rel w0 S0 E L w) (g:Dd w w') :
  ∃ E',E.le E'/\Rel w0 S0 E' L w'/\∀ b o v,w.heap.size<=b->w'.cell? ⟨b,o,none⟩=some v->E'.mem b o=some v:=by
 have h':=h.grown g;have hle:E.le { E with mem:=fun b o=>if w.heap.size<=b then w'.cell? ⟨b,o,none⟩ else E.mem b o }:=⟨fun b o v hv=>by
  show (if w.heap.size<=b then w'.cell? ⟨b,o,none⟩ else E.mem b o)=some v
  have:=h.mem_lt hv;rw [if_neg (by omega)];exact hv,fun _ _ x=>x,fun _ t ht=>⟨t,ht,.inl rfl⟩⟩
 refine ⟨_,hle,⟨fun b o v hv=>?_,fun i k hk=>?_,h'.fresh,fun i k c hk hl hc=>⟨fun o=>?_,(h'.own i k c hk hl hc).2⟩,h'.inj,h'.tkfresh,fun i n sz t d hi ht hd=>⟨fun o ho=>?_,(h'.tkown i n sz t d hi ht hd).2⟩,h'.tkloc,h'.tkinj,h'.frame,h'.size,h'.os,h'.tape,h'.output,h'.glob.mono hle.mem,h'.gsz⟩,fun b o v hb hv=>?_⟩
 ·have hv:(if w.heap.size<=b then w'.cell? ⟨b,o,none⟩ else E.mem b o)=some v:=hv;split at hv
  ·exact hv
  ·exact h'.mem b o v hv
 ·rcases hl:k.live with _|_
  ·exact bw.still (E:=E) hl rfl (fun _ _ _ _ _ _ _=>rfl) (h'.blk i k hk)
  ·exact bw.mono hle hl (h'.blk i k hk)
 ·have hc:E.loc i=some c:=hc;show (if w.heap.size<=c.blk then w'.cell? ⟨c.blk,o,none⟩ else E.mem c.blk o)=none
  have:=h.loc_lt hk hl hc;rw [if_neg (by omega)];exact (h.own i k c hk hl hc).1 o
 ·have ht:E.tok i=some t:=ht;show (if w.heap.size<=d.blk then w'.cell? ⟨d.blk,o,none⟩ else E.mem d.blk o)=none
  have:=h.tok_lt hi ht hd;rw [if_neg (by omega)];exact (h.tkown i n sz t d hi ht hd).1 o ho
 ·show (if w.heap.size<=b then w'.cell? ⟨b,o,none⟩ else E.mem b o)=some v
  rw [if_pos hb];exact hv
theorem JJ {P:Program} {f:FuncId} {fn:Func} (hf:P.funcs[f]?=some fn) (hb:fn.body.isSome=true) (hn:(fn.name == "runtime.NumGoroutine")=false) {args:List AV} {r:AV}
  (hc:∀ (w0:World) (S0:SB) (E:Env) (w:World) (vs:List Value),Rel w0 S0 E L w->VRL E args vs->Calls P f ⟨vs⟩ w fun e w'=>∃ v,e=.returned v/\Dd w w'/\∀ E':Env,E.le E'->(∀ b o v,w.heap.size<=b->w'.cell? ⟨b,o,none⟩=some v->E'.mem b o=some v)->VR E' r v) (hk:K r L):af P f args L K:=fun w0 S0 E w vs hR hv=>by
 refine .inl ⟨?_,(hc w0 S0 E w vs hR hv).mono fun e w' ⟨v,h1,h3,h2⟩=>by
  obtain ⟨E',g1,g2,g3⟩:=hR.grownNew h3;exact ⟨E',v,r,L,h1,g1,hk,h2 E' g1 g3,g2⟩⟩
 simp only [callFunc,ZG,run_program,ZH,hf,hn];cases h:fn.body with
 | none=>simp [h] at hb
 | some c=>simp
open Go.RowKit Go.Maps Go.Sort Go.MapKept in
theorem Uy {L:List Blk} {i ck:Nat} {es:List (AV×AV×Nat)} {ks:List Int} (hi:L[i]?=some (.map es ck)) (hks:iP es=some ks) (hf:nz es ck ks=true) {K:Zy} (h:K (.sl ((fu ks).map (AV.int .i64)) ks.length none) L):Zx 44 [.lmap i] L K:=by
 refine JJ Tryz.func44 rfl (by kernel_rfl) (fun w0 S0 E w vs hR hv=>?_) h;simp only [VRL] at hv;obtain ⟨v,_,rfl,hv,rfl⟩:=hv;obtain ⟨c,rs,hc,rfl,hb,hm⟩:=rp hR hi hv;obtain ⟨hk1,hk2⟩:=I7 hm hks;simp only [nz,ZE,ZJ,decide_eq_true_eq] at hf;obtain ⟨⟨⟨⟨f1,f2⟩,f3⟩,f4⟩,f5⟩:=hf;have hlen:rs.size=es.length:=by have:=au.len hm;simpa using this
 have hkl:ks.length=es.length:=by
  have:=congrArg List.length hk1;simp at this;omega
 have hkey:∀ (k:Int),k∈ks->keyOf Tryz.prog 3 (.int .i64 k)=some (.int .i64 k):=fun k hk=>by
  have hw:(Lit.int .i64 k).wf=true:=by
   have:=f1 k hk;simp only [Lit.wf,ZE,decide_eq_true_eq];exact this
  unfold keyOf mapKey;rw [show (Tryz.prog).underlying 3=some (.int .i64) from Tryz.underlying3];simp [hw]
 have hmem:∀ x∈rs.toList,∃ k,k∈ks/\x.key=.int .i64 k:=fun x hx=>by
  have:x.key∈rs.toList.map (·.key):=ZC.2 ⟨x,hx,rfl⟩;rw [hk1] at this;obtain ⟨k,h1,h2⟩:=ZC.1 this;exact ⟨k,h1,h2.symm⟩
 have hrd:∀ x∈rs.toList,∀ k,k∈ks->x.key=.int .i64 k->Go.WideElems.rd Tryz.prog 3 (fun _=>some ((.nil:DataW Unit),[])) x=some (.int .i64 k,.nil):=fun x hx k hk e=>by
  simp [Go.WideElems.rd,e,hkey k hk]
 have hown:w.ownsMap Tryz.prog 3 (fun _=>some ((.nil:DataW Unit),[])) c.blk rs.size (.map ((rs.toList.map (Go.WideElems.rg Tryz.prog 3 (fun _=>some ((.nil:DataW Unit),[])))).foldr DataW.insert [])):=by
  refine ⟨rs,ck,hb,⟨by simp only [maxLen];omega,⟨fun x hx=>?_,?_,?_⟩,fun x hx=>?_⟩,ZA _,rfl⟩
  ·have:x.born∈rs.toList.map (·.born):=ZC.2 ⟨x,hx,rfl⟩;rw [hk2] at this;obtain ⟨e,h1,h2⟩:=ZC.1 this;rw [<- h2];exact f4 e h1
  ·rw [hk2];exact I4 f3
  ·rw [hk1];exact List.Pairwise.map (Value.int .i64) (fun a b hab e=>hab (by simpa using e)) (I1 f2)
  ·obtain ⟨k,h1,h2⟩:=hmem x hx;exact ⟨_,hrd x hx k h1 h2⟩
 have hperm:(intKeys (.map ((rs.toList.map (Go.WideElems.rg Tryz.prog 3 (fun _=>some ((.nil:DataW Unit),[])))).foldr DataW.insert []))).Perm ks:=by
  have e1:(rs.toList.map (Go.WideElems.rg Tryz.prog 3 (fun _=>some ((.nil:DataW Unit),[])))).map (fun p=>_root_.Go.intOf p.1)=ks:=by
   have e2:rs.toList.map (fun x=>_root_.Go.intOf ((Go.WideElems.rg Tryz.prog 3 (fun _=>some ((.nil:DataW Unit),[]))) x).1)=rs.toList.map fun x=>(match x.key with | .int _ n=>n|_=>0):=by
    refine aa6 fun x hx=>?_
    obtain ⟨k,h1,h2⟩:=hmem x hx;rw [Go.WideElems.rg_of (hrd x hx k h1 h2),h2];rfl
   simp only [Z4,abw];rw [e2];have e3:(rs.toList.map (·.key)).map (fun v:Value=>match v with | .int _ n=>n|_=>0)=ks:=by
    rw [hk1,Z4];exact List.map_id' ks
   simp only [Z4,abw] at e3;exact e3
  have:=(WideShapes.sorted_perm (rs.toList.map (Go.WideElems.rg Tryz.prog 3 (fun _=>some ((.nil:DataW Unit),[]))))).map (fun p=>_root_.Go.intOf p.1);rw [e1] at this;exact this
 have hsz:Maps.size (.map ((rs.toList.map (Go.WideElems.rg Tryz.prog 3 (fun _=>some ((.nil:DataW Unit),[])))).foldr DataW.insert []))=rs.size:=by
  rw [Maps.size_eq,(WideShapes.sorted_perm _).length_eq];simp
 refine (Sy c.blk rs.size _ _ w hown (by rw [hsz];simp only [maxLen];omega) (by rw [hsz];omega)).mono ?_;rintro e w' ⟨v,ss,rfl,hS,hrow,hnil,hbel⟩;refine ⟨v,rfl,⟨fun b hb=>hbel.block b hb,hbel.size,hbel.os,hbel.tape,hbel.output⟩,fun E' hE hnew=>?_⟩;have hp:ss.Perm ks:=hS.trans hperm;have hms:ss.mergeSort (fun x y=>decide (x<=y))=fu ks:=by
  rw [<- NF];exact mergeSort_of_perm_i hp
 rw [hms] at hrow;have hl2:ss.length=ks.length:=hp.length_eq;simp only [VR];rcases hrow.2 with ⟨rfl,hz⟩|⟨g,cap,cur,rfl,hg,hcur,h1,h2,h3,h4⟩
 ·refine ⟨none,0,by rw [hl2] at hz;rw [hz],by omega,(fun k hk=>by cases hk),.inl ⟨by omega,rfl,?_⟩⟩;have:(fu ks).length=0:=by rw [(eJ ks).length_eq];omega
  rw [aaj.1 this];rfl
 ·refine ⟨some ⟨g,0,none⟩,cap,by rw [hl2],by omega,(fun k hk=>by cases hk),.inr ⟨g,0,rfl,VRC.of_get fun j a ha=>?_⟩⟩;obtain ⟨z,hz,rfl⟩:=ZZ.1 (aag .. ▸ ha);refine ⟨.int .i64 z,?_,by simp [VR]⟩;refine hnew g (0+j) _ hg ?_;have hj:j<(fu ks).length:=(Zz.1 hz).1;have h5:(cur.toList.take (ss.length * 1))[j]?=some (Value.int .i64 z):=by
   rw [h4,aag,hz];rfl
  rw [ab5] at h5;split at h5
  ·simp only [World.cell?,hcur];simpa using h5
  ·cases h5
theorem Qn (h:K (.sl [] 0 (some 0)) L):Zx 44 [.nilmap] L K:=by
 refine JJ Tryz.func44 rfl (by kernel_rfl) (fun w0 S0 E w vs hR hv=>?_) h;simp only [VRL,VR] at hv;obtain ⟨_,_,rfl,rfl,rfl⟩:=hv;refine (ML w).mono ?_;rintro e w' ⟨rfl,hbel⟩;refine ⟨_,rfl,⟨fun b hb=>hbel.block b hb,hbel.size,hbel.os,hbel.tape,hbel.output⟩,fun E' hE hnew=>?_⟩;simp only [VR];exact ⟨none,0,rfl,ZA _,(fun k hk=>by cases hk;rfl),.inl (by simp)⟩
abbrev Gm (l:List Int):AV:=.sl (l.map (AV.int .i64)) l.length none
structure MG (l:List bf):Prop where
 len:l.length<=1000
 rng:∀ e∈l,-9223372036854775808<=e.1/\e.1<=9223372036854775807
def Np (tm:TMp) (l:List bf) (n:List UInt8):List Int:=match cH tm (ab n) with
 | none=>[]
 | some _=>kx l (ab n)
def Tp (tm:TMp) (l:List bf) (n v:List UInt8):List Int:=match cH tm (ab n) with
 | none=>[]
 | some ty=>Yr (gu tm) l (ab n) ty.2.1 v
def On (tm:TMp) (l:List bf) (n:List UInt8) (ps:List Pc):List Int:=match cH tm (ab n) with
 | none=>[]
 | some ty=>MQ (gu tm) l (ab n) ty.2.1 ps
theorem Oa {l:List bf} (h:MG l) {f:List UInt8}:(∀ x∈kx l f,-9223372036854775808<=x/\x<=9223372036854775807)/\(kx l f).length<=1000:=by
 refine ⟨fun x hx=>?_,?_⟩
 ·obtain ⟨a,h1,_⟩:=zW.1 hx;exact h.rng _ h1
 ·unfold kx;rw [Z9];exact Z0 (abt _ _) h.len
theorem RJ {tys:List (List UInt8×Int)} {l:List bf} (h:MG l) {k:aZ}:(∀ x∈eE tys l k,-9223372036854775808<=x/\x<=9223372036854775807)/\(eE tys l k).length<=1000:=by
 refine ⟨fun x hx=>?_,?_⟩
 ·obtain ⟨a,h1,_⟩:=qQ.1 hx;exact h.rng _ h1
 ·unfold eE;rw [Z9];exact Z0 (abt _ _) h.len
theorem Ou {L:List Blk} {b:Nat} {P:Int->Prop} (h:mI L b P) {l:List Int} (hl:l.Pairwise (· < ·)) (hp:∀ x,P x↔x∈l) (hi:(∀ x∈l,-9223372036854775808<=x/\x<=9223372036854775807)/\l.length<=1000) {K:Zy} (hk:K (Gm l) L):Zx 44 [.lmap b] L K:=by
 obtain ⟨es,ck,ks,h1,h2,h3,h4,h5⟩:=h.rise hl hp hi.1 hi.2;refine Uy h1 h2 h3 ?_;rw [h4,h5];exact hk
theorem Ox {L:List Blk} {it:Nat} {tm:TMp} {l:List bf} {B:Nat->Prop} (ho:IxO L it tm l B) {n:List UInt8} (hn:bd n) {K:Zy} (h:K (.bool (cH tm (ab n)).isSome) L):Zx 11 [.ptr it 0,.str n] L K:=by
 obtain ⟨im,ie,ip,ii,em,ec,pm,pc,dm,dc,h1,h2,h3,h4⟩:=ho;obtain ⟨f,hf⟩:=Zt (ab n);have kk1:Hid (Ctr Tryz.prog 38 [.str n] (.str f)):=@hid _ (by intro L K q;exact eR hn (by rw [hf];exact q));rw [hf] at h;have hst:∀ X,(L++X)[it]?=some (.cells [.lmap im,.lmap ie,.lmap ip,.lmap ii]):=fun X=>(h1.more X).st
 have hty:∀ X,(L++X)[im]?=some (.map (aY AV.str tyV tm) tm.length):=fun X=>(h1.more X).ty
 have hst0:=h1.st;have hty0:=h1.ty;have hks:bC .str (.str f)=true:=rfl;rcases da (va:=tyV) nC h1.tok f lW with ⟨j,⟨w1,w2,w3,w4⟩,q1,q2,_⟩|⟨q1,q2,_⟩
 ·rw [q1] at h;simp only [abm] at h;replace h:=hid h;clear h1 h2 h3 h4 q1;refine Zw kK ?_;refine ⟨aL (kk1.out ⟨rfl,rfl⟩) rfl,?_⟩;refine wk ?_;exact ae rfl h.out
 ·rw [q1] at h;simp only [abg] at h;replace h:=hid h;clear h1 h2 h3 h4 q1;refine Zw kK ?_;refine ⟨aL (kk1.out ⟨rfl,rfl⟩) rfl,?_⟩;refine wk ?_;exact ae rfl h.out
theorem Pv {L:List Blk} {it:Nat} {tm:TMp} {l:List bf} {B:Nat->Prop} (ho:IxO L it tm l B) (hi:MG l) {n:List UInt8} (hn:bd n) {K:Zy} (h:K (Gm (Np tm l n)) L):Zx 14 [.ptr it 0,.str n] L K:=by
 have kk1:Hid (∀ {K:Zy},K (.bool (cH tm (ab n)).isSome) L->Zx 11 [.ptr it 0,.str n] L K):=@hid _ (fun {K} q=>Ox ho hn q);have hr:=ho.rise;obtain ⟨im,ie,ip,ii,em,ec,pm,pc,dm,dc,h1,h2,h3,h4⟩:=ho;unfold Np at h;obtain ⟨f,hf⟩:=Zt (ab n);have kk2:Hid (Ctr Tryz.prog 38 [.str n] (.str f)):=@hid _ (by intro L K q;exact eR hn (by rw [hf];exact q));rw [hf] at h kk1;have hst:=h1.st;have hpr:=h1.pr;have hks:bC .str (.str f)=true:=rfl;cases hg:cH tm f with
 | none =>
   rw [hg] at h kk1;simp only [abg] at kk1;replace h:=hid h;clear h1 h2 h3 h4 hg hr;refine Zw fm ?_;exact bv (aa h.out)
 | some ty =>
   rw [hg] at h kk1;simp only [abm] at kk1;have hfm:f∈pm.map (·.1):=(h1.pk f).2 (by
    obtain ⟨c,hc⟩:=fh hg;exact ZC.2 ⟨_,hc,rfl⟩)
   obtain ⟨j,b,q1,q2,_⟩:=mA (va:=AV.lmap) nC 0 h1.pok.keys hfm;rw [aaN] at q2;obtain ⟨R,hR⟩:=Zt (kx l f);have kk3:Hid (∀ {K:Zy},K (Gm R) L->Zx 44 [.lmap b] L K):=@hid _ (fun {K} q=>Ou (h1.ps f b q1) (Nn hr) (fun x=>Iff.rfl) (Oa hi) (by rw [hR];exact q));simp only [hR] at h;replace h:=hid h;clear h1 h2 h3 h4 hg hr q1 hfm hR;refine Zw fm ?_;exact aa h.out
theorem RE {L:List Blk} {it:Nat} {tm:TMp} {l:List bf} {B:Nat->Prop} (ho:IxO L it tm l B) (hi:MG l) {n v:List UInt8} (hn:bd n) {K:Zy} (h:K (Gm (Tp tm l n v)) L):Zx 18 [.ptr it 0,.str n,.str v] L K:=by
 have kk1:Hid (∀ {K:Zy},K (.bool (cH tm (ab n)).isSome) L->Zx 11 [.ptr it 0,.str n] L K):=@hid _ (fun {K} q=>Ox ho hn q);have hr:=ho.rise;obtain ⟨im,ie,ip,ii,em,ec,pm,pc,dm,dc,h1,h2,h3,h4⟩:=ho;unfold Tp at h;obtain ⟨f,hf⟩:=Zt (ab n);have kk2:Hid (Ctr Tryz.prog 38 [.str n] (.str f)):=@hid _ (by intro L K q;exact eR hn (by rw [hf];exact q));rw [hf] at h kk1;have hst:=h1.st;have hty:=h1.ty;have hid':=h1.ids;have hks:bC .str (.str f)=true:=rfl;rcases da (va:=tyV) nC h1.tok f lW with ⟨j,⟨w1,w2,w3,w4⟩,q1,q2,_⟩|⟨q1,q2,_⟩
 rotate_left
 ·rw [q1] at h kk1;simp only [abg] at kk1;replace h:=hid h;clear h1 h2 h3 h4 hr q1;refine Zw dp ?_;exact bv (aa h.out)
 ·rw [q1] at h kk1;simp only [abm] at kk1;simp only [Yr] at h;have kN:Hid (Ctr Tryz.prog 48 [.int .i64 w2,.str v] (Lz (cW w2 v))):=@hid _ (fun {L K} q=>Gs q);rcases hno:cW w2 v with _|m
  ·rw [hno] at kN h;have kk3:Hid (Ctr Tryz.prog 48 [.int .i64 w2,.str v] (.tup [.str [],.bool false])):=@hid _ (fun {L K} q=>kN.out q);replace h:=hid h;clear h1 h2 h3 h4 hr q1 kN hno;refine Zw dp ?_;exact bv (aa h.out)
  ·rw [hno] at kN h;simp only at h;have kk3:Hid (Ctr Tryz.prog 48 [.int .i64 w2,.str v] (.tup [.str m,.bool true])):=@hid _ (fun {L K} q=>kN.out q);have hk3:bC (.st [.str,.bool,.str]) (.agg [.str f,.bool false,.str m])=true:=rfl;obtain ⟨R,hR⟩:=Zt (eE (gu tm) l (f,false,m));rcases da (va:=AV.lmap) qN h1.dok (f,false,m) 0 with ⟨j',b,p1,p2,_⟩|⟨p1,p2,_⟩
   ·have kk4:Hid (∀ {K:Zy},K (Gm R) L->Zx 44 [.lmap b] L K):=@hid _ (fun {K} q=>Ou (h1.ds _ b p1) (S4 hr) (fun x=>Iff.rfl) (RJ hi) (by rw [hR];exact q));simp only [hR] at h;simp only [kV] at p2;replace h:=hid h;clear h1 h2 h3 h4 hr q1 kN hno p1 hR;refine Zw dp ?_;exact aa h.out
   ·have hRn:R=[]:=by
     rw [<- hR];have:=h1.dn _ p1;exact act.2 this
    have kk4:Hid (Ctr Tryz.prog 44 [.nilmap] (.sl [] 0 (some 0))):=@hid _ (fun {L K} q=>Qn q);simp only [hR,hRn] at h;simp only [kV] at p2;replace h:=hid h;clear h1 h2 h3 h4 hr q1 kN hno p1 hR hRn;refine Zw dp ?_;exact bv (aa h.out)
open Go Go.Proofs Go.RowKit Go.Maps Go.Sort Go.Shelf
set_option maxHeartbeats 4000000 in
theorem TI {H:Type} (xb xo b nn:Nat) (D0:DataW H) (R:Value->Option (DataW H×List MemPlace)) (w:World) (hx:w.cell? ⟨xb,xo+1,none⟩=some (.map (some b))) (hown:w.ownsMap Tryz.prog 3 R b nn D0) (hmax:Maps.size D0<=maxLen) (hbytes:Maps.size D0 * 8<=140737488355328) :
  Calls Tryz.prog 23 #[.pointer (some ⟨xb,xo,none⟩)] w fun e w'=>∃ (v:Value) (ss:List Int),e=.returned v/\ss.Perm (intKeys D0) /\
   w'.ownsRow w.heap.size 3 1 v ss.length ((ss.mergeSort (fun x y=>decide (x<=y))).map encZ)/\(v=.slice none 0 0↔ss=[])/\Below w.heap.size w w':=by
 refine (callsIn_wide (n:=6)).1 ?_;have hbl:=hown.lt;have hseq:SeqGives Fence.wide 2 Tryz.prog 106 #[.pointer (some ⟨w.heap.size,0,none⟩)] encZ (fun ss=>ss.Perm (intKeys D0)) (Maps.size D0) (w.alloc (.cells #[.map (some b)] 94)) :=
  AnyZI.keys_gives (ρ:=Tryz.keysB_ren) { Tryz.keysB with } Fence.wide _ trivial rfl (by omega) w.heap.size b nn D0 _ (by simp) (by simp) (by
   obtain ⟨es,clock,hb,Ft,hs,hD⟩:=hown;exact ⟨es,clock,(Below.heap_alloc _ _ b hbl).trans hb,Ft,hs,hD⟩)
 have cK:∀ mb W,CallsIn Fence.wide 5 Tryz.prog 56 #[.map mb] W fun e w'=>e=.returned (.func (.func 106) #[] #[.pointer (some ⟨W.heap.size,0,none⟩)])/\w'=W.alloc (.cells #[.map mb] 94):=fun mb W=>AnyZI.keys_in Tryz.keysB Fence.wide 5 trivial rfl mb W
 have cS:=AnyZI.sorted_in Tryz.sortedA Fence.wide 5 trivial trivial trivial trivial rfl (by omega) (IX _) (enters_of Tryz.func105 (by kernel_rfl) rfl) 106 #[.pointer (some ⟨w.heap.size,0,none⟩)] trivial (enters_of Tryz.func106 (by kernel_rfl) rfl) _ _ hmax hbytes _ hseq;change CallsIn _ _ Tryz.prog 55 _ _ _ at cS;have hfK:Fence.wide.fn 56:=trivial;have hfS:Fence.wide.fn 55:=trivial;refine callsIn_of_wp Tryz.func23 rfl trivial ?_ rfl;simp only [Tryz.ntmps23,abS,ZN,aav,Nat.reduceAdd,Nat.reduceSub,acB,acC,List.push_toArray,acD,aab,aaf]
 gi_wp2_with (first
  | (gi_at_call 56;refine (cK _ _).mono ?_;rintro e w' ⟨rfl,rfl⟩)
  | (gi_at_call 55;refine cS.mono ?_;rintro e w' ⟨v,ss,rfl,hS,hrow,hnil,hb⟩))
 go_ret
 exact ⟨v,ss,rfl,hS,ownsRow_base_a hrow (by simp),hnil,((Below.refl _ w).alloc (ZA _) _).trans (hb.mono (by simp))⟩
open Go.MapKept in
theorem X9 {E:Env} {es:List (AV×AV×Nat)} {rs:Array MapEntry} {ks:List Int} {ck:Nat} {w:World} {c:Loc} (hb:w.heap[c.blk]?=some (.map rs ck)) (hm:au E es rs.toList) (hks:iP es=some ks) (hf:nz es ck ks=true) :
  w.ownsMap Tryz.prog 3 (fun _=>some ((.nil:DataW Unit),[])) c.blk rs.size (.map ((rs.toList.map (Go.WideElems.rg Tryz.prog 3 (fun _=>some ((.nil:DataW Unit),[])))).foldr DataW.insert []))/\(intKeys (.map ((rs.toList.map (Go.WideElems.rg Tryz.prog 3 (fun _=>some ((.nil:DataW Unit),[])))).foldr DataW.insert []))).Perm ks/\Maps.size (.map ((rs.toList.map (Go.WideElems.rg Tryz.prog 3 (fun _=>some ((.nil:DataW Unit),[])))).foldr DataW.insert []))=rs.size/\rs.size<=1000:=by
 obtain ⟨hk1,hk2⟩:=I7 hm hks;simp only [nz,ZE,ZJ,decide_eq_true_eq] at hf;obtain ⟨⟨⟨⟨f1,f2⟩,f3⟩,f4⟩,f5⟩:=hf;have hlen:rs.size=es.length:=by have:=au.len hm;simpa using this
 have hkl:ks.length=es.length:=by
  have:=congrArg List.length hk1;simp at this;omega
 have hkey:∀ (k:Int),k∈ks->keyOf Tryz.prog 3 (.int .i64 k)=some (.int .i64 k):=fun k hk=>by
  have hw:(Lit.int .i64 k).wf=true:=by
   have:=f1 k hk;simp only [Lit.wf,ZE,decide_eq_true_eq];exact this
  unfold keyOf mapKey;rw [show (Tryz.prog).underlying 3=some (.int .i64) from Tryz.underlying3];simp [hw]
 have hmem:∀ x∈rs.toList,∃ k,k∈ks/\x.key=.int .i64 k:=fun x hx=>by
  have:x.key∈rs.toList.map (·.key):=ZC.2 ⟨x,hx,rfl⟩;rw [hk1] at this;obtain ⟨k,h1,h2⟩:=ZC.1 this;exact ⟨k,h1,h2.symm⟩
 have hrd:∀ x∈rs.toList,∀ k,k∈ks->x.key=.int .i64 k->Go.WideElems.rd Tryz.prog 3 (fun _=>some ((.nil:DataW Unit),[])) x=some (.int .i64 k,.nil):=fun x hx k hk e=>by
  simp [Go.WideElems.rd,e,hkey k hk]
 have hown:w.ownsMap Tryz.prog 3 (fun _=>some ((.nil:DataW Unit),[])) c.blk rs.size (.map ((rs.toList.map (Go.WideElems.rg Tryz.prog 3 (fun _=>some ((.nil:DataW Unit),[])))).foldr DataW.insert [])):=by
  refine ⟨rs,ck,hb,⟨by simp only [maxLen];omega,⟨fun x hx=>?_,?_,?_⟩,fun x hx=>?_⟩,ZA _,rfl⟩
  ·have:x.born∈rs.toList.map (·.born):=ZC.2 ⟨x,hx,rfl⟩;rw [hk2] at this;obtain ⟨e,h1,h2⟩:=ZC.1 this;rw [<- h2];exact f4 e h1
  ·rw [hk2];exact I4 f3
  ·rw [hk1];exact List.Pairwise.map (Value.int .i64) (fun a b hab e=>hab (by simpa using e)) (I1 f2)
  ·obtain ⟨k,h1,h2⟩:=hmem x hx;exact ⟨_,hrd x hx k h1 h2⟩
 have hperm:(intKeys (.map ((rs.toList.map (Go.WideElems.rg Tryz.prog 3 (fun _=>some ((.nil:DataW Unit),[])))).foldr DataW.insert []))).Perm ks:=by
  have e1:(rs.toList.map (Go.WideElems.rg Tryz.prog 3 (fun _=>some ((.nil:DataW Unit),[])))).map (fun p=>_root_.Go.intOf p.1)=ks:=by
   have e2:rs.toList.map (fun x=>_root_.Go.intOf ((Go.WideElems.rg Tryz.prog 3 (fun _=>some ((.nil:DataW Unit),[]))) x).1)=rs.toList.map fun x=>(match x.key with | .int _ n=>n|_=>0):=by
    refine aa6 fun x hx=>?_
    obtain ⟨k,h1,h2⟩:=hmem x hx;rw [Go.WideElems.rg_of (hrd x hx k h1 h2),h2];rfl
   simp only [Z4,abw];rw [e2];have e3:(rs.toList.map (·.key)).map (fun v:Value=>match v with | .int _ n=>n|_=>0)=ks:=by
    rw [hk1,Z4];exact List.map_id' ks
   simp only [Z4,abw] at e3;exact e3
  have:=(WideShapes.sorted_perm (rs.toList.map (Go.WideElems.rg Tryz.prog 3 (fun _=>some ((.nil:DataW Unit),[]))))).map (fun p=>_root_.Go.intOf p.1);rw [e1] at this;exact this
 have hsz:Maps.size (.map ((rs.toList.map (Go.WideElems.rg Tryz.prog 3 (fun _=>some ((.nil:DataW Unit),[])))).foldr DataW.insert []))=rs.size:=by
  rw [Maps.size_eq,(WideShapes.sorted_perm _).length_eq];simp
 exact ⟨hown,hperm,hsz,by omega⟩
def M2 (l:List bf):List Int:=l.map (·.1)
theorem RF {L:List Blk} {it:Nat} {tm:TMp} {l:List bf} {B:Nat->Prop} (ho:IxO L it tm l B) (hi:MG l) {K:Zy} (h:K (Gm (M2 l)) L):Zx 23 [.ptr it 0] L K:=by
 obtain ⟨im,ie,ip,ii,em,ec,pm,pc,dm,dc,h1,h2,h3,h4⟩:=ho;have hmm:∀ x,x∈em.map (·.1)↔x∈M2 l:=fun x=>by
  unfold M2;rw [ZC,ZC];constructor
  ·rintro ⟨e,he,rfl⟩;exact ⟨_,(h2 _ _).1 (qI h1.eok.keys he),rfl⟩
  ·rintro ⟨⟨y,a⟩,he,rfl⟩;obtain ⟨b,hb⟩:=fh ((h2 _ _).2 he);exact ⟨_,hb,rfl⟩
 have hS:fu (em.map (·.1))=M2 l:=Ki h1.eok.keys h3 hmm;have hlen:(em.map (·.1)).length=(M2 l).length:=by rw [<- hS];exact (eJ _).length_eq.symm
 have hks:iP (aY (AV.int .i64) atV em)=some (em.map (·.1)):=by
  have:∀ xs:List (a8 Int (List Atr)),iP (aY (AV.int .i64) atV xs)=some (xs.map (·.1)):=fun xs=>by
   induction xs with
   | nil=>rfl
   | cons x t ih =>
     unfold aY at ih ⊢;rw [ZK,ZK];simp only [rA,iP,ih,ZV]
  exact this em
 have hfine:nz (aY (AV.int .i64) atV em) ec (em.map (·.1))=true:=by
  have e1:(aY (AV.int .i64) atV em).map (·.2.2)=em.map (·.2.2):=by
   unfold aY;rw [Z4];rfl
  unfold nz;rw [e1,I5 h1.eok.born,I2 h1.eok.keys];simp only [ZE,aaw,abv,ZJ,decide_eq_true_eq];refine ⟨⟨fun k hk=>?_,fun e he=>?_⟩,?_⟩
  ·obtain ⟨e,he,rfl⟩:=ZC.1 ((hmm k).1 hk);exact hi.rng e he
  ·unfold aY at he;obtain ⟨q,hq,rfl⟩:=ZC.1 he;exact h1.eok.lt q hq
  ·unfold aY;rw [Z9];rw [Z9] at hlen;have:=hi.len;unfold M2 at hlen;rw [Z9] at hlen;omega
 obtain ⟨ks,hk0⟩:=Zt (em.map (·.1));rw [hk0] at hS hlen hks hfine;refine JJ Tryz.func23 rfl (by kernel_rfl) (fun w0 S0 E w vs hR hv=>?_) (r:=.sl ((fu ks).map (AV.int .i64)) ks.length none) (by
  rw [hS,hlen];exact h)
 simp only [VRL,VR] at hv;obtain ⟨_,_,rfl,⟨cx,hcx,rfl⟩,rfl⟩:=hv;obtain ⟨c',cs,ty,fr,y1,y2,y3,y4,y5,_⟩:=hR.blk it _ h1.st;rw [hcx] at y1;cases y1;obtain ⟨u,u1,u2⟩:=y5 1 (.lmap ie) rfl;obtain ⟨c,rs,hc,rfl,hb,hm⟩:=rp hR h1.en u2;obtain ⟨hown,hperm,hsz,hrs⟩:=X9 hb hm hks hfine;have hcell:w.cell? ⟨cx.blk,cx.off+0+1,none⟩=some (.map (some c.blk)):=by
  simp only [World.cell?,y2];simpa using u1
 refine (TI cx.blk (cx.off+0) c.blk rs.size _ _ w hcell hown (by rw [hsz];simp only [maxLen];omega) (by rw [hsz];omega)).mono ?_;rintro e w' ⟨v,ss,rfl,hSS,hrow,hnil,hbel⟩;refine ⟨v,rfl,⟨fun b hb=>hbel.block b hb,hbel.size,hbel.os,hbel.tape,hbel.output⟩,fun E' hE hnew=>?_⟩;have hp:ss.Perm ks:=hSS.trans hperm;have hms:ss.mergeSort (fun x y=>decide (x<=y))=fu ks:=by
  rw [<- NF];exact mergeSort_of_perm_i hp
 rw [hms] at hrow;have hl2:ss.length=ks.length:=hp.length_eq;simp only [VR];rcases hrow.2 with ⟨rfl,hz⟩|⟨g,cap,cur,rfl,hg,hcur,h1,h2,h3,h4⟩
 ·refine ⟨none,0,by rw [hl2] at hz;rw [hz],by omega,(fun k hk=>by cases hk),.inl ⟨by omega,rfl,?_⟩⟩;have:(fu ks).length=0:=by rw [(eJ ks).length_eq];omega
  rw [aaj.1 this];rfl
 ·refine ⟨some ⟨g,0,none⟩,cap,by rw [hl2],by omega,(fun k hk=>by cases hk),.inr ⟨g,0,rfl,VRC.of_get fun j a ha=>?_⟩⟩;obtain ⟨z,hz,rfl⟩:=ZZ.1 (aag .. ▸ ha);refine ⟨.int .i64 z,?_,by simp [VR]⟩;refine hnew g (0+j) _ hg ?_;have hj:j<(fu ks).length:=(Zz.1 hz).1;have h5:(cur.toList.take (ss.length * 1))[j]?=some (Value.int .i64 z):=by
   rw [h4,aag,hz];rfl
  rw [ab5] at h5;split at h5
  ·simp only [World.cell?,hcur];simpa using h5
  ·cases h5
structure Zd (L0:List Blk) (it im ie ip ii:Nat) (tm:TMp) (pm:List (a8 (List UInt8) Nat)) (pc:Nat) (L:List Blk):Prop where
 ix:IxH L it im ie ip ii tm tm.length [] 0 pm pc [] 0 (fun _ _=>False) (fun _ _=>False)
 bes:bA (fun _=>False) L0 L
 own:∀ i,i∈it::im::ie::ip::ii::(pm.map (·.2.1)++([]:List (a8 aZ Nat)).map (·.2.1))->L0.length<=i
theorem Ow {ts:List Typ} {capT:Option Nat} {c2:List AV} {n2:Nat} {cap2:Option Nat} {ns:List (List UInt8)} {cap:Option Nat} (hl:ts.length<=1100000) (hts:∀ t∈ts,bd t.1) (hnl:ns.length<=1000000) (hn:∀ n∈ns,bd n) {R:Int×TMp} (hR:zY ts [] ns=R) {L:List Blk} {K:Zy}
  (h0:∀ L',R.1≠0->bA (fun _=>False) L L'->K (.tup [.nilptr,.int .i64 R.1]) L')
  (h1:∀ L' it B,R.1=0->IxO L' it R.2 [] B->bA (fun _=>False) L L'->(∀ i,B i->L.length<=i)->K (.tup [.ptr it 0,.int .i64 0]) L') :
  Zx 19 [.agg [.sl (cy ts) ts.length capT,.sl c2 n2 cap2],.sl (ns.map AV.str) ns.length cap] L K:=by
 have kF:Hid (∀ {n:List UInt8},bd n->∀ {L:List Blk} {K:Zy},K (Km (eD ts n)) L->Zx 49 [.agg [.sl (cy ts) ts.length capT,.sl c2 n2 cap2],.str n] L K):=@hid _ (fun {n} h {L K} q=>Yq hl hts h q);replace hR:=hid hR;replace hn:=hid hn;replace h0:=hid h0;replace h1:=hid h1;clear hts hl;obtain ⟨TS,hTS⟩:=Zt (cy ts);obtain ⟨tl,htl⟩:=Zt (ts.length);rw [hTS,htl] at kF ⊢;refine Zw Mo ?_;refine ak (fun m T' L'=>∃ (i:Nat) (tm:TMp) (pm:List (a8 (List UInt8) Nat)) (pc:Nat),m=ns.length - i/\i<=ns.length/\Hid (zY ts tm (ns.drop i)=R)/\Hid (Zd L (L.length+5) (L.length+1) (L.length+2) (L.length+3) (L.length+4) tm pm pc L')/\Hid (L'[L.length]?=some (.cells [.sl TS tl capT,.sl c2 n2 cap2]))/\T'=[(21,.int .i64 (i:Int)),(20,.int .i64 ns.length),(19,.sl (ns.map AV.str) ns.length cap),(6,.ptr (L.length+5) 0),(2,.ptr L.length 0)]) (CutS (b:=by simp)) ⟨0,[],[],0,rfl,ZI _,hid (by simpa using hR.out),hid ⟨IxH.start (by rw [Z5 (by omega)];simp) (by rw [Z5 (by omega)];simp [aY]) (by rw [Z5 (by omega)];simp [aY]) (by rw [Z5 (by omega)];simp [aY]) (by rw [Z5 (by omega)];simp [aY]) (by simp) (fun _ _ e=>e),bA.app _ _,by simp⟩,hid (by simp),rfl⟩ ?_;rintro _ _ L' ⟨i,tm,pm,pc,rfl,hi,hr,hN,hb,rfl⟩;have hst:=hN.out.ix.st;have hl1:L.length+6<=L'.length:=(Zz.1 hst).1;by_cases hlt:i<ns.length
 ·have j1:(i:Int)<(ns.length:Int):=by omega
  have j2:=Zv i (by omega);have j3:(ns.map AV.str).getD i .undef=.str (ns.getD i []):=by simp [hlt]
  have j4:i<(ns.map AV.str).length:=by simpa using hlt
  obtain ⟨n,hn1⟩:=Zt (ns.getD i []);have hrn:bd n:=hn.out n (by rw [<- hn1];simp [hlt]);have hdr:ns.drop i=n::ns.drop (i+1):=by rw [aal hlt,<- hn1];simp [hlt]
  rw [hn1] at j3;have hr2:=hr.out;rw [hdr,zY] at hr2;clear hr hn1 hdr;obtain ⟨NS,hNS⟩:=Zt (ns.map AV.str);rw [hNS] at j3 j4 ⊢;replace hNS:=hid hNS;obtain ⟨f,hf⟩:=Zt (ab n);rw [hf] at hr2;have kk2:Hid (Ctr Tryz.prog 38 [.str n] (.str f)):=@hid _ (by intro L K q;exact eR hrn (by rw [hf];exact q));have hks:bC .str (.str f)=true:=rfl;have aX:∀ (X:List Blk) {i:Nat} {b:Blk},L'[i]?=some b->(L'++X)[i]?=some b:=fun X {i b} e=>Zu e
  have a0:L'[L.length]?=some (.cells [.sl TS tl capT,.sl c2 n2 cap2]):=hb.out;have a1:∀ X,(L'++X)[L.length+5]?=some (.cells [.lmap (L.length+1),.lmap (L.length+2),.lmap (L.length+3),.lmap (L.length+4)]):=fun X=>aX X hst
  have a2:∀ X,(L'++X)[L.length+1]?=some (.map (aY AV.str tyV tm) tm.length):=fun X=>aX X hN.out.ix.ty
  clear hb;have kT:∀ (t:Option Typ),eD ts n=t->∃ t1 t2 t3 t4,t.getD lW=(t1,t2,t3,t4)/\Hid (Ctr Tryz.prog 49 [.agg [.sl TS tl capT,.sl c2 n2 cap2],.str n] (.tup [.agg [.str t1,.int .i64 t2,.bool t3,.bool t4],.bool t.isSome])):=fun t ht=>by
   obtain ⟨⟨t1,t2,t3,t4⟩,h⟩:∃ x,t.getD lW=x:=⟨_,rfl⟩;refine ⟨t1,t2,t3,t4,h,@hid _ (fun {L K} q=>kF.out hrn ?_)⟩;rw [ht,Km,h];exact q
  obtain ⟨t1,t2,t3,t4,ht,kk1⟩:=kT _ rfl;clear kT hst;rcases da (va:=tyV) nC hN.out.ix.tok f (t1,t2,t3,t4) with ⟨j,⟨w1,w2,w3,w4⟩,q1,q2,q3,q4⟩|⟨q1,q2,q3,q4⟩
  ·
   rcases hty:eD ts n with _|ty
   ·rw [hty] at hr2 kk1;have hfin:=hid (h0.out (L'++[.cells [.str t1,.int .i64 t2,.bool t3,.bool t4],.cells [.str w1,.int .i64 w2,.bool w3,.bool w4]]) (by rw [<- hr2];simp) (hN.out.bes.app2 _));rw [<- hr2] at hfin;simp only [abg] at kk1;clear hN hty ht hr2 q1 q3 q4 aX hR;refine wk ?_;refine ⟨aL (kk2.out ⟨rfl,rfl⟩) rfl,?_⟩;refine wk ?_;exact aa hfin.out
   ·rw [hty] at hr2 kk1;simp only [if_pos q4] at hr2;have hfin:=hid (h0.out (L'++[.cells [.str t1,.int .i64 t2,.bool t3,.bool t4],.cells [.str w1,.int .i64 w2,.bool w3,.bool w4]]) (by rw [<- hr2];simp) (hN.out.bes.app2 _));rw [<- hr2] at hfin;simp only [abm] at kk1;clear hN hty ht hr2 q1 q3 q4 aX hR;refine wk ?_;refine ⟨aL (kk2.out ⟨rfl,rfl⟩) rfl,?_⟩;refine wk ?_;exact aa hfin.out
  ·rcases hty:eD ts n with _|ty
   ·rw [hty] at hr2 kk1;have hfin:=hid (h0.out (L'++[.cells [.str t1,.int .i64 t2,.bool t3,.bool t4],.cells [.str [],.int .i64 0,.bool false,.bool false]]) (by rw [<- hr2];simp) (hN.out.bes.app2 _));rw [<- hr2] at hfin;simp only [abg] at kk1;clear hN hty ht hr2 q1 q3 q4 aX hR;refine wk ?_;refine ⟨aL (kk2.out ⟨rfl,rfl⟩) rfl,?_⟩;refine wk ?_;exact aa hfin.out
   ·rw [hty] at hr2 kk1 ht;simp only [if_neg q4] at hr2;simp only [abm] at kk1;simp only [aaA] at ht;subst ht;have hfp:f ∉ pm.map (·.1):=fun e=>q4 ((hN.out.ix.pk f).1 e)
    rcases da (va:=AV.lmap) nC hN.out.ix.pok f (L'.length+2) with ⟨_,_,_,_,_,p4⟩|⟨p1,p2,p3,p4⟩
    ·exact absurd p4 hfp
    have hT:=(hN.out.ix.more [.cells [.str t1,.int .i64 t2,.bool t3,.bool t4],.cells [.str [],.int .i64 0,.bool false,.bool false]]).tyNew q4 (t1,t2,t3,t4) (fun _ e=>e);have him:L.length+1<L'.length:=by omega
    have hip:L.length+3<L'.length:=by omega
    have s1:∀ X c,(L'++X).set (L.length+1) c=L'.set (L.length+1) c++X:=fun X c=>aaC _ _ him
    have s2:∀ X c d,(L'.set (L.length+1) c++X).set (L.length+3) d=(L'.set (L.length+1) c).set (L.length+3) d++X:=fun X c d=>aaC _ _ (by simpa using hip)
    have s3:∀ c,(L'.set (L.length+1) c).length=L'.length:=fun c=>by simp
    have gl:∀ (X:List Blk) c {j:Nat} {b:Blk},L.length+1≠j->L'[j]?=some b->(L'.set (L.length+1) c++X)[j]?=some b:=fun X c {j b} ne e=>by
     rw [ZM (by simpa using (Zz.1 e).1),ZU ne];exact e
    have b1:∀ X c,(L'.set (L.length+1) c++X)[L.length+5]?=some (.cells [.lmap (L.length+1),.lmap (L.length+2),.lmap (L.length+3),.lmap (L.length+4)]):=fun X c=>gl X c (by omega) hN.out.ix.st
    have b2:∀ X c,(L'.set (L.length+1) c++X)[L.length+3]?=some (.map (aY AV.str AV.lmap pm) pc):=fun X c=>gl X c (by omega) hN.out.ix.pr
    have b3:∀ (a c d:Blk) (X:List Blk),(L'++a::X)[L'.length]?=some a:=fun a c d X=>lY _ _ _
    rw [s1,ZO,s2,show (L'++[Blk.cells [.str t1,.int .i64 t2,.bool t3,.bool t4],Blk.cells [.str [],.int .i64 0,.bool false,.bool false]]).length=L'.length+2 by simp] at hT;have hes:mf tm f (t1,t2,t3,t4) tm.length=tm++[(f,(t1,t2,t3,t4),tm.length)]:=by unfold mf;rw [if_neg q4]
    have hep:mf pm f (L'.length+2) pc=pm++[(f,L'.length+2,pc)]:=by unfold mf;rw [if_neg p4]
    rw [hes] at q3;rw [hep] at p3;have hB:=hN.out.bes;have hN2:=hid (show Zd L (L.length+5) (L.length+1) (L.length+2) (L.length+3) (L.length+4) (tm++[(f,(t1,t2,t3,t4),tm.length)]) (pm++[(f,L'.length+2,pc)]) (pc+1) _ from ⟨hT,⟨by simp;omega,fun j hj _=>by
     rw [ZM (by simp;omega),ZU (by omega),ZU (by omega)];exact hB.eq j hj (fun e=>e)⟩,fun j hj=>by
     simp only [Z7,ZK,abr,ZF,ZD,abj,or_false] at hj;rcases hj with e|e|e|e|e|e|e
     ·omega
     ·omega
     ·omega
     ·omega
     ·omega
     ·exact hN.out.own j (by simp only [ZF,ZD];exact .inr (.inr (.inr (.inr (.inr (.inl e))))))
     ·omega⟩)
    have hbb:Hid (((L'.set (L.length+1) (Qh (tm++[(f,(t1,t2,t3,t4),tm.length)]) (tm.length+1))).set (L.length+3) (UL (pm++[(f,L'.length+2,pc)]) (pc+1))++([.cells [.str t1,.int .i64 t2,.bool t3,.bool t4],.cells [.str [],.int .i64 0,.bool false,.bool false]]++[gv [] 0]))[L.length]?=some (.cells [.sl TS tl capT,.sl c2 n2 cap2])):=hid (by
     rw [ZM (by simp;omega),ZU (by omega),ZU (by omega)];exact a0)
    replace hr2:=hid hr2;clear hT hN hB aX gl hes hep p4 q4 q1 p1 hfp hty hR him hip;refine wk ?_;refine ⟨aL (kk2.out ⟨rfl,rfl⟩) rfl,?_⟩;refine wk ?_;refine ⟨aL (kk2.out ⟨rfl,rfl⟩) rfl,?_⟩;refine wk ?_;rw [<- hNS.out];exact aj _ _ _ (by omega) (CutL (b:=by simp;omega)) ⟨i+1,_,_,_,rfl,hlt,hr2,hN2,hbb,rfl⟩
 ·have hie:i=ns.length:=by omega
  subst hie;have j1:¬ (ns.length:Int)<(ns.length:Int):=by omega
  have hr2:=hr.out;rw [aai,zY] at hr2;have hfin:=hid (h1.out L' (L.length+5) _ (by rw [<- hr2]) (by
   rw [<- hr2];exact ⟨L.length+1,L.length+2,L.length+3,L.length+4,[],0,pm,pc,[],0,hN.out.ix.iff (fun f x _=>by simp [kx]) (fun k x=>by simp [eE]),GX.nil,List.Pairwise.nil,fun i=>Iff.rfl⟩) hN.out.bes hN.out.own)
  clear hr2 hr hN hb hst hR;refine wk ?_;exact aa hfin.out
end Go.Proofs.YtcmfcpjnhephaaaGreatDoor.Av
