/- Joined texts of the walk, made small by a program. -/
import Derived.Test.YtcmfcpjnhephaaaGreatDoorJk22
import Derived.Test.YtcmfcpjnhephaaaGreatDoorJk17
import Derived.Test.YtcmfcpjnhephaaaGreatDoorJk13
import Derived.Test.YtcmfcpjnhephaaaGreatDoorJk15
import Derived.Test.YtcmfcpjnhephaaaGreatDoorJk16
import Derived.Test.YtcmfcpjnhephaaaGreatDoorJk6
set_option linter.unusedSimpArgs false
set_option linter.unusedVariables false
namespace Go.Proofs.YtcmfcpjnhephaaaGreatDoor.Av
open Go
variable {L:List Blk} {K:abD}
set_option maxHeartbeats 8000000
set_option maxRecDepth 100000
theorem UI {l:List Pc} {cap:Option Nat} (hn:l.length<=1100000) (h:K (.tup [.int .i64 (if J4 l=true then 0 else 4),.int .i64 1]) L) :
  abC 94 [aa6 l cap,.int .i64 1,.int .i64 0] L K:=by
 have hty:fc [97]=true:=by decide
 replace h:=hid h;refine abB K5 ?_;refine PO (by simp) ?_;rw [hty];refine sk ?_;refine wk ?_;obtain ⟨M,hM⟩:=aby (L++[Blk.cells [.int .i64 4,.str [97],.str [],.sl (dH l) l.length cap,.sl [] 0 (some 0)]]);have hg:∀ X:List Blk,(M++X)[L.length]?=some (.cells [.int .i64 4,.str [97],.str [],.sl (dH l) l.length cap,.sl [] 0 (some 0)]):=fun X=>by
  rw [<- hM,abT,ab8 (abF _),ac5];rfl
 have hend:∀ (X:List Blk),M++X=L++(Blk.cells [.int .i64 4,.str [97],.str [],.sl (dH l) l.length cap,.sl [] 0 (some 0)]::X):=fun X=>by
  rw [<- hM,abT];rfl
 replace hend:=hid hend;rw [hM];have hMl:L.length<=M.length:=by rw [<- hM];simp
 clear hM;refine ak (fun n T' L'=>∃ (i:Nat) (b:Bool) (Z:List Blk),n=l.length - i/\i<=l.length/\Hid ((b && M7 l.length i (l.drop i))=J4 l)/\T'=[(86,.int .i64 (i:Int)),(85,.int .i64 l.length),(84,.sl (dH l) l.length cap),(11,.bool b),(2,.int .i64 1),(7,.int .i64 0),(6,.int .i64 0),(3,.ptr L.length 0)]/\L'=M++Z) (CutS (b:=by simp)) ⟨0,_,[],rfl,abL _,hid (by rw [J4,Bool.and_comm];simp),rfl,by simp⟩ ?_;rintro _ _ _ ⟨i,b,Z,rfl,hi,hI,rfl,rfl⟩;by_cases hlt:i<l.length;rotate_left
 ·have hke:i=l.length:=by omega
  subst hke;have g1:¬ (l.length:Int)<(l.length:Int):=by omega
  have hz:=hI.out;rw [acm,M7,ady] at hz;have h':=h.out;rw [<- hz] at h';clear hz hI;cases b with
  | true =>
    replace h':=hid h';refine wk ?_;rw [hend.out];exact ae rfl h'.out
  | false =>
    replace h':=hid h';refine wk ?_;rw [hend.out];exact ae rfl h'.out
 have g1:(i:Int)<(l.length:Int):=by omega
 have g2:=abA i (by omega);have e3:=J5 hlt;have e4:i * 2+2<=(dH l).length:=by rw [Ea];omega
 obtain ⟨⟨x,t⟩,ha⟩:∃ a,l.getD i (0,[])=a:=⟨_,rfl⟩;have hdr:l.drop i=(x,t)::l.drop (i+1):=by rw [acp hlt,<- ha];simp [hlt]
 rw [ha] at e3;simp only [pcA] at e3;have hI2:=hI.out;rw [hdr,M7,<- Bool.and_assoc] at hI2;clear hdr ha hI;replace hI2:=hid hI2;refine wk ?_;refine ai _ _ _ (by omega) (CutL (b:=by simp)) ⟨i+1,_,_,rfl,hlt,hid ?_,rfl,rfl⟩;rw [<- hI2.out];have hb:(!decide (t=[]) && decide ((x=1\/x=0/\(i:Int)=0)\/x=2/\(i:Int)+1=(l.length:Int))) = !Tz l.length i (x,t):=by
  by_cases h0:t=[]
  ·simp [Tz,h0]
  ·rw [decide_eq_false h0,Tz,<- decide_not,ads,acy,decide_eq_decide];simp only [h0,false_or];omega
 rw [Bool.and_assoc b,hb]
theorem mf {l:List Pc} {cap:Option Nat} (hn:l.length<=1100000) (h:K (.int .i64 (if J4 l=true then 0 else 4)) L) :
  abC 46 [aa6 l cap] L K:=by
 obtain ⟨r,hr⟩:∃ r:Int,(if J4 l=true then 0 else 4)=r:=⟨_,rfl⟩;rw [hr] at h;replace h:=hid h;refine abB K6 ?_;refine UI hn ?_;rw [hr];refine sk ?_;refine wk ?_;exact ae rfl h.out
def rP (g:List UInt8->Bool) (k:Int) (t s:List UInt8):Nat->Nat->Bool
 | 0,_=>false
 | f+1,a=>if a+t.length<=s.length then
    (if (s.drop a).take t.length ≠ t \/ (k = 0 /\ 0 < a) \/ (k = 2 /\ a + t.length < s.length) then rP g k t s f (a + 1)
     else if g (s.drop (a+t.length))=true then true else if k=1 then false else rP g k t s f (a+1))
   else false
def nS:List Pc->List UInt8->Bool
 | [],_=>true
 | p::l,s=>rP (nS l) p.1 p.2 s (s.length+1) 0
theorem O3 (k:Int) (t:List UInt8) (l:List Pc):dH ((k,t)::l)=.int .i64 k :: .str t::dH l:=rfl
theorem Xy:∀ (l:List Pc) {s:List UInt8} {cap:Option Nat} (hs:s.length<=100000) (hn:l.length<=1100000) (ht:∀ p∈l,(p.2.length:Int)<=140737488351232) {L:List Blk} {K:abD} (h:K (.bool (nS l s)) L),
  abC 47 [.str s,.sl (dH l) l.length cap] L K
 | [],s,cap,hs,hn,ht,L,K,h=>by
   replace h:=hid h;refine abB xh ?_;exact aa h.out
 | (k,t)::l,s,cap,hs,hn,ht,L,K,h=>by
   have ih:∀ {s':List UInt8} {cap':Option Nat} (hs':s'.length<=100000) {L:List Blk} {K:abD} (h:K (.bool (nS l s')) L),abC 47 [.str s',.sl (dH l) l.length cap'] L K :=
    by intro s' cap' hs' L K h;exact Xy l hs' (by simp at hn;omega) (fun p hp=>ht p (by simp [hp])) h
   replace ih:=@hid _ @ih;have htl:=ht (k,t) (by simp);simp only at htl;obtain ⟨R,hR⟩:=aby (nS ((k,t)::l) s);rw [hR] at h;rw [nS] at hR;simp only at hR;replace hR:=hid hR;replace h:=hid h;replace ht:=hid ht;rw [O3];have hn2:l.length+1<=1100000:=by simpa using hn
   have hl1:((k,t)::l).length=l.length+1:=rfl;rw [hl1];refine abB xh ?_;refine ak (fun n T' L'=>∃ (a:Nat),n=s.length+1 - a/\a<=s.length+1/\Hid (rP (nS l) k t s (s.length+1 - a) a=R)/\T'=[(6,.int .i64 (a:Int)),(5,.str t),(4,.bool false),(0,.str s),(1,.sl (.int .i64 k :: .str t::dH l) (l.length+1) cap)]/\L=L') (CutS (b:=by simp)) ⟨0,rfl,abL _,hR,rfl,rfl⟩ ?_;rintro _ _ _ ⟨a,rfl,ha,hI,rfl,rfl⟩;have w1:IntKind.i64.wrap ((a:Int)+(t.length:Int))=(a:Int)+(t.length:Int):=ac (by omega) (by omega);have w2:=abA a (by omega);by_cases h1:(a:Int)+(t.length:Int)<=(s.length:Int);rotate_left
   ·have hI2:=hI.out;have hf:rP (nS l) k t s (s.length+1 - a) a=false:=by
     cases s.length+1 - a with
     | zero=>rfl
     | succ f=>rw [rP,if_neg (by omega)]
    rw [hf] at hI2;rw [<- hI2] at h;clear hI2 hI hf;refine wk ?_;exact aa h.out
   have z1:((l.length:Int)+1).toNat - 1=l.length:=by omega
   have z2:(dH l).take (l.length * 2)=dH l:=by rw [<- Ea,abY]
   have z3:((a:Int)+(t.length:Int)).toNat=a+t.length:=by omega
   have z4:(s.drop (a+t.length)).take (s.length - (a+t.length))=s.drop (a+t.length):=by
    rw [<- acY,abY]
   have z5:a+t.length - a=t.length:=by omega
   obtain ⟨f,hf⟩:∃ f,s.length+1 - a=f+1:=⟨s.length - a,by omega⟩;have hf2:s.length+1 - (a+1)=f:=by omega
   have hI2:=hI.out;rw [hf,rP,if_pos (by omega)] at hI2;clear hI;obtain ⟨b,hb⟩:=aby (decide ((¬ (s.drop a).take t.length=t\/k=0/\(0:Int)<(a:Int))\/k=2/\(a:Int)+(t.length:Int)<(s.length:Int)));have hbb:b=true↔((s.drop a).take t.length≠t\/(k=0/\0<a)\/(k=2/\a+t.length<s.length)):=by
    rw [<- hb,decide_eq_true_iff,or_assoc];simp only [Int.natCast_pos,ne_eq];rw [show ((a:Int)+(t.length:Int)<(s.length:Int))↔(a+t.length<s.length) by omega]
   cases b with
   | true =>
     rw [if_pos (hbb.1 rfl)] at hI2;clear hbb;replace hI2:=hid hI2;refine wk ?_;exact ai _ _ _ (by omega) (CutL (b:=by simp)) ⟨a+1,rfl,by omega,hid (by rw [hf2];exact hI2.out),rfl,rfl⟩
   | false =>
     rw [if_neg (fun e=>by have:=hbb.2 e;cases this)] at hI2;clear hbb;have hsd:(s.drop (a+t.length)).length<=100000:=by rw [acY];omega
     have kk1:Hid (Ctr Tryz.prog 47 [.str (s.drop (a+t.length)),.sl (dH l) l.length (Option.map (fun x=>x - 1) cap)] (.bool (nS l (s.drop (a+t.length))))):=@hid _ (by intro L K h;exact ih.out hsd h);obtain ⟨r,hr⟩:=aby (nS l (s.drop (a+t.length)));rw [hr] at hI2;cases r with
     | true =>
       rw [if_pos rfl] at hI2;rw [<- hI2] at h;clear hI2;refine wk ?_;exact aa h.out
     | false =>
       rw [if_neg (by simp)] at hI2;by_cases hk:k=1
       ·rw [if_pos hk] at hI2;rw [<- hI2] at h;have hb2:(s.drop a).take t.length=t:=adE.1 (fun e=>of_decide_eq_false hb (.inl (.inl e)));have hb3:(s.drop a).take t.length≠t↔False:=by rw [hb2];simp
        clear hb;clear hI2;refine wk ?_;exact aa h.out
       ·rw [if_neg hk] at hI2;replace hI2:=hid hI2;refine wk ?_;exact ai _ _ _ (by omega) (CutL (b:=by simp)) ⟨a+1,rfl,by omega,hid (by rw [hf2];exact hI2.out),rfl,rfl⟩
abbrev pcM (ex:Bool) (p:Pc):Pc:=(p.1,pcT ex p)
def PQ (syn:Int) (v:List UInt8) (l:List Pc):Option Bool:=match bY syn v with
 | none=>none
 | some s=>if (syn=1\/syn=2\/syn=3)/\J4 l=true then some (nS (l.map (pcM (decide (syn=2)))) s) else none
theorem QT:∀ l:List Pc,AV.frzL (dH l)=dH l
 | []=>rfl
 | (k,t)::l=>by rw [O3];simp only [AV.frzL,AV.frz,QT l]
theorem Ty (ex:Bool) (p:Pc):(pcT ex p).length=p.2.length:=by
 unfold pcT;split<;>simp [ab]
theorem WF (l m:List Pc):dH (l++m)=dH l++dH m:=by simp [dH]
theorem Zd {l:List Pc} {n i:Nat} (hl:l.length=n) {s:List UInt8} (hs:s.length<=100000) (hn:l.length<=1100000) (ht:∀ p∈l,(p.2.length:Int)<=140737488351232) (h:K (.bool (nS l s)) L) :
  abC 47 [.str s,.gsl (dH l) n i 2] L K:=by
 subst hl;exact mm (by simpa only [AV.frzL,AV.frz,QT] using Xy l (cap:=none) hs hn ht h)
theorem YO {syn:Int} {v:List UInt8} {l:List Pc} {cap:Option Nat} (hn:l.length<=1000) (ht:∀ p∈l,(p.2.length:Int)<=140737488351232) (h:K (Q8 (PQ syn v l)) L) :
  abC 16 [.int .i64 syn,.str v,.sl (dH l) l.length cap] L K:=by
 have hn6:l.length<=1100000:=by omega
 unfold PQ at h;refine abB Mj ?_;refine xD ?_;rcases hs:bY syn v with _|s
 ·rw [hs] at h;simp only [Q8] at h;replace h:=hid h;simp only [J8];refine sk ?_;refine wk ?_;exact aa h.out
 rw [hs] at h;simp only at h;simp only [J8];by_cases h3:syn=1\/syn=2\/syn=3;rotate_left
 ·rw [if_neg (fun e=>h3 e.1)] at h;simp only [Q8] at h;replace h:=hid h;clear hs;by_cases k1:syn<1
  ·clear h3;refine sk ?_;refine wk ?_;exact aa h.out
  ·have k2:3<syn:=by omega
   clear h3;refine sk ?_;refine wk ?_;exact aa h.out
 have hsl:=Q0 hs h3;clear hs;cases hok:J4 l with
 | false =>
   rw [hok,if_neg (by simp)] at h;simp only [Q8] at h;replace h:=hid h;have e4:(if false=true then (0:Int) else 4)=4:=rfl;rcases h3 with rfl|rfl|rfl
   ·refine sk ?_;have kk1:=@hid _ (fun L K=>mf (cap:=cap) hn6 (L:=L) (K:=K));refine wk ?_;exact aa h.out
   ·refine sk ?_;have kk1:=@hid _ (fun L K=>mf (cap:=cap) hn6 (L:=L) (K:=K));refine wk ?_;exact aa h.out
   ·refine sk ?_;have kk1:=@hid _ (fun L K=>mf (cap:=cap) hn6 (L:=L) (K:=K));refine wk ?_;exact aa h.out
 | true =>
 rw [if_pos ⟨h3,hok⟩] at h;obtain ⟨ex,hex⟩:=aby (decide (syn=2));rw [hex] at h;simp only [Q8] at h;replace h:=hid h;replace ht:=hid ht;refine sk ?_
 iterate 1 first
  | refine a8 ?_
  | (first|refine aU (by kernel_rfl) ?_|refine aB (by kernel_rfl) ?_|refine aE ?_|refine bI ?_|refine bf (fun _=>?_)|refine ay ?_|refine aW ?_)
    simp (config:={ maxSteps:=2000000 }) only [Kon,push_cast,reduceIte,Nat.reduceEqDiff,Nat.reduceAdd,Nat.reduceMul,Nat.reduceSub,Nat.reduceLT,Nat.reduceLeDiff,Int.reduceLT,Int.reduceLE,Int.reduceAdd,Int.reduceSub,Int.reduceNeg,Int.reduceToNat,Int.reduceEq,reduceCtorEq, *]
  | (first|refine aO (by kernel_rfl) ?_|refine aP ?_|refine aD ?_|refine aV ?_|refine bp (ax ?_))
    simp only [push_cast,reduceIte,Nat.reduceEqDiff,Nat.reduceAdd,Nat.reduceMul,Nat.reduceSub,Nat.reduceLT,Nat.reduceLeDiff,Int.reduceLT,Int.reduceLE,Int.reduceAdd,Int.reduceSub,Int.reduceNeg,Int.reduceToNat,Int.reduceEq,reduceCtorEq, *]
  | exact bg
  | first|apply bh|apply aR|apply bj|apply aS|apply bm|apply aT
  | refine aH ?_
  | refine aC ?_
  | first|refine aF rfl ?_|refine aG rfl ?_|refine an rfl ?_ ?_|refine aJ rfl (fun _=>?_) (fun _=>?_)|refine aI rfl (fun _=>?_) (fun _=>?_)
  | ((first|refine am (fun _=>?_) (fun _=>?_)|refine aw (fun _=>?_) (fun _=>?_))<;>try simp (config:={ maxSteps:=2000000 }) only [Kon,push_cast,reduceIte,Nat.reduceEqDiff,Nat.reduceAdd,Nat.reduceMul,Nat.reduceSub,Nat.reduceLT,Nat.reduceLeDiff,Int.reduceLT,Int.reduceLE,Int.reduceAdd,Int.reduceSub,Int.reduceNeg,Int.reduceToNat,Int.reduceEq,reduceCtorEq, *])
  | refine And.intro trivial ?_
  | refine And.intro (by omega) ?_
  | refine aM rfl (fun _=>?_) (fun _=>?_)
  | refine And.intro ?_ ?_
 refine KC (fun T2 L2=>T2=[(8,.str s),(0,.int .i64 syn),(2,.sl (dH l) l.length cap)]/\L=L2) ?_ ?_
 ·rcases h3 with rfl|rfl|rfl
  ·have kk1:=@hid _ (fun L K=>mf (cap:=cap) hn6 (L:=L) (K:=K));refine wk ?_;exact jl _ _ (CutL (b:=by simp)) ⟨rfl,rfl⟩
  ·have kk1:=@hid _ (fun L K=>mf (cap:=cap) hn6 (L:=L) (K:=K));refine wk ?_;exact jl _ _ (CutL (b:=by simp)) ⟨rfl,rfl⟩
  ·have kk1:=@hid _ (fun L K=>mf (cap:=cap) hn6 (L:=L) (K:=K));refine wk ?_;exact jl _ _ (CutL (b:=by simp)) ⟨rfl,rfl⟩
 rintro _ _ ⟨rfl,rfl⟩ -;clear hok;refine wk ?_;refine cH (l:=[]) (n:=0) 10 2 rfl (acf 2).symm ?_;refine ak (fun n T' L'=>∃ (i:Nat) (Y:List Blk),n=l.length - i/\i<=l.length/\T'=[(37,.int .i64 (i:Int)),(36,.int .i64 l.length),(35,.sl (dH l) l.length cap),(10,.gsl (dH ((l.take i).map (pcM ex))) i L.length 2),(8,.str s),(0,.int .i64 syn)]/\L'=L++(.spare i 2::Y)) (CutS (b:=by simp)) ⟨0,[],rfl,abL _,rfl,rfl⟩ ?_;rintro _ _ _ ⟨i,Y,rfl,hi,rfl,rfl⟩;by_cases hlt:i<l.length;rotate_left
 ·have hke:i=l.length:=by omega
  subst hke;have g1:¬ (l.length:Int)<(l.length:Int):=by omega
  have hml:(l.map (pcM ex)).length=l.length:=by simp
  have hm6:(l.map (pcM ex)).length<=1100000:=by omega
  have hmt:∀ p∈l.map (pcM ex),(p.2.length:Int)<=140737488351232:=fun p hp=>by
   obtain ⟨q,hq,rfl⟩:=abI.1 hp;simp only [pcM,Ty];exact ht.out q hq
  have hs5:s.length<=100000:=by omega
  rw [abY];replace hmt:=hid hmt;refine wk ?_;refine Zd hml hs5 hm6 hmt.out ?_;refine sk ?_;refine wk ?_;exact ae rfl h.out
 have g1:(i:Int)<(l.length:Int):=by omega
 have g2:=abA i (by omega);have e3:=J5 hlt;have e4:i * 2+2<=(dH l).length:=by rw [Ea];omega
 obtain ⟨⟨x,t⟩,ha⟩:∃ a,l.getD i (0,[])=a:=⟨_,rfl⟩;have hmem:(x,t)∈l:=by rw [<- ha];simp [hlt]
 have htl:=ht.out (x,t) hmem;simp only at htl;have htk:l.take (i+1)=l.take i++[(x,t)]:=by rw [ab2 hlt,<- ha];simp [hlt]
 rw [ha] at e3;simp only [pcA] at e3;clear ha hmem;have q3:(i+1) * 24<=140737488355328:=by omega
 have q4:i+1<=140737488355328:=by omega
 obtain ⟨acc,hacc⟩:=aby (dH ((l.take i).map (pcM ex)));have hnew:dH ((l.take (i+1)).map (pcM ex))=acc++[.int .i64 x,.str (pcT ex (x,t))]:=by
  rw [htk,aca,WF,hacc];rfl
 rw [hacc];replace hnew:=hid hnew;clear hacc htk;cases ex with
 | true =>
   have hs2:syn=2:=of_decide_eq_true hex;subst hs2;clear h3 hex;refine wk ?_;have e6:acc++[.int .i64 x,.str t]=dH ((l.take (i+1)).map (pcM true)):=hnew.out.symm;rw [e6];exact ai _ _ _ (by omega) (CutL (b:=by simp)) ⟨i+1,_,rfl,hlt,rfl,rfl⟩
 | false =>
   have hs2:¬ syn=2:=of_decide_eq_false hex;clear h3 hex;have kk1:=@hid _ (fun L K=>bL htl (L:=L) (K:=K));refine wk ?_;have e6:acc++[.int .i64 x,.str (ab t)]=dH ((l.take (i+1)).map (pcM false)):=hnew.out.symm;rw [e6];exact ai _ _ _ (by omega) (CutL (b:=by simp)) ⟨i+1,_,rfl,hlt,rfl,rfl⟩
theorem mH {s T:List UInt8} {a:Nat}:Lib.occAt s T a=true↔(s.drop a).take T.length=T:=by
 unfold Lib.occAt;rw [aeB,List.prefix_iff_eq_take];exact ⟨fun h=>h.symm,fun h=>h.symm⟩
theorem QW {s T:List UInt8} {a:Nat} (hT:T≠[]) (h:Lib.occAt s T a=true):a+T.length<=s.length:=by
 have h1:=mH.1 h;have h2:=congrArg List.length h1;simp only [ad6,acY] at h2;have:0<T.length:=acQ.2 hT;omega
theorem E6 {g:List UInt8->Bool} {k:Int} {T s:List UInt8} {f a:Nat} (h1:a+T.length<=s.length) (h:(s.drop a).take T.length≠T\/(k=0/\0<a)\/(k=2/\a+T.length<s.length)):rP g k T s (f+1) a=rP g k T s f (a+1):=by
 rw [rP,if_pos h1,if_pos h]
theorem Qh {g:List UInt8->Bool} {k:Int} {T s:List UInt8} {f a:Nat} (h1:a+T.length<=s.length) (h:¬ ((s.drop a).take T.length≠T\/(k=0/\0<a)\/(k=2/\a+T.length<s.length))) :
  rP g k T s (f+1) a=if g (s.drop (a+T.length))=true then true else if k=1 then false else rP g k T s f (a+1):=by
 rw [rP,if_pos h1,if_neg h]
theorem NB {g:List UInt8->Bool} {k:Int} {T s:List UInt8} {f a:Nat} (h1:¬ a+T.length<=s.length):rP g k T s (f+1) a=false:=by
 rw [rP,if_neg h1]
theorem aa8 {g:List UInt8->Bool} {T s:List UInt8} (hT:T≠[]):∀ (f a:Nat),s.length+1 - a<=f->(∀ j,j<a->Lib.occAt s T j=false) ->
  rP g 1 T s f a=if Lib.index s T<0 then false else g (s.drop ((Lib.index s T).toNat+T.length))
 | 0,a,hf,hn=>by
   rw [Lib.index_none fun j hj=>hn j (by omega),if_pos (by decide)];rfl
 | f+1,a,hf,hn=>by
   by_cases h1:a+T.length<=s.length
   ·by_cases h2:(s.drop a).take T.length=T
    ·rw [Qh h1 (by rintro (e|e|e);exact e h2;exact absurd e.1 (by decide);exact absurd e.1 (by decide))];rw [Lib.index_first (i:=a) (by omega) (mH.2 h2) hn,if_neg (show ¬ ((a:Int)<0) by omega)];rw [show ((a:Int)).toNat=a from rfl];cases g (s.drop (a+T.length))<;>simp
    ·rw [E6 h1 (.inl h2)];refine aa8 hT f (a+1) (by omega) fun j hj=>?_
     rcases abX j a with q|q
     ·exact hn j q
     ·have:j=a:=by omega
      subst this;cases ho:Lib.occAt s T j with
      | false=>rfl
      | true=>exact absurd (mH.1 ho) h2
   ·rw [NB h1,Lib.index_none fun j hj=>?_,if_pos (by decide)];rcases abX j a with q|q
    ·exact hn j q
    ·cases ho:Lib.occAt s T j with
     | false=>rfl
     | true=>have:=QW hT ho;omega
theorem aas {g:List UInt8->Bool} {T s:List UInt8}:∀ (f a:Nat),0<a->rP g 0 T s f a=false
 | 0,_,_=>rfl
 | f+1,a,ha=>by
   rw [rP];split
   ·rw [if_pos (.inr (.inl ⟨rfl,ha⟩))];exact aas f (a+1) (by omega)
   ·rfl
theorem aa7 {g:List UInt8->Bool} {T s:List UInt8}:∀ (f a:Nat),s.length+1 - a<=f ->
  rP g 2 T s f a=if a+T.length<=s.length/\Lib.occAt s T (s.length - T.length)=true then g [] else false
 | 0,a,hf=>by rw [if_neg (by omega)];rfl
 | f+1,a,hf=>by
   have ih:=aa7 (g:=g) (T:=T) (s:=s) f (a+1) (by omega);by_cases h1:a+T.length<=s.length
   ·by_cases h2:a+T.length<s.length
    ·rw [E6 h1 (.inr (.inr ⟨rfl,h2⟩)),ih];have:(a+1+T.length<=s.length/\Lib.occAt s T (s.length - T.length)=true)↔(a+T.length<=s.length/\Lib.occAt s T (s.length - T.length)=true):=⟨fun e=>⟨h1,e.2⟩,fun e=>⟨by omega,e.2⟩⟩;simp only [this]
    ·have ea:s.length - T.length=a:=by omega
     rw [ea] at ih ⊢;have ih2:rP g 2 T s f (a+1)=false:=by rw [ih,if_neg (fun e=>by omega)]
     by_cases h3:(s.drop a).take T.length=T
     ·rw [Qh h1 (by rintro (e|e|e);exact e h3;exact absurd e.1 (by decide);exact h2 e.2),ih2];rw [if_pos (show a+T.length<=s.length/\Lib.occAt s T a=true from ⟨h1,mH.2 h3⟩)];rw [show s.drop (a+T.length)=[] from adl (by omega)];cases g []<;>simp
     ·rw [E6 h1 (.inl h3),ih2,if_neg];rintro ⟨_,e⟩;exact h3 (mH.1 e)
   ·rw [NB h1,if_neg (fun e=>h1 e.1)]
theorem Yy {s T:List UInt8} (h:T.length<=s.length):Lib.hasSuffix s T=Lib.occAt s T (s.length - T.length):=by
 rw [Bool.eq_iff_iff];unfold Lib.hasSuffix Lib.occAt;rw [List.isSuffixOf_iff_suffix,aeB];constructor
 ·intro e;rw [List.suffix_iff_eq_drop] at e;rw [<- e];exact List.prefix_refl _
 ·intro e;have:T=s.drop (s.length - T.length):=e.eq_of_length (by rw [acY];omega);rw [this];exact List.drop_suffix _ _
theorem RA (ex:Bool):∀ (l:List Pc) (n i:Nat) (s:List UInt8),M7 n i l=true->n=i+l.length->nS (l.map (pcM ex)) s=Ra ex s l
 | [],_,_,_,_,_=>rfl
 | (k,t)::l,n,i,s,h,hn=>by
   rw [M7,abK] at h;obtain ⟨hb,h⟩:=h;simp only [Tz,acd,decide_eq_false_iff_not,not_or] at hb;obtain ⟨b1,b2,b3,b4,b5⟩:=hb;have ih:=fun s'=>RA ex l n (i+1) s' h (by simp at hn;omega)
   rw [abS,nS,Ra];simp only [pcM];obtain ⟨T,hTT⟩:=aby (pcT ex (k,t));have hT:T≠[]:=by
    rw [<- hTT];intro e;have:=Ty ex (k,t);rw [e] at this;exact b1 (ack.1 this.symm)
   rw [hTT];have hTl:0<T.length:=acQ.2 hT;rcases (by omega:k=0\/k=1\/k=2) with rfl|rfl|rfl
   ·cases hp:Lib.hasPrefix s T with
    | false =>
      rw [if_pos (show ((0:Int)=0/\false=false)\/((0:Int)=2/\Lib.hasSuffix s T=false)\/Lib.index s T<0 from .inl ⟨rfl,rfl⟩)];have hno:¬ (s.drop 0).take T.length=T:=fun e=>by
       have:=mH.2 e;unfold Lib.occAt at this;rw [adj] at this;unfold Lib.hasPrefix at hp;rw [hp] at this;cases this
      by_cases h1:0+T.length<=s.length
      ·rw [E6 h1 (.inl hno)];exact aas _ _ (by omega)
      ·exact NB h1
    | true =>
      have hoc:Lib.occAt s T 0=true:=by unfold Lib.occAt;rw [adj];exact hp
      have hroom:=QW hT hoc;rw [Qh hroom (by rintro (e|e|e);exact e (mH.1 hoc);omega;exact absurd e.1 (by decide))];have hix:Lib.index s T=0:=Lib.index_first (i:=0) (abL _) hoc (fun j hj=>by omega);rw [if_neg (show ¬ (((0:Int)=0/\true=false)\/((0:Int)=2/\Lib.hasSuffix s T=false)\/Lib.index s T<0) by rintro (e|e|e);exact absurd e.2 (by decide);exact absurd e.1 (by decide);omega)];rw [hix,show (0:Int).toNat=0 from rfl,ih];cases hg:Ra ex (s.drop (0+T.length)) l with
      | true=>simp
      | false=>rw [if_neg (by decide),if_neg (by decide),aas _ _ (by omega)]
   ·rw [aa8 hT _ _ (by omega) (fun j hj=>by omega)];by_cases hix:Lib.index s T<0
    ·rw [if_pos hix,if_pos (.inr (.inr hix))]
    ·rw [if_neg hix,if_neg (by rintro (e|e|e);exact absurd e.1 (by decide);exact absurd e.1 (by decide);exact hix e),ih]
   ·have hl:l=[]:=by
     have:¬ i+1<n:=fun e=>b5 ⟨rfl,e⟩
     simp at hn;exact ack.1 (by omega)
    subst hl;rw [aa7 _ _ (by omega)];simp only [ado,Ra,nS];by_cases hle:T.length<=s.length
    ·rw [Yy hle];cases ho:Lib.occAt s T (s.length - T.length) with
     | false=>rw [if_neg (by simp),if_pos (.inr (.inl ⟨trivial,rfl⟩))]
     | true =>
       rw [if_pos ⟨by omega,rfl⟩,if_neg];rintro (e|e|e)
       ·exact absurd e.1 (by decide)
       ·exact absurd e.2 (by decide)
       ·rcases Lib.index_spec s T with ⟨_,q⟩|⟨j,q,_⟩
        ·rw [q _ (by omega)] at ho;cases ho
        ·omega
    ·rw [if_neg (fun e=>hle (by omega)),if_pos];refine .inr (.inl ⟨trivial,?_⟩);cases hs:Lib.hasSuffix s T with
     | false=>rfl
     | true =>
       unfold Lib.hasSuffix at hs;exact absurd (List.isSuffixOf_iff_suffix.1 hs).length_le hle
theorem Sc (syn:Int) (v:List UInt8) (l:List Pc):PQ syn v l=nP syn v l:=by
 unfold PQ nP;rcases bY syn v with _|s
 ·rfl
 ·simp only;split
  ·rename_i h
   have:=h.2;unfold J4 at this;rw [abK] at this;rw [RA _ l l.length 0 s this.1 (by omega)]
  ·rfl
theorem Wm {syn:Int} {v:List UInt8} {l:List Pc} {cap:Option Nat} (hn:l.length<=1000) (ht:∀ p∈l,(p.2.length:Int)<=140737488351232) (h:K (.tup [.bool ((nP syn v l).getD false),.bool (nP syn v l).isSome]) L) :
  abC 16 [.int .i64 syn,.str v,.sl (dH l) l.length cap] L K:=by
 refine YO hn ht ?_;rw [Sc]
 revert h
 rcases nP syn v l with _|c<;>exact fun h=>h
set_option maxRecDepth 1000000
def HS (v:List UInt8) (ps:List Pc):Bool:=(ps.all fun p=>decide (ps.length<=20) && decide (p.2.length<=300)) && decide (v.length<=5000)
theorem Wd {v:List UInt8} {ps:List Pc} (h:HS v ps=true):(ps.length<=1000/\∀ p∈ps,p.2.length<=100000)/\v.length<=5000:=by
 simp only [HS,abK,abO,decide_eq_true_eq] at h;refine ⟨⟨?_,fun p hp=>by have:=(h.1 p hp).2;omega⟩,h.2⟩;cases ps with
 | nil=>simp
 | cons p t=>have:=(h.1 p (by simp)).1;omega
theorem Ut {n v:List UInt8} {ps:List Pc} {cap:Option Nat} (hn:(ps.length:Int)<=9223372036854775807) (h:K (.bool (HS v ps)) L) :
  abC 8 [.agg [.str n,.str v,.sl (dH ps) ps.length cap]] L K:=by
 obtain ⟨sh,hsh⟩:=aby (HS v ps);rw [hsh] at h;replace h:=hid h;replace hsh:=hid hsh;have hpl:=Ea ps;have hat:=hid (fun k (q:k<ps.length)=>J5 q);obtain ⟨PS,hPS⟩:=aby (dH ps);rw [hPS] at hat hpl ⊢;clear hPS;refine abB EB ?_;refine ak (fun m T' L'=>∃ (i:Nat) (X:List Blk),m=ps.length - i/\i<=ps.length/\Hid (∀ p∈ps.take i,ps.length<=20/\p.2.length<=300)/\T'=[(8,.int .i64 (i:Int)),(7,.int .i64 ps.length),(6,.sl PS ps.length cap),(1,.ptr L.length 0)]/\L'=L++(.cells [.str n,.str v,.sl PS ps.length cap]::X)) (CutS (b:=by simp)) ⟨0,[],rfl,abL _,hid (by simp),rfl,rfl⟩ ?_;rintro _ _ _ ⟨i,X,rfl,hi,hI,rfl,rfl⟩;by_cases hlt:i<ps.length
 ·have j1:(i:Int)<(ps.length:Int):=by omega
  have j2:=abA i (by omega);have e3:=hat.out i hlt;have e4:i * 2+2<=PS.length:=by rw [hpl];omega
  obtain ⟨⟨k,t⟩,hp⟩:∃ p,ps.getD i (0,[])=p:=⟨_,rfl⟩;have hmem:(k,t)∈ps:=by rw [<- hp];simp [hlt]
  rw [hp] at e3;simp only [pcA] at e3;have htk:ps.take (i+1)=ps.take i++[(k,t)]:=by rw [ab2 hlt,<- hp];simp [hlt]
  have hbad:¬ (ps.length<=20/\t.length<=300)->sh=false:=fun e=>by
   rw [<- hsh.out];unfold HS;have:(ps.all fun p=>decide (ps.length<=20) && decide (p.2.length<=300))=false:=by
    rw [aej];exact ⟨_,hmem,by simpa using e⟩
   rw [this];rfl
  by_cases h20:20<ps.length
  ·have g1:(ps.length:Int) > 20:=by omega
   have g2:(20:Int)<(ps.length:Int):=by omega
   have hf:=hbad (by omega);subst hf;clear hp hmem htk hbad hsh;refine wk ?_;exact ae rfl h.out
  have g1:¬ (ps.length:Int) > 20:=by omega
  have g2:¬ (20:Int)<(ps.length:Int):=by omega
  by_cases h300:300<t.length
  ·have g3:(t.length:Int) > 300:=by omega
   have g4:(300:Int)<(t.length:Int):=by omega
   have hf:=hbad (by omega);subst hf;clear hp hmem htk hbad hsh;refine wk ?_;exact ae rfl h.out
  ·have g3:¬ (t.length:Int) > 300:=by omega
   have g4:¬ (300:Int)<(t.length:Int):=by omega
   have hI2:Hid (∀ p∈ps.take (i+1),ps.length<=20/\p.2.length<=300):=hid (fun p hp2=>by
    rw [htk] at hp2;rcases abH.1 hp2 with q|q
    ·exact hI.out p q
    ·rw [abZ.1 q];exact ⟨by omega,by simp only;omega⟩)
   clear hp hmem htk hbad hI;refine wk ?_;exact ai _ _ _ (by omega) (CutL (b:=by simp)) ⟨i+1,_,rfl,hlt,hI2,rfl,rfl⟩
 ·have hie:i=ps.length:=by omega
  subst hie;have j1:¬ (ps.length:Int)<(ps.length:Int):=by omega
  have hI2:=hI.out;rw [abY] at hI2;have hall:(ps.all fun p=>decide (ps.length<=20) && decide (p.2.length<=300))=true:=by
   rw [abO];exact fun p hp=>by have:=hI2 p hp;simpa using this
  have hs2:decide ((v.length:Int)<=5000)=sh:=by
   rw [<- hsh.out];unfold HS;rw [hall,acy];exact decide_eq_decide.2 (by omega)
  clear hI hI2 hall hsh;refine wk ?_;exact ae rfl h.out
theorem S6:aA.Nodup:=of_decide_eq_true (by kernel_rfl)
theorem Zi {n:List UInt8} (hn:bd n) {ty:Typ} (ht:eA aA n=some ty):∃ k:Nat,k<aA.length/\aA.getD k kQ=ty/\∀ {c:Option Nat} {L:List Blk} {K:abD},K (.int .i64 k) L->abC 12 [.sl (cq aA) aA.length c,.str n] L K:=by
 have hm:=adS ht;obtain ⟨k,hk,e⟩:=acV.1 hm;have e2:aA.getD k kQ=ty:=by rw [ab5,abV hk];exact e
 refine ⟨k,hk,e2,fun {c L K} q=>aax jt.1 jt.2.1 hn (fun e=>by rw [ht] at e;cases e) fun k' hk' e'=>?_⟩;have:k'=k:=by
  rw [ht] at e';have h3:=Option.some.inj e';rw [ab5,abV hk'] at h3;have hne:∀ a b (ha:a<aA.length) (hb:b<aA.length),a<b->aA[a]≠aA[b]:=fun a b ha hb hab=>aep.1 S6 a b ha hb hab
  have h4:aA[k']=aA[k]:=by rw [e];exact h3.symm
  rcases aed k' k with q|q|q
  ·exact absurd h4 (hne _ _ hk' hk q)
  ·exact q
  ·exact absurd h4.symm (hne _ _ hk hk' q)
 rw [this];exact q
theorem TmS.typ {tm:TMp} (h:TmS aA tm) {n:List UInt8} {ty:Typ} (hg:cI tm (ab n)=some ty):eA aA n=some ty:=by
 obtain ⟨c,hc⟩:=fi hg;obtain ⟨m,h1,h2,_⟩:=h.ty _ hc;simp only at h1 h2;rw [<- h1];unfold eA;rw [h2]
structure ZP (n v:List UInt8) (ps:List Pc):Prop where
 n:bd n
 len:(ps.length:Int)<=9223372036854775807
theorem Y5 {ns:List (List UInt8)} {acts:List bt} {n v:List UInt8} {ps:List Pc} {cap capA capP:Option Nat} (hns:∀ n∈ns,bd n) (hnl:(ns.length:Int)<=9223372036854775807) (ha:Ti acts) (hq:ZP n v ps) (h:∀ L',K (.bool true) L') :
  abC 3 [.sl (ns.map AV.str) ns.length cap,.sl (cn acts) acts.length capA,.agg [.str n,.str v,.sl (dH ps) ps.length capP]] L K:=by
 have kk1:Hid (Ctr Tryz.prog 9 [] (.bool true)):=@hid _ (fun {L K} q=>Vx q);obtain ⟨sh,hsh⟩:=aby (HS v ps);have kk2:Hid (Ctr Tryz.prog 8 [.agg [.str n,.str v,.sl (dH ps) ps.length capP]] (.bool sh)):=@hid _ (fun {L K} q=>Ut hq.len (by rw [hsh];exact q));replace h:=hid h;by_cases h30:30<ns.length
 ·have g1:(ns.length:Int) > 30:=by omega
  have g2:(30:Int)<(ns.length:Int):=by omega
  refine abB dr ?_;exact aa (h.out _)
 have g1:¬ (ns.length:Int) > 30:=by omega
 have g2:¬ (30:Int)<(ns.length:Int):=by omega
 cases sh with
 | false =>
   refine abB dr ?_;exact aa (h.out _)
 | true =>
 by_cases h300:300<v.length
 ·have g3:(v.length:Int) > 300:=by omega
  have g4:(300:Int)<(v.length:Int):=by omega
  refine abB dr ?_;exact aa (h.out _)
 have g3:¬ (v.length:Int) > 300:=by omega
 have g4:¬ (300:Int)<(v.length:Int):=by omega
 obtain ⟨hps,hvl⟩:=Wd hsh;have kM:Hid (∀ {L:List Blk} {K:abD},(∀ L' b,bD (fun _=>False) L L'->K (.tup [.nilptr,.nilptr,.bool b]) L')->(∀ L' it rt tm l B,Hid (eZ L L' it rt tm l B/\l.length<=40)->K (.tup [.ptr it 0,.ptr rt 0,.bool true]) L')->abC 10 [.sl (ns.map AV.str) ns.length cap,.sl (cn acts) acts.length capA] L K):=@hid _ (fun {L K} q0 q1=>W0 hns (by omega) ha q0 fun L' it rt tm l B m hl=>q1 L' it rt tm l B (hid ⟨m,hl⟩));obtain ⟨PS,hPS⟩:=aby (dH ps);obtain ⟨AS,hAS⟩:=aby (cn acts);obtain ⟨NS,hNS⟩:=aby (ns.map AV.str);rw [hPS] at kk2;rw [hPS,hAS,hNS];rw [hAS,hNS] at kM;replace hsh:=hid hsh;replace hps:=hid hps;clear hvl hns ha h30 h300 hnl hAS hNS;refine abB dr ?_;refine kM.out (fun L1 b hb=>?_) fun L1 it rt tm l B hM=>?_
 ·clear hb kM;refine wk ?_;exact aa (h.out _)
 clear kM;have hbx:L1[L.length]?=some (.cells [.str n,.str v,.sl PS ps.length capP]):=hM.out.1.bes.get (by simp) (fun e=>e);have hn:=hq.n;have hidk:PG l:=⟨by have:=hM.out.2;omega,hM.out.1.ids⟩;have kk3:Hid (∀ {K:abD},K (.bool (cI tm (ab n)).isSome) L1->abC 11 [.ptr it 0,.str n] L1 K):=@hid _ (fun {K} q=>MB hM.out.1.ix hn q);rcases hg:cI tm (ab n) with _|ty
 ·rw [hg] at kk3;simp only [adf] at kk3;clear hM hg hidk hps;refine wk ?_;exact aa (h.out _)
 rw [hg] at kk3;simp only [adk] at kk3;have hty:=hM.out.1.tms.typ hg;obtain ⟨k,hk,hkt,kA⟩:=Zi hn hty;obtain ⟨k2,hdoc⟩:=hM.out.1.doc;obtain ⟨t1,t2,t3,t4⟩:=ty;have e3:=rZ hk;rw [hkt] at e3;have e5:(cq aA).getD (k * 4+1) .undef=.int .i64 t2:=by
  have h3:=congrArg (fun l=>l[1]?) e3;simp only [acB (show 1<4 by omega),acu] at h3;rw [ab5,h3];rfl
 have e4:k * 4+4<=(cq aA).length:=by rw [xx];omega
 have kk4:Hid (Ctr Tryz.prog 12 [.sl (cq aA) aA.length none,.str n] (.int .i64 k)):=@hid _ (fun {L K} q=>kA q);obtain ⟨TS,hTS⟩:=aby (cq aA);obtain ⟨tl,htl⟩:=aby (aA.length);obtain ⟨like,hlike⟩:=aby (Q9 tm l n ps);obtain ⟨pres,hpres⟩:=aby (QQ tm l n);have kk5:Hid (∀ {K:abD},K (nY like) L1->abC 13 [.ptr it 0,.str n,.sl PS ps.length capP] L1 K):=@hid _ (fun {K} q=>by
  rw [<- hPS];exact Re hM.out.1.ix hidk hn hps.out (by rw [hlike];exact q))
 have kk6:Hid (∀ {K:abD},K (nY pres) L1->abC 14 [.ptr it 0,.str n] L1 K):=@hid _ (fun {K} q=>W5 hM.out.1.ix hidk hn (by rw [hpres];exact q));simp only [acn,aci] at hdoc;rw [hTS,htl] at kk4 hdoc;rw [hTS] at e5 e4;rw [htl] at hk;have hkn:(0:Int)<=(k:Int):=by omega
 have hkl:(k:Int)<(tl:Int):=by omega
 clear e3 hkt kA hTS htl;refine wk ?_;have hel:=E8 l;have hat:=hid (fun k (q:k<l.length)=>Eo q);obtain ⟨ES,hES⟩:=aby (cn l);rw [hES] at hel hat ⊢;have hm:(ab n,t2)∈eE tm:=(V2 hM.out.1.tms.ok.keys).2 ⟨_,hg,rfl⟩;have hd:((eE tm).map (·.1)).Nodup:=by rw [Ui];exact hM.out.1.tms.ok.keys
 have hll:=hM.out.2;have hpl:pres.length<=1000/\like.length<=1000:=by
  obtain ⟨u1,u2⟩:=PV hidk (f:=ab n);rw [<- hpres,<- hlike];unfold QQ Q9;rw [hg];refine ⟨u2,?_⟩;simp only;unfold KP;exact ab7 (adx _ _) u2
 have hpr:pres=gC l (ab n):=by rw [<- hpres];unfold QQ;rw [hg]
 have hli:like=KP (eE tm) l (ab n) t2 ps:=by rw [<- hlike];unfold Q9;rw [hg]
 have hev:∀ w,NE tm l n w=RD (eE tm) l (ab n) t2 w:=fun w=>by unfold NE;rw [hg]
 have hel2:∀ w,(NE tm l n w).length<=1000:=fun w=>by
  rw [hev];unfold RD;split
  ·simp
  ·exact (TK hidk).2
 clear hpres hlike;replace hm:=hid hm;replace hd:=hid hd;replace hpr:=hid hpr;replace hli:=hid hli;replace hev:=hid hev;replace hel2:=hid hel2;replace hty:=hid hty;replace hidk:=hid hidk;have aX:∀ X,(L1++X)[L.length]?=some (.cells [.str n,.str v,.sl PS ps.length capP]):=fun X=>abz hbx
 have kE:Hid (∀ {X:List Blk} {w:List UInt8} {K:abD},K (nY (NE tm l n w)) (L1++X)->abC 18 [.ptr it 0,.str n,.str w] (L1++X) K):=@hid _ (fun {X w K} q=>Y4 (hM.out.1.ix.app X) hidk.out hn q);have kI:∀ (r:List Int) (x:Int) (b:Bool),r.length<=1000->decide (x∈r)=b->Hid (Ctr Tryz.prog 17 [.sl (r.map (AV.int .i64)) r.length none,.int .i64 x] (.bool b)):=fun r x b hr hb=>@hid _ (fun {L K} q=>aal (by omega) (by rw [hb];exact q))
 clear hg hdoc e4 e5 hk hkn hkl kk3 kk4 kk5 kk6 hES;refine ak (fun m T' L'=>∃ (i:Nat) (X:List Blk),m=l.length - i/\i<=l.length/\T'=[(84,.int .i64 (i:Int)),(83,.int .i64 l.length),(82,.sl ES l.length k2),(12,nY pres),(11,nY like),(10,.int .i64 t2),(7,.ptr it 0),(5,.ptr L.length 0)]/\L'=L1++X) (CutS (b:=by simp)) ⟨0,[],rfl,abL _,rfl,by simp⟩ ?_;clear hbx;rintro _ _ _ ⟨i,X,rfl,hi,rfl,rfl⟩;by_cases hlt:i<l.length
 ·have j1:(i:Int)<(l.length:Int):=by omega
  have j2:=abA i (by omega);have e3:=hat.out i hlt;have e4:i * 2+2<=ES.length:=by rw [hel];omega
  obtain ⟨⟨id,av⟩,he⟩:∃ e,l.getD i (0,[])=e:=⟨_,rfl⟩;have hmem:(id,av)∈l:=by rw [<- he];simp [hlt]
  rw [he] at e3;simp only [KY] at e3;obtain ⟨hin,hao⟩:=hM.out.1.ents _ hmem;simp only at hin hao;obtain ⟨vs,hvs⟩:=aby (cJ av n);have kk3:Hid (Ctr Tryz.prog 15 [.sl (bq av) av.length none,.str n] (xC vs)):=@hid _ (fun {L K} q=>OQ hao.len hao.sz hn (by rw [hvs];exact q));have hvl:vs.length<=1100000:=by rw [<- hvs];exact PK n fun x hx=>(hao.sz x hx).2
  have hvv:=(To hin hty.out).2;rw [hvs] at hvv;replace hvv:=hid hvv;replace hmem:=hid hmem;replace hvs:=hid hvs;clear he hin hao;refine wk ?_;refine ak (fun m T' L'=>∃ (j:Nat),m=vs.length - j/\j<=vs.length/\T'=[(94,.int .i64 (j:Int)),(93,.int .i64 vs.length),(92,xC vs),(14,.ptr (L1.length+X.length) 0),(84,.int .i64 (i:Int)),(83,.int .i64 l.length),(82,.sl ES l.length k2),(12,nY pres),(11,nY like),(10,.int .i64 t2),(7,.ptr it 0),(5,.ptr L.length 0)]/\L'=L1++(X++[.cells [.int .i64 id,atV av]])) (CutS (b:=by simp)) ⟨0,rfl,abL _,rfl,rfl⟩ ?_;clear kk3 e3 e4;rintro _ _ _ ⟨j,rfl,hj,rfl,rfl⟩;have hbx:(L1++(X++[Blk.cells [.int .i64 id,atV av]]))[L1.length+X.length]?=some (.cells [.int .i64 id,atV av]):=by rw [<- abT,<- abW];simp
  by_cases hjv:j<vs.length
  ·have g5:(j:Int)<(vs.length:Int):=by omega
   have g6:=abA j (by omega);have g7:(vs.map AV.str).getD j .undef=.str (vs.getD j []):=by simp [hjv]
   have g8:j<(vs.map AV.str).length:=by simpa using hjv
   obtain ⟨w,hw⟩:=aby (vs.getD j []);have hwm:w∈vs:=by rw [<- hw];simp [hjv]
   rw [hw] at g7;obtain ⟨VS,hVS⟩:=aby (vs.map AV.str);have hrow:xC vs=.sl VS vs.length none:=by rw [<- hVS]
   rw [hVS] at g7 g8;rw [hrow];replace hrow:=hid hrow;clear hVS hw;by_cases h3w:300<w.length
   ·have c1:(w.length:Int) > 300:=by omega
    have c2:(300:Int)<(w.length:Int):=by omega
    clear h3w;refine wk ?_;exact aa (h.out _)
   have c1:¬ (w.length:Int) > 300:=by omega
   have c2:¬ (300:Int)<(w.length:Int):=by omega
   have hvf:w∈cJ av (ab n):=by
    rw [QD (Vj n)];rw [hvs.out];exact hwm
   have ip:decide (id∈pres)=true:=decide_eq_true (by rw [hpr.out];exact RH hmem.out hvf);have ie:decide (id∈NE tm l n w)=true:=decide_eq_true (by rw [hev.out];exact Zh hd.out hm.out hmem.out hvf (hvv.out w hwm));have kk3:=@kI pres id true hpl.1 ip;have kk4:Hid (∀ {K:abD},K (nY (NE tm l n w)) (L1++(X++[.cells [.int .i64 id,atV av]]))->abC 18 [.ptr it 0,.str n,.str w] (L1++(X++[.cells [.int .i64 id,atV av]])) K):=@hid _ (fun {K} q=>kE.out q);have kk5:=@kI (NE tm l n w) id true (hel2.out w) ie;have hLk:nP t2 w ps=some true->decide (id∈like)=true:=fun e=>decide_eq_true (by rw [hli.out];exact XJ hd.out hm.out hmem.out hvf e)
   have kL:Hid (Ctr Tryz.prog 16 [.int .i64 t2,.str w,.sl PS ps.length capP] (.tup [.bool ((nP t2 w ps).getD false),.bool (nP t2 w ps).isSome])):=@hid _ (fun {L K} q=>by
    rw [<- hPS];exact Wm hps.out.1 (fun p hp=>by have:=hps.out.2 p hp;omega) q)
   obtain ⟨EQ,hEQ⟩:=aby (NE tm l n w);rw [hEQ] at kk4 kk5;clear hwm hvf ip ie hEQ h3w;by_cases hLs:nP t2 w ps=some true
   ·have kk6:=@kI like id true hpl.2 (hLk hLs);rw [hLs] at kL;have kk7:Hid (Ctr Tryz.prog 16 [.int .i64 t2,.str w,.sl PS ps.length capP] (.tup [.bool true,.bool true])):=@hid _ (fun {L K} q=>kL.out q);clear hLk hLs kL kI;refine wk ?_;rw [<- hrow.out];exact ai _ _ _ (by omega) (CutL (b:=by simp)) ⟨j+1,rfl,hjv,rfl,rfl⟩
   ·have hx2:∃ b,(nP t2 w ps).getD false=false/\(nP t2 w ps).isSome=b:=by
     cases hc:nP t2 w ps with
     | none=>exact ⟨false,rfl,rfl⟩
     | some c=>cases c with
       | true=>exact absurd hc hLs
       | false=>exact ⟨true,rfl,rfl⟩
    obtain ⟨b2,y1,y2⟩:=hx2;rw [y1,y2] at kL;have kk7:Hid (Ctr Tryz.prog 16 [.int .i64 t2,.str w,.sl PS ps.length capP] (.tup [.bool false,.bool b2])):=@hid _ (fun {L K} q=>kL.out q);clear hLk hLs kL kI y1 y2;refine wk ?_;rw [<- hrow.out];exact ai _ _ _ (by omega) (CutL (b:=by simp)) ⟨j+1,rfl,hjv,rfl,rfl⟩
  ·have hje:j=vs.length:=by omega
   subst hje;have g5:¬ (vs.length:Int)<(vs.length:Int):=by omega
   refine wk ?_;exact ai _ _ _ (by omega) (CutL (b:=by simp)) ⟨i+1,_,rfl,hlt,rfl,rfl⟩
 ·have hie:i=l.length:=by omega
  subst hie;have j1:¬ (l.length:Int)<(l.length:Int):=by omega
  obtain ⟨EQ,hEQ⟩:=aby (NE tm l n v);have kk3:Hid (∀ {K:abD},K (nY EQ) (L1++X)->abC 18 [.ptr it 0,.str n,.str v] (L1++X) K):=@hid _ (fun {K} q=>kE.out (by rw [hEQ];exact q));have hql:EQ.length<=1000:=by rw [<- hEQ];exact hel2.out v
  have hqp:∀ x∈EQ,x∈pres:=fun x hx=>by
   rw [<- hEQ,hev.out] at hx;rw [hpr.out];exact XA hd.out hm.out hx
  have kI2:=fun x (hx:x∈EQ)=>@kI pres x true hpl.1 (decide_eq_true (hqp x hx))
  clear hEQ hqp kI;refine wk ?_;refine ak (fun m T' L'=>∃ (j:Nat),m=EQ.length - j/\j<=EQ.length/\T'=[(145,.int .i64 (j:Int)),(144,.int .i64 EQ.length),(143,nY EQ),(12,nY pres)]/\L'=L1++X) (CutS (b:=by simp)) ⟨0,rfl,abL _,rfl,rfl⟩ ?_;clear kk3;rintro _ _ _ ⟨j,rfl,hj,rfl,rfl⟩;by_cases hjv:j<EQ.length
  ·have g5:(j:Int)<(EQ.length:Int):=by omega
   have g6:=abA j (by omega);have g7:(EQ.map (AV.int .i64)).getD j .undef=.int .i64 (EQ.getD j 0):=by simp [hjv]
   have g8:j<(EQ.map (AV.int .i64)).length:=by simpa using hjv
   obtain ⟨w,hw⟩:=aby (EQ.getD j 0);have hwm:w∈EQ:=by rw [<- hw];simp [hjv]
   rw [hw] at g7;have kk3:=@kI2 w hwm;clear hw hwm kI2;refine wk ?_;exact ai _ _ _ (by omega) (CutL (b:=by simp)) ⟨j+1,rfl,hjv,rfl,rfl⟩
  ·have hje:j=EQ.length:=by omega
   subst hje;have g5:¬ (EQ.length:Int)<(EQ.length:Int):=by omega
   refine wk ?_;exact aa (h.out _)
open Go Go.ChangeShapes
theorem MS:RdZ Tryz.prog 22 (fun l:List (List UInt8)=>[xC l]) (fun l=>l.length<=maxLen/\∀ v∈l,bd v) :=
 (ET Tryz.underlying22 (IG Tryz.underlying9) (by kernel_rfl)).map fun l hl=>⟨l,⟨hl.1,fun v hv=>by have:=hl.2 v hv;simp only [reachBytes] at this;unfold bd;omega⟩,by
  have e:∀ l:List (List UInt8),l.map AV.str=l.flatMap fun r=>[AV.str r]:=fun l=>by
   induction l with
   | nil=>rfl
   | cons a l ih=>rw [abS,acU,ih];rfl
  simp only [xC,e l]⟩
theorem UG:RdZ Tryz.prog 78 atA (fun a=>bd a.1/\(a.2.length:Int)<=9223372036854775807) :=
 (sf Tryz.underlying78 (N:=2) (by kernel_rfl) (eO (sz:=1) rfl (by kernel_rfl) (IG Tryz.underlying9) (eO (sz:=1) rfl (by kernel_rfl) MS (IH rfl)))).map
  fun y hy=>⟨(y.1,y.2.1),⟨by have:=hy.1;simp only [reachBytes] at this;unfold bd;simp only;omega,by have:=hy.2.1.1;simp only [maxLen] at this ⊢;omega⟩,rfl⟩
theorem UF:RdZ Tryz.prog 46 (fun l=>[.sl (bq l) l.length none]) Yg :=
 (ET Tryz.underlying46 UG (by kernel_rfl)).map fun l hl=>⟨l,⟨by have:=hl.1;simp only [maxLen] at this;omega,hl.2⟩,rfl⟩
theorem YR:RdZ Tryz.prog 87 KY (fun e=>Yg e.2/\-9223372036854775808<=e.1/\e.1<=9223372036854775807) :=
 (sf Tryz.underlying87 (N:=2) (by kernel_rfl) (eO (sz:=1) rfl (by kernel_rfl) (Rd.z (Ww Tryz.underlying3)) (eO (sz:=1) rfl (by kernel_rfl) UF (IH rfl)))).map
  fun y hy=>⟨(y.1,y.2.1),⟨hy.2.1,by have:=hy.1;simp only [IntKind.min,IntKind.max,IntKind.bits,IntKind.signed] at this;simpa using this⟩,rfl⟩
theorem Wt:RdZ Tryz.prog 23 (fun l=>[.sl (cn l) l.length none]) Ti :=
 (ET Tryz.underlying23 YR (by kernel_rfl)).map fun l hl=>⟨l,⟨by have:=hl.1;simp only [maxLen] at this;omega,fun e he=>(hl.2 e he).1,fun e he=>(hl.2 e he).2⟩,rfl⟩
theorem Z7:RdZ Tryz.prog 83 pcA (fun p=>(p.2.length:Int)<=140737488351232) :=
 (sf Tryz.underlying83 (N:=2) (by kernel_rfl) (eO (sz:=1) rfl (by kernel_rfl) (Rd.z (Ww Tryz.underlying3)) (eO (sz:=1) rfl (by kernel_rfl) (IG Tryz.underlying9) (IH rfl)))).map
  fun y hy=>⟨(y.1,y.2.1),by have:=hy.2.1;simp only [reachBytes] at this;simp only;omega,rfl⟩
abbrev abp:=List UInt8×List UInt8×List Pc
abbrev abv (a:abp):List AV:=[.str a.1,.str a.2.1,.sl (dH a.2.2) a.2.2.length none]
theorem UH:RdZ Tryz.prog 26 abv (fun a=>ZP a.1 a.2.1 a.2.2) :=
 (sf Tryz.underlying26 (N:=3) (by kernel_rfl) (eO (sz:=1) rfl (by kernel_rfl) (IG Tryz.underlying9) (eO (sz:=1) rfl (by kernel_rfl) (IG Tryz.underlying9) (eO (sz:=1) rfl (by kernel_rfl) (ET Tryz.underlying24 Z7 (by kernel_rfl)) (IH rfl))))).map
  fun y hy=>⟨(y.1,y.2.1,y.2.2.1),⟨by have:=hy.1;simp only [reachBytes] at this;unfold bd;simp only;omega,by have:=hy.2.2.1.1;simp only [maxLen] at this ⊢;omega⟩,rfl⟩
end Go.Proofs.YtcmfcpjnhephaaaGreatDoor.Av
