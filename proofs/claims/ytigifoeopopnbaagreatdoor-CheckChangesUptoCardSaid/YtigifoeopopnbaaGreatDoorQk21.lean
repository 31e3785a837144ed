/- Joined texts of the walk, made small by a program. -/
import Derived.Test.YtigifoeopopnbaaGreatDoorQk20
import Derived.Test.YtigifoeopopnbaaGreatDoorQk12
import Derived.Test.YtigifoeopopnbaaGreatDoorQk14
import Derived.Test.YtigifoeopopnbaaGreatDoorQk4
import Derived.Test.YtigifoeopopnbaaGreatDoorRows
import Derived.KernelRfl
import Derived.Test.YtigifoeopopnbaaGreatDoorQk13
import Derived.Test.YtigifoeopopnbaaGreatDoorQk6
set_option linter.unusedSimpArgs false
set_option linter.unusedVariables false
namespace Go.Proofs.YtigifoeopopnbaaGreatDoor.Av
open Go
set_option maxHeartbeats 8000000
set_option maxRecDepth 100000
def fH (cs:List Cls) (n:List UInt8):Option Cls:=cs.find? fun c=>decide (aa c.1=aa n)
theorem Yo {cs:List Cls} {n m:List UInt8} (h:aa n=aa m):fH cs n=fH cs m:=by
 unfold fH;rw [h]
theorem tZ {cs:List Cls} {n:List UInt8} {c:Cls} (h:fH cs n=some c):c∈cs/\aa c.1=aa n :=
 ⟨agN h,by simpa using List.find?_some h⟩
theorem TM {cs:List Cls} (hd:jB cs) {k:Nat} (hk:k<cs.length) {n:List UInt8} (he:aa (cs.getD k cC).1=aa n):fH cs n=some (cs.getD k cC):=by
 refine gP (q:=fun c=>decide (aa c.1=aa n)) (d:=cC) hk (fun j hj=>?_) (decide_eq_true he);have:=(hd k hk).2.1 (cs.getD j cC) (by
  rw [aeU];exact ⟨j,by simp;omega,by simp [show j<cs.length by omega]⟩)
 rw [he] at this;exact decide_eq_false this
theorem HJ {cs:List Cls} {n:List UInt8} {c:Cls} (h:fH cs n=some c):∃ k,k<cs.length/\cs.getD k cC=c/\aa c.1=aa n:=by
 obtain ⟨h1,h2⟩:=tZ h;obtain ⟨k,hk,e⟩:=aeU.1 h1;exact ⟨k,hk,by simp [hk,e],h2⟩
def chM (cs:List Cls):Nat->List UInt8->List Cls
 | 0,_=>[]
 | f+1,n=>match fH cs n with
   | none=>[]
   | some c=>if c.2.1=[] then [c] else c::chM cs f c.2.1
theorem Ve {cs:List Cls} (hd:jB cs):∀ (k:Nat) {n:List UInt8} {f g:Nat},k<f->k<g->k<cs.length->aa (cs.getD k cC).1=aa n ->
  chM cs f n=chM cs g n/\∀ c∈chM cs f n,∃ j,j<=k/\c=cs.getD j cC:=by
 intro k
 induction k using Nat.strongRecOn with
 | _ k ih =>
   intro n f g hf hg hk he;obtain ⟨f,rfl⟩:∃ f',f=f'+1:=⟨f - 1,by omega⟩;obtain ⟨g,rfl⟩:∃ f',g=f'+1:=⟨g - 1,by omega⟩;rw [chM,chM,TM hd hk he];simp only;split
   ·exact ⟨rfl,fun c hc=>⟨k,aeg _,aeO.1 hc⟩⟩
   ·rename_i hs
    obtain ⟨w,hw,hwe⟩:=(hd k hk).2.2 hs;obtain ⟨i1,i2⟩:=ih w hw (n:=(cs.getD k cC).2.1) (f:=f) (g:=g) (by omega) (by omega) (by omega) hwe;refine ⟨by rw [i1],fun c hc=>?_⟩;rcases aex.1 hc with rfl|hc
    ·exact ⟨k,aeg _,rfl⟩
    ·obtain ⟨j,hj,e⟩:=i2 c hc;exact ⟨j,by omega,e⟩
def mH (cs:List Cls) (n:List UInt8):List Cls:=chM cs cs.length n
theorem abS {cs:List Cls} (hd:jB cs) {f:Nat} (hf:cs.length<=f) (n:List UInt8):chM cs f n=mH cs n:=by
 unfold mH;rcases hc:fH cs n with _|c
 ·have e:∀ f,chM cs f n=[]:=fun f=>by
   cases f with
   | zero=>rfl
   | succ f=>rw [chM,hc]
  rw [e,e]
 ·obtain ⟨k,hk,rfl,he⟩:=HJ hc;exact (Ve hd k (by omega) hk hk he).1
theorem W7 {cs:List Cls} (hd:jB cs) {n:List UInt8} {k:Nat} (hk:k<cs.length) (he:aa (cs.getD k cC).1=aa n) {c:Cls} (hc:c∈mH cs n):∃ j,j<=k/\c=cs.getD j cC :=
 (Ve hd k hk hk hk he).2 c hc
theorem Qg {cs:List Cls} (hd:jB cs) {n:List UInt8} {c:Cls} (hc:c∈mH cs n):c∈cs/\fH cs c.1=some c:=by
 rcases h:fH cs n with _|d
 ·unfold mH at hc;cases hl:cs.length with
  | zero=>rw [hl] at hc;cases hc
  | succ m=>rw [hl,chM,h] at hc;cases hc
 ·obtain ⟨k,hk,rfl,he⟩:=HJ h;obtain ⟨j,hj,rfl⟩:=W7 hd hk he hc;have hjl:j<cs.length:=by omega
  exact ⟨by simp [hjl],TM hd hjl rfl⟩
theorem Vd {cs:List Cls} {n m:List UInt8} (h:aa n=aa m):mH cs n=mH cs m:=by
 unfold mH;cases cs.length with
 | zero=>rfl
 | succ f=>rw [chM,chM,Yo h]
def jA (cs:List Cls):List (List UInt8)->Option (List Cls)
 | []=>some []
 | n::r=>match fH cs n with
   | none=>none
   | some c=>(jA cs r).map fun t=>if c.2.2.1=1 then c::t else t
def uy (cs:List Cls) (all:List Cls) (c:Cls):Bool:=all.all fun o=>((mH cs c.1).map (·.1)).contains o.1
def Lh (cs:List Cls) (ns:List (List UInt8)):Option (List UInt8):=match jA cs ns with
 | none=>none
 | some all=>(all.find? (uy cs all)).map (·.1)
def Rf (cs:List Cls) (ns:List (List UInt8)) (n:List UInt8):Bool:=ns.all fun m=>match fH cs m with
 | some o=>if o.2.2.1=1 then ((mH cs n).map (·.1)).contains o.1 else true
 | none=>true
def rkM (cs:List Cls) (ns:List (List UInt8)):List UInt8->List (List UInt8)->Option (List UInt8)
 | best,[]=>some best
 | best,n::r=>match fH cs n with
   | none=>none
   | some c=>rkM cs ns (if c.2.2.1=1/\Rf cs ns n=true then c.1 else best) r
theorem RN {cs:List Cls} {n:List UInt8}:∀ {ns:List (List UInt8)} {all:List Cls},jA cs ns=some all->Rf cs ns n=all.all fun o=>((mH cs n).map (·.1)).contains o.1
 | [],all,h=>by rw [jA] at h;cases h;rfl
 | m::r,all,h=>by
   rw [jA] at h;unfold Rf;rw [afH];rcases hc:fH cs m with _|c
   ·rw [hc] at h;cases h
   ·rw [hc] at h;simp only [aeI] at h;obtain ⟨t,h1,rfl⟩:=h;have ih:=RN (n:=n) h1;unfold Rf at ih;rw [ih];simp only;split
    ·rw [afH]
    ·rfl
theorem RL {cs:List Cls}:∀ {ns:List (List UInt8)} {all:List Cls},jA cs ns=some all->∀ c∈all,∃ n∈ns,fH cs n=some c
 | [],all,h,c,hc=>by rw [jA] at h;cases h;cases hc
 | m::r,all,h,c,hc=>by
   rw [jA] at h;rcases hm:fH cs m with _|d
   ·rw [hm] at h;cases h
   ·rw [hm] at h;simp only [aeI] at h;obtain ⟨t,h1,rfl⟩:=h;have key:c∈t->∃ n∈m::r,fH cs n=some c:=fun hq=>by
     obtain ⟨n,hn,e⟩:=RL h1 c hq;exact ⟨n,by simp [hn],e⟩
    split at hc
    ·rcases aex.1 hc with rfl|hc
     ·exact ⟨m,by simp,hm⟩
     ·exact key hc
    ·exact key hc
theorem abN {cs:List Cls} (hd:jB cs) {all:List Cls} {c e:Cls} (hc:∃ n,fH cs n=some c) (he:∃ n,fH cs n=some e) (h1:c∈all) (h2:e∈all) (d1:uy cs all c=true) (d2:uy cs all e=true):c=e:=by
 obtain ⟨n,hn⟩:=hc;obtain ⟨m,hm⟩:=he;obtain ⟨i,hi,rfl,_⟩:=HJ hn;obtain ⟨j,hj,rfl,_⟩:=HJ hm;have key:∀ {a b:Nat} (ha:a<cs.length) (hb:b<cs.length),((mH cs (cs.getD a cC).1).map (·.1)).contains (cs.getD b cC).1=true->b<=a:=fun {a b} ha hb h=>by
  rw [afw] at h;obtain ⟨x,hx,e⟩:=aey.1 h;obtain ⟨k,hk,rfl⟩:=W7 hd ha rfl hx;have hkl:k<cs.length:=by omega
  rcases agQ k b with q|q|q
  ·exact absurd (congrArg aa e) ((hd b hb).2.1 _ (by
    rw [aeU];exact ⟨k,by simp;omega,by simp [hkl]⟩))
  ·omega
  ·exact absurd (congrArg aa e.symm) ((hd k hkl).2.1 _ (by
    rw [aeU];exact ⟨b,by simp;omega,by simp [hb]⟩))
 have q1:=key hi hj (ael.1 d1 _ h2);have q2:=key hj hi (ael.1 d2 _ h1);rw [show i=j by omega]
theorem Up {cs:List Cls} {ns:List (List UInt8)}:∀ {r:List (List UInt8)} {b:List UInt8},jA cs r=none->rkM cs ns b r=none
 | [],b,h=>by rw [jA] at h;cases h
 | n::r,b,h=>by
   rw [jA] at h;rw [rkM];rcases hc:fH cs n with _|c
   ·rfl
   ·rw [hc] at h;simp only [Option.map_eq_none_iff] at h;exact Up h
theorem Uo {cs:List Cls} {ns:List (List UInt8)} {all:List Cls} (hall:jA cs ns=some all):∀ {r:List (List UInt8)} {b:List UInt8} {t:List Cls},jA cs r=some t->(∀ c∈t,uy cs all c=true->c.1=b)->rkM cs ns b r=some b
 | [],b,t,_,_=>rfl
 | n::r,b,t,h,hb=>by
   rw [jA] at h;rw [rkM];rcases hc:fH cs n with _|c
   ·rw [hc] at h;cases h
   ·rw [hc] at h;simp only [aeI] at h;obtain ⟨t,h1,rfl⟩:=h;simp only;have hdc:Rf cs ns n=uy cs all c:=by
     rw [RN hall];unfold uy;rw [Vd (tZ hc).2.symm]
    have e:(if c.2.2.1=1/\Rf cs ns n=true then c.1 else b)=b:=by
     split
     ·rename_i hh
      refine hb c (by rw [if_pos hh.1];simp) (by rw [<- hdc];exact hh.2)
     ·rfl
    rw [e];refine Uo hall h1 fun c' hc'=>hb c' ?_
    split
    ·simp [hc']
    ·exact hc'
theorem Qt {cs:List Cls} (hd:jB cs) {ns:List (List UInt8)} {all:List Cls} (hall:jA cs ns=some all):∀ {r:List (List UInt8)} {b:List UInt8} {t:List Cls},jA cs r=some t->(∀ c∈t,c∈all)->rkM cs ns b r=some (((t.find? (uy cs all)).map (·.1)).getD b)
 | [],b,t,h,_=>by rw [jA] at h;cases h;rfl
 | n::r,b,t,h,ht=>by
   rw [jA] at h;rw [rkM];rcases hc:fH cs n with _|c
   ·rw [hc] at h;cases h
   ·rw [hc] at h;simp only [aeI] at h;obtain ⟨t,h1,rfl⟩:=h;simp only;have hdc:Rf cs ns n=uy cs all c:=by
     rw [RN hall];unfold uy;rw [Vd (tZ hc).2.symm]
    rw [hdc];by_cases hk:c.2.2.1=1
    ·rw [if_pos hk] at ht ⊢;rw [agl];rcases hq:uy cs all c with _|_
     ·rw [if_neg (by simp)];exact Qt hd hall h1 fun x hx=>ht x (by simp [hx])
     ·rw [if_pos ⟨hk,rfl⟩];simp only [aeB,aeP];refine Uo hall h1 fun x hx hx2=>?_
      have m1:=ht x (by simp [hx]);have m2:=ht c (by simp);rw [abN hd (let ⟨n,_,e⟩:=RL hall x m1;⟨n,e⟩) ⟨n,hc⟩ m1 m2 hx2 hq]
    ·rw [if_neg hk] at ht ⊢;rw [if_neg (fun e=>hk e.1)];exact Qt hd hall h1 ht
theorem aa1 {s:List UInt8} (h:il s=true):s≠[]:=by
 rintro rfl;exact absurd h (by decide)
theorem acz {cs:List Cls} (hd:jB cs) (ns:List (List UInt8)):(rkM cs ns [] ns=none/\Lh cs ns=none)\/∃ b,rkM cs ns [] ns=some b/\((Lh cs ns=none/\b=[])\/(Lh cs ns=some b/\b≠[])):=by
 unfold Lh;rcases hall:jA cs ns with _|all
 ·exact .inl ⟨Up hall,rfl⟩
 ·right;simp only;refine ⟨_,Qt hd hall hall (fun _ h=>h),?_⟩;rcases hf:all.find? (uy cs all) with _|c
  ·exact .inl ⟨rfl,rfl⟩
  ·refine .inr ⟨rfl,?_⟩;simp only [aeB,aeP];obtain ⟨n,_,hn⟩:=RL hall c (agN hf);obtain ⟨k,hk,rfl,_⟩:=HJ hn;exact aa1 (hd k hk).1
def mF (s:List UInt8):List (List UInt8)->List (List UInt8)
 | []=>[s]
 | x::t=>if s<x then s::x::t else x::mF s t
def oK (l:List (List UInt8)) (s:List UInt8):List (List UInt8):=if s∈l then l else mF s l
def RU (v:List (List UInt8)):List (List UInt8):=v.foldl oK []
def OR (l:List (List UInt8)):Prop:=l.Pairwise (· < ·)
theorem QY {s x:List UInt8}:∀ {l:List (List UInt8)},x∈mF s l↔x=s\/x∈l
 | []=>by simp [mF]
 | y::t=>by
   rw [mF];split
   ·simp
   ·rw [aex,QY,aex];exact ⟨fun h=>by rcases h with h|h|h<;>simp [h],fun h=>by rcases h with h|h|h<;>simp [h]⟩
theorem SI {s:List UInt8}:∀ {l:List (List UInt8)},OR l->s ∉ l->OR (mF s l)
 | [],_,_=>by simp [mF,OR]
 | y::t,h,hn=>by
   obtain ⟨h1,h2⟩:=afo.1 h;rw [mF];split
   ·rename_i hs
    refine afo.2 ⟨fun b hb=>?_,h⟩;rcases aex.1 hb with rfl|hb
    ·exact hs
    ·exact afT hs (h1 b hb)
   ·rename_i hs
    refine afo.2 ⟨fun b hb=>?_,SI h2 fun e=>hn (by simp [e])⟩;rcases QY.1 hb with rfl|hb
    ·rcases af6.1 (afz.1 hs) with e|e
     ·exact e
     ·exact absurd (by simp [e]) hn
    ·exact h1 b hb
theorem Zl {l:List (List UInt8)} {s x:List UInt8}:x∈oK l s↔x=s\/x∈l:=by
 unfold oK;split
 ·rename_i h
  exact ⟨fun e=>.inr e,fun e=>by rcases e with rfl|e;exact h;exact e⟩
 ·exact QY
theorem XJ {l:List (List UInt8)} {s:List UInt8} (h:OR l):OR (oK l s):=by
 unfold oK;split
 ·exact h
 ·rename_i hn;exact SI h hn
theorem acg {v:List (List UInt8)}:∀ {l:List (List UInt8)},OR l->OR (v.foldl oK l)/\∀ x,x∈v.foldl oK l↔x∈v\/x∈l:=by
 induction v with
 | nil=>intro l h;exact ⟨h,fun x=>by simp⟩
 | cons s v ih =>
   intro l h;rw [afq];obtain ⟨h1,h2⟩:=ih (XJ (s:=s) h);refine ⟨h1,fun x=>?_⟩;rw [h2 x,Zl,aex];exact ⟨fun h=>by rcases h with h|h|h<;>simp [h],fun h=>by rcases h with (h|h)|h<;>simp [h]⟩
theorem Sh (v:List (List UInt8)):OR (RU v):=(acg List.Pairwise.nil).1
theorem LU {v:List (List UInt8)} {x:List UInt8}:x∈RU v↔x∈v:=by
 have:=(acg (v:=v) (l:=[]) List.Pairwise.nil).2 x;simpa [RU] using this
theorem Qu:∀ {l r:List (List UInt8)},OR l->OR r->(∀ x,x∈l↔x∈r)->l=r
 | [],[],_,_,_=>rfl
 | [],b::r,_,_,h=>by have:=(h b).2 (by simp);cases this
 | a::l,[],_,_,h=>by have:=(h a).1 (by simp);cases this
 | a::l,b::r,h1,h2,h=>by
   obtain ⟨a1,a2⟩:=afo.1 h1;obtain ⟨b1,b2⟩:=afo.1 h2;have e:a=b:=by
    rcases aex.1 ((h a).1 (by simp)) with e|e
    ·exact e
    ·rcases aex.1 ((h b).2 (by simp)) with e'|e'
     ·exact e'.symm
     ·exact absurd (afT (b1 a e) (a1 b e')) (ae9 _)
   subst e
   congr 1
   refine Qu a2 b2 fun x=>⟨fun hx=>?_,fun hx=>?_⟩
   ·rcases aex.1 ((h x).1 (by simp [hx])) with rfl|q
    ·exact absurd (a1 x hx) (ae9 _)
    ·exact q
   ·rcases aex.1 ((h x).2 (by simp [hx])) with rfl|q
    ·exact absurd (b1 x hx) (ae9 _)
    ·exact q
theorem Si {l:List (List UInt8)} (h:l.Nodup):OR (l.mergeSort fun x y=>decide (x<=y)):=by
 have h1:=List.pairwise_mergeSort (le:=fun x y:List UInt8=>decide (x<=y)) (fun a b c e1 e2=>decide_eq_true (List.le_trans (of_decide_eq_true e1) (of_decide_eq_true e2))) (fun a b=>by
  rcases List.le_total a b with e|e
  ·simp [e]
  ·simp [e]) l
 have h2:(l.mergeSort fun x y=>decide (x<=y)).Nodup:=((agH l _).nodup_iff).2 h;refine List.Pairwise.imp₂ (fun {a b} e1 e2=>?_) h1 h2;rcases af6.1 (of_decide_eq_true e1) with e|e
 ·exact e
 ·exact absurd e e2
theorem YU {l v:List (List UInt8)} (h:l.Nodup) (hm:∀ x,x∈l↔x∈v):(l.mergeSort fun x y=>decide (x<=y))=RU v :=
 Qu (Si h) (Sh v) fun x=>by rw [(agH l _).mem_iff,hm,LU]
theorem Uq {l:List (List UInt8)} (p:List UInt8->Bool) (h:OR l):OR (l.filter p):=List.Pairwise.filter p h
def mB (cs:List Cls) (ns:List (List UInt8)):List (List UInt8):=ns.flatMap fun n=>(mH cs n).flatMap fun c=>c.2.2.2.1.map aa
def Hx (cs:List Cls) (ns:List (List UInt8)):List (List UInt8):=ns.flatMap fun n=>(mH cs n).flatMap fun c=>c.2.2.2.2.map aa
def gl (cs:List Cls) (ns:List (List UInt8)):List (List UInt8):=RU (mB cs ns)
def oL (cs:List Cls) (ns:List (List UInt8)):List (List UInt8):=(RU (Hx cs ns)).filter fun x => !(gl cs ns).contains x
theorem YV {cs:List Cls} {ns l:List (List UInt8)} (h:l.Nodup) (hm:∀ x,x∈l↔x∈Hx cs ns/\x ∉ mB cs ns):(l.mergeSort fun x y=>decide (x<=y))=oL cs ns :=
 Qu (Si h) (Uq _ (Sh _)) fun x=>by
  rw [(agH l _).mem_iff,hm];unfold oL gl;rw [afv,LU];simp [LU]
def DC (ts:List Typ) (t v:List UInt8):Int:=match ef ts t with
 | none=>17
 | some ty=>if (ci ty.2.1 v).isSome=true then 0 else 21
def uZ (ts:List Typ) (l:List Atr):List Ava->Int
 | []=>0
 | a::r=>if DC ts a.1 a.2≠0 then DC ts a.1 a.2 else if HD ts l a.1 a.2=false then 64 else uZ ts l r
def ocS:List UInt8:=[111,98,106,101,99,116,99,108,97,115,115]
def TE (ts:List Typ) (cs:List Cls) (rdn:List Ava) (l:List Atr):Int:=match Lh cs (bu l ocS) with
 | none=>65
 | some _=>if ((gl cs (bu l ocS)).any fun t=>(bu l t).isEmpty)=true then 65 else if (l.any fun a => !(gl cs (bu l ocS)).contains (aa a.1) && !(oL cs (bu l ocS)).contains (aa a.1))=true then 65 else uZ ts l rdn
def inN (ts:List Typ) (now:List Ava) (a:Ava):Bool:=now.any fun x=>decide (ci (((ef ts a.1).map (·.2.1)).getD 0) x.2=some (bP (((ef ts a.1).map (·.2.1)).getD 0) a.2)) && decide (aa x.1=aa a.1)
def aci (ts:List Typ) (l:List Atr) (was now:List Ava) (drop:Bool):List Mdf :=
 (was.filter fun a=>drop && (HD ts l a.1 a.2 && !inN ts now a)).map (fun a=>(1,a.1,[a.2]))++(now.filter fun a => !HD ts l a.1 a.2).map fun a=>(0,a.1,[a.2])
def abm (ts:List Typ) (l:List Atr) (was now:List Ava) (drop:Bool):List Atr×Int:=match now.find? fun a=>decide (DC ts a.1 a.2≠0) with
 | some a=>([],DC ts a.1 a.2)
 | none=>TV ts l (aci ts l was now drop)
end Go.Proofs.YtigifoeopopnbaaGreatDoor.Av
set_option maxRecDepth 100000
namespace Go.Proofs.YtigifoeopopnbaaGreatDoor.Av
open Go
def i8:LSO:=[Az 2 0,Az 3 1,Bl 4,Ag 5]
def i7:LSO:=[Ad 8 0 2,Ad 9 1 8,Ac 10 1 9,o1 11 (.mkfn 72 [(tm 3)]),Am 12 71 10 11,Aa 6 12]
def iZ:LSO:=[Aa 13 6,AA 14 13 0]
def iY:LSO:=[o1 15 (.build [(.str []),(.str []),(.int .i64 0),(.sl [] 0 (some 0)),(.sl [] 0 (some 0))] []),Ap 5 4 15,Ag 5]
def iX:LSO:=[Ad 16 0 2,Ad 17 1 16,Ac 18 1 17,Aa 19 6,Aj 20 5 18 19,An 21 5 20,Bl 7,Ap 5 7 21]
def iW:List (ak×Kd) :=
 [A5 22 3 7,A8 23 1 22 0 0,Bw 24 46 23 0 0,A5 25 4 7,A8 26 1 25 0 0,Bw 27 46 26 0 0,A5 28 3 7]
def iu:List ak :=
 [⟨none,(.store 1 (tm 28) (tm 24)),none⟩,⟨(some 29),(.faddr 4 (tm 7)),none⟩,⟨none,(.store 1 (tm 29) (tm 27)),none⟩]
def iV:LSO:=[An 30 5 7,Ap 5 4 30,A0 5]
def gE:aV:=⟨31,(.seq (.sreg i8 [])
 (.seq (.sreg i7 Co)
 (.seq (.seq (.sreg iZ Cj)
 (.cond (tm 14) (.seq (.sreg iY Cj)
 .ret)
 .skip))
 (.seq (.sreg iX Cq)
 (.seq (.dregM iW iu Cy)
 (.seq (.sreg iV Cj)
 .ret)))))),[(.cell true 5 4),(.tmp 5)]⟩
attribute [push_cast] i8 i7 iZ iY iX iW iu iV
theorem uC:aX Tryz.prog (fun _ _=>1) 47=some gE.raw:=by kernel_rfl
def gX:LSO:=[Az 2 0,Ag 3]
def gW:LSO:=[Ad 4 0 2,Ac 5 1 4,Ac 6 1 1,Am 7 73 5 6,Aa 3 7]
def gc:aV:=⟨8,(.seq (.sreg gX [])
 (.seq (.sreg gW Cm)
 .ret)),[(.tmp 3)]⟩
attribute [push_cast] gX gW
theorem oO:aX Tryz.prog (fun _ _=>1) 72=some gc.raw:=by kernel_rfl
def cL:LSO:=[Ab 4 0]
def cK:LSO:=[Aa 6 0,Ah 7 6,Ab 8 0]
def cJ:LSO:=[Ai 9 8 7]
def cI:LSO:=[Aa 10 8,Aa 5 10]
def cH:LSO:=[Aa 11 1,Aa 12 0,Aa 13 5,Aj 14 5 12 13,An 15 5 14,BB 16 11 15]
def cG:LSO:=[Aa 17 5,Aa 4 17]
def cF:LSO:=[Af 18 8 1,Aa 8 18]
def cE:LSO:=[Ab 4 (-1)]
def bS:aV:=⟨19,(.seq (.sreg cL [])
 (.seq (.seq (.sreg cK Cp)
 (.block 0 (.loop (.seq (.sreg cJ [])
 (.seq (.cond (tm 9) .skip
 (.exit 0))
 (.seq (.block 1 (.seq (.sreg cI Cj)
 (.seq (.sreg cH Co)
 (.cond (tm 16) (.seq (.sreg cG Cj)
 .ret)
 .skip))))
 (.sreg cF Cj)))))))
 (.seq (.sreg cE [])
 .ret))),[(.tmp 4)]⟩
attribute [push_cast] cL cK cJ cI cH cG cF cE
theorem fX:aX Tryz.prog (fun _ _=>1) 71=some bS.raw:=by kernel_rfl
def qh:LSO:=[Az 2 0,Ak 4]
def qg:LSO:=[Ak 5]
def qf:LSO:=[An 9 2 2,By 10 9,Aa 11 1,Am 12 47 10 11,Aa 8 12,Ar 13 8,As 14 8,Bl 6,Ap 5 6 13,Aa 7 14]
def qe:LSO:=[Aa 15 7,Aa 16 15,.grp none 16 true
 [Ae 17 16 5,AT 18 16 17,A4 19 16 1 2,A3 20 16 1 19,AT 21 16 20,BV 22 16 18 21]
 23 (tm 22)]
def qd:LSO:=[Aa 32 5,Ad 33 0 6,Ac 34 1 33,AE 35 34,AO 36 32 35,Aa 5 36]
def qc:LSO:=[Ad 37 1 6,Ac 38 1 37,Bu 39 38]
def qb:LSO:=[An 40 5 6]
def qa:LSO:=[Bl 6,Ap 5 6 40]
def p8:LSO:=[An 25 2 2,By 26 25,Ad 27 1 6,Ac 28 1 27,Am 29 47 26 28,Aa 24 29,Ar 30 24,As 31 24,Ap 5 6 30,Aa 7 31]
def p6:LSO:=[Aa 41 5,Aa 4 41]
def mJ:aV:=⟨42,(.seq (.sreg qh [])
 (.seq (.sreg qg [])
 (.seq (.seq (.sreg qf C0)
 (.block 0 (.loop (.seq (.seq (.sreg qe Ck)
 (.cond (tm 23) .skip
 (.exit 0)))
 (.seq (.block 1 (.seq (.sreg qd Co)
 (.seq (.sreg qc Ck)
 (.cond (tm 39) (.exit 0)
 .skip))))
 (.seq (.seq (.sreg qb [])
 (.sreg qa []))
 (.sreg p8 Cx)))))))
 (.seq (.sreg p6 Cj)
 .ret)))),[(.tmp 4)]⟩
attribute [push_cast] qh qg qf qe qd qc qb qa p8 p6
theorem NR:aX Tryz.prog (fun _ _=>1) 48=some mJ.raw:=by kernel_rfl
def vw:LSO:=[Az 2 0,Aq 4,Ag 5]
def vv:LSO:=[Ak 6]
def vu:LSO:=[Aa 16 1,Ah 17 16,Ab 18 0]
def vt:LSO:=[Ai 19 18 17]
def vr:LSO:=[Aj 20 1 16 18,Ac 21 1 20,Aa 8 21]
def vq:LSO:=[An 23 2 2,By 24 23,Aa 25 8,Am 26 47 24 25,Aa 22 26,Ar 27 22,As 28 22,Bl 9,Ap 5 9 27,Aa 10 28]
def vp:LSO:=[Aa 29 10,Aw 30 29]
def vo:LSO:=[Aq 4,Ag 5]
def vn:LSO:=[Ad 31 2 9,Ac 32 1 31,Au 33 32 1]
def vm:LSO:=[Aa 34 6,Ad 35 0 9,Ac 36 1 35,AE 37 36,AO 38 34 37,Aa 6 38]
def p0:LSO:=[Af 39 18 1,Aa 18 39]
def pZ:LSO:=[Aa 40 6,Ah 41 40,Ab 42 0]
def pY:LSO:=[Ai 43 42 41]
def pX:LSO:=[Aj 44 1 40 42,Ac 45 1 44,Aa 12 45]
def pW:LSO:=[An 46 2 2,Aa 47 12,Am 48 48 46 47,Aa 13 48]
def pV:LSO:=[Aa 49 6,Ah 50 49,Ab 51 0]
def pU:LSO:=[Ai 52 51 50]
def pT:LSO:=[Aj 53 1 49 51,Ac 54 1 53,Aa 15 54]
def pS:LSO:=[Aa 55 13,Aa 56 15,Am 57 26 55 56,Aw 58 57]
def pR:LSO:=[Af 59 51 1,Aa 51 59]
def pQ:LSO:=[Aa 60 12,Aa 4 60,A0 5]
def pP:LSO:=[Af 61 42 1,Aa 42 61]
def pO:LSO:=[Aq 4,Ag 5]
def oP:aV:=⟨62,(.seq (.sreg vw [])
 (.scope (.seq (.sreg vv [])
 (.seq (.seq (.sreg vu [])
 (.block 0 (.loop (.seq (.sreg vt [])
 (.seq (.cond (tm 19) .skip
 (.exit 0))
 (.seq (.block 1 (.seq (.sreg vr Ck)
 (.seq (.sreg vq C0)
 (.seq (.seq (.sreg vp Cj)
 (.cond (tm 30) (.seq (.sreg vo [])
 .ret)
 .skip))
 (.seq (.sreg vn Ck)
 (.cond (tm 33) (.sreg vm Co)
 .skip))))))
 (.sreg p0 Cj)))))))
 (.seq .label
 (.seq (.seq (.sreg pZ [])
 (.block 2 (.loop (.seq (.sreg pY [])
 (.seq (.cond (tm 43) .skip
 (.exit 2))
 (.seq (.block 3 (.seq (.sreg pX Ck)
 (.seq (.sreg pW Cl)
 (.seq (.seq (.sreg pV [])
 (.block 4 (.loop (.seq (.sreg pU [])
 (.seq (.cond (tm 52) .skip
 (.exit 4))
 (.seq (.block 5 (.seq (.sreg pT Ck)
 (.seq (.sreg pS Cl)
 (.cond (tm 58) (.exit 3)
 .skip))))
 (.sreg pR Cj)))))))
 (.seq (.sreg pQ Cp)
 .ret)))))
 (.sreg pP Cj)))))))
 (.seq (.sreg pO [])
 .ret))))))),[(.tmp 4),(.tmp 5)]⟩
attribute [push_cast] vw vv vu vt vr vq vp vo vn vm p0 pZ pY pX pW pV pU pT pS pR pQ pP pO
theorem Ot:aX Tryz.prog (fun _ _=>1) 23=some oP.raw:=by kernel_rfl
def pN:LSO:=[Az 2 0,Ak 4,Ak 5]
def pM:LSO:=[.op ⟨(some 19),.mkmap,none⟩,
 .op ⟨(some 20),.mkmap,none⟩,Aa 6 19,Aa 7 20]
def pL:LSO:=[Aa 21 1,Ah 22 21,Ab 23 0]
def pK:LSO:=[Ai 24 23 22]
def pJ:LSO:=[Aj 25 1 21 23,Ac 26 1 25,Aa 9 26]
def pI:LSO:=[An 27 2 2,Aa 28 9,Am 29 48 27 28,Ah 30 29,Ab 31 0]
def pH:LSO:=[Ai 32 31 30]
def pG:LSO:=[Aj 33 1 29 31,Ac 34 1 33,Aa 11 34]
def pF:LSO:=[An 36 2 2,By 37 36,Aa 38 11,Am 39 47 37 38,Aa 35 39,Ar 40 35,As 41 35,Bl 12,Ap 5 12 40,Aa 13 41]
def pE:LSO:=[Ad 42 3 12,Ac 43 1 42,Ah 44 43,Ab 45 0]
def nM:LSO:=[Ai 46 45 44]
def nL:LSO:=[Aj 47 1 43 45,Ac 48 1 47,Aa 15 48]
def nK:LSO:=[Aa 49 6,Aa 50 15,Ao 51 25 50,o0 (.mset .str (tm 49) (tm 51) (.av (.bool true)))]
def nJ:LSO:=[Af 52 45 1,Aa 45 52]
def nI:LSO:=[Ad 53 4 12,Ac 54 1 53,Ah 55 54,Ab 56 0]
def nH:LSO:=[Ai 57 56 55]
def nG:LSO:=[Aj 58 1 54 56,Ac 59 1 58,Aa 17 59]
def nF:LSO:=[Aa 60 7,Aa 61 17,Ao 62 25 61,o0 (.mset .str (tm 60) (tm 62) (.av (.bool true)))]
def nE:LSO:=[Af 63 56 1,Aa 56 63]
def nD:LSO:=[Af 64 31 1,Aa 31 64]
def nC:LSO:=[Af 65 23 1,Aa 23 65]
def nB:LSO:=[Aa 66 6,o1 67 (.mrange (tm 66))]
def nA:LSO:=[o1 68 (.mnext (tm 67)),Ar 69 68]
def nz:LSO:=[o1 70 (.mentry (tm 67)),Ar 71 70,Aa 18 71]
def ny:LSO:=[Aa 72 7,Aa 73 18,o0 (.mdel .str (tm 72) (tm 73))]
def nx:LSO:=[Aa 74 6,Ao 75 49 74,Aa 76 7,Ao 77 49 76,Aa 4 75,Aa 5 77]
def mI:aV:=⟨78,(.seq (.sreg pN [])
 (.seq (.sreg pM Cw)
 (.seq (.seq (.sreg pL [])
 (.block 0 (.loop (.seq (.sreg pK [])
 (.seq (.cond (tm 24) .skip
 (.exit 0))
 (.seq (.block 1 (.seq (.sreg pJ Ck)
 (.seq (.sreg pI C7)
 (.block 2 (.loop (.seq (.sreg pH [])
 (.seq (.cond (tm 32) .skip
 (.exit 2))
 (.seq (.block 3 (.seq (.sreg pG Ck)
 (.seq (.sreg pF CI)
 (.seq (.seq (.sreg pE Cz)
 (.block 4 (.loop (.seq (.sreg nM [])
 (.seq (.cond (tm 46) .skip
 (.exit 4))
 (.seq (.block 5 (.seq (.sreg nL Ck)
 (.sreg nK CC)))
 (.sreg nJ Cj)))))))
 (.seq (.sreg nI Cz)
 (.block 6 (.loop (.seq (.sreg nH [])
 (.seq (.cond (tm 57) .skip
 (.exit 6))
 (.seq (.block 7 (.seq (.sreg nG Ck)
 (.sreg nF CC)))
 (.sreg nE Cj)))))))))))
 (.sreg nD Cj)))))))))
 (.sreg nC Cj)))))))
 (.seq (.seq (.sreg nB Cj)
 (.block 8 (.loop (.seq (.sreg nA Cj)
 (.seq (.cond (tm 69) .skip
 (.exit 8))
 (.block 9 (.seq (.sreg nz Ck)
 (.sreg ny CG))))))))
 (.seq (.sreg nx C6)
 .ret))))),[(.tmp 4),(.tmp 5)]⟩
attribute [push_cast] pN pM pL pK pJ pI pH pG pF pE nM nL nK nJ nI nH nG nF nE nD nC nB nA nz ny nx
theorem NQ:aX Tryz.prog (fun _ _=>1) 24=some mI.raw:=by kernel_rfl
def nw:LSO:=[Ak 2]
def nv:LSO:=[Ak 3]
def nu:LSO:=[Aa 5 0,o1 6 (.mrange (tm 5))]
def nr:LSO:=[o1 7 (.mnext (tm 6)),Ar 8 7]
def nq:LSO:=[o1 9 (.mentry (tm 6)),Ar 10 9,Aa 4 10]
def np:LSO:=[Aa 11 3,Aa 12 4,AE 13 12,BQ 14 11 13,Aa 3 14]
def nn:LSO:=[Aa 15 3,Ao 16 74 15]
def nk:LSO:=[Aa 17 3,Aa 2 17]
def kU:aV:=⟨18,(.seq (.sreg nw [])
 (.seq (.sreg nv [])
 (.seq (.seq (.sreg nu Cj)
 (.block 0 (.loop (.seq (.sreg nr Cj)
 (.seq (.cond (tm 8) .skip
 (.exit 0))
 (.block 1 (.seq (.sreg nq Ck)
 (.sreg np Cm))))))))
 (.seq (.sreg nn CG)
 (.seq (.sreg nk Cj)
 .ret))))),[(.tmp 2)]⟩
attribute [push_cast] nw nv nu nr nq np nn nk
theorem Lt:aX Tryz.prog (fun r i=>if r=5/\i=3 then 2 else 1) 49=some kU.raw:=by kernel_rfl
def eA:LSO:=[Ag 4]
def ez:LSO:=[Aa 5 0,Aa 6 1,Am 7 50 5 6,AM 8 7 0,Aa 4 8]
def cD:aV:=⟨9,(.seq (.sreg eA [])
 (.seq (.sreg ez Cm)
 .ret)),[(.tmp 4)]⟩
attribute [push_cast] eA ez
theorem gQ:aX Tryz.prog (fun _ _=>1) 26=some cD.raw:=by kernel_rfl
def fB:LSO:=[Ab 4 0]
def fA:LSO:=[Aa 6 0,Ah 7 6,Ab 8 0]
def fz:LSO:=[Ai 9 8 7]
def fy:LSO:=[Aa 10 8,Aa 5 10]
def fw:LSO:=[Aa 11 1,Aa 12 0,Aa 13 5,Aj 14 1 12 13,Ac 15 1 14,A7 16 11 15]
def fv:LSO:=[Aa 17 5,Aa 4 17]
def fu:LSO:=[Af 18 8 1,Aa 8 18]
def ft:LSO:=[Ab 4 (-1)]
def dj:aV:=⟨19,(.seq (.sreg fB [])
 (.seq (.seq (.sreg fA Cp)
 (.block 0 (.loop (.seq (.sreg fz [])
 (.seq (.cond (tm 9) .skip
 (.exit 0))
 (.seq (.block 1 (.seq (.sreg fy Cj)
 (.seq (.sreg fw Co)
 (.cond (tm 16) (.seq (.sreg fv Cj)
 .ret)
 .skip))))
 (.sreg fu Cj)))))))
 (.seq (.sreg ft [])
 .ret))),[(.tmp 4)]⟩
attribute [push_cast] fB fA fz fy fw fv fu ft
theorem iJ:aX Tryz.prog (fun _ _=>1) 50=some dj.raw:=by kernel_rfl
def xB:LSO:=[Az 2 0,Ak 4]
def xA:LSO:=[Ak 5]
def xz:LSO:=[Ad 7 1 2,Ac 8 1 7,Aa 9 1,Am 10 54 8 9,Aa 6 10]
def xy:LSO:=[Aa 11 6,AM 12 11 0,Aa 13 12,.grp none 13 true
 [Ae 14 13 5,AT 15 13 14,A4 16 13 1 2,A3 17 13 1 16,AT 18 13 17,Cd 19 13 15 18]
 20 (tm 19)]
def xx:LSO:=[Aa 21 5,Ad 22 1 2,Ac 23 1 22,Aa 24 6,Aj 25 5 23 24,Ad 26 0 25,Ac 27 1 26,AE 28 27,AO 29 21 28,Aa 5 29]
def xw:LSO:=[Ad 30 1 2,Ac 31 1 30,Aa 32 6,Aj 33 5 31 32,Ad 34 1 33,Ac 35 1 34,Bu 36 35]
def xu:LSO:=[Aa 37 5,Aa 4 37]
def xr:LSO:=[Ad 38 1 2,Ac 39 1 38,Ad 40 1 2,Ac 41 1 40,Aa 42 6,Aj 43 5 41 42,Ad 44 1 43,Ac 45 1 44,Am 46 54 39 45,Aa 6 46]
def xq:LSO:=[Aa 47 5,Aa 4 47]
def oV:aV:=⟨48,(.seq (.sreg xB [])
 (.seq (.sreg xA [])
 (.seq (.sreg xz Cm)
 (.seq (.block 0 (.loop (.seq (.seq (.sreg xy Cl)
 (.cond (tm 20) .skip
 (.exit 0)))
 (.block 1 (.seq (.sreg xx Cv)
 (.seq (.seq (.sreg xw Cq)
 (.cond (tm 36) (.seq (.sreg xu Cj)
 .ret)
 .skip))
 (.sdreg xr [.pure,(.read 0 0),.pure,(.read 0 0),.pure,(.read 0 0),.pure,(.read 0 0)] Cv)))))))
 (.seq (.sreg xq Cj)
 .ret))))),[(.tmp 4)]⟩
attribute [push_cast] xB xA xz xy xx xw xu xr xq
theorem Oz:aX Tryz.prog (fun _ _=>1) 55=some oV.raw:=by kernel_rfl
def Ji:LSO:=[Ag 4]
def Jh:LSO:=[Aa 7 0,Ah 8 7,Ab 9 0]
def Jg:LSO:=[Ai 10 9 8]
def Jf:LSO:=[Aj 11 1 7 9,Ac 12 1 11,Aa 6 12]
def Je:LSO:=[Aa 13 6,Aa 14 1,A7 15 13 14]
def Jd:LSO:=[A0 4]
def Jc:LSO:=[Af 16 9 1,Aa 9 16]
def Jb:LSO:=[Ag 4]
def HP:aV:=⟨17,(.seq (.sreg Ji [])
 (.seq (.seq (.sreg Jh [])
 (.block 0 (.loop (.seq (.sreg Jg [])
 (.seq (.cond (tm 10) .skip
 (.exit 0))
 (.seq (.block 1 (.seq (.sreg Jf Ck)
 (.seq (.sreg Je Ck)
 (.cond (tm 15) (.seq (.sreg Jd [])
 .ret)
 .skip))))
 (.sreg Jc Cj)))))))
 (.seq (.sreg Jb [])
 .ret))),[(.tmp 4)]⟩
attribute [push_cast] Ji Jh Jg Jf Je Jd Jc Jb
theorem Rs:aX Tryz.prog (fun _ _=>1) 32=some HP.raw:=by kernel_rfl
def Ja:LSO:=[Ak 4]
def I9:LSO:=[Ak 5]
def I8:LSO:=[Ag 6]
def I7:LSO:=[Aa 9 0,Ah 10 9,Ab 11 0]
def I6:LSO:=[Ai 12 11 10]
def I5:LSO:=[Aj 13 1 9 11,Ac 14 1 13,Aa 8 14]
def I4:LSO:=[Aa 15 8,Aa 16 1,A7 17 15 16]
def I3:LSO:=[Aa 18 0,Aa 4 18]
def I2:LSO:=[Aa 19 6,Aw 20 19,Aa 21 20,.grp none 21 true
 [Ae 22 21 1,Ae 23 21 8,Cd 24 21 22 23]
 25 (tm 24)]
def I1:LSO:=[Aa 26 5,Aa 27 1,AE 28 27,AO 29 26 28,Aa 5 29]
def EK:LSO:=[A0 6]
def EJ:LSO:=[Aa 30 5,Aa 31 8,AE 32 31,AO 33 30 32,Aa 5 33]
def EI:LSO:=[Af 34 11 1,Aa 11 34]
def EH:LSO:=[Aa 35 6,Aw 36 35]
def EG:LSO:=[Aa 37 5,Aa 38 1,AE 39 38,AO 40 37 39,Aa 5 40]
def EF:LSO:=[Aa 41 5,Aa 4 41]
def HO:aV:=⟨42,(.seq (.sreg Ja [])
 (.seq (.sreg I9 [])
 (.seq (.sreg I8 [])
 (.seq (.seq (.sreg I7 [])
 (.block 0 (.loop (.seq (.sreg I6 [])
 (.seq (.cond (tm 12) .skip
 (.exit 0))
 (.seq (.block 1 (.seq (.sreg I5 Ck)
 (.seq (.seq (.sreg I4 Ck)
 (.cond (tm 17) (.seq (.sreg I3 Cj)
 .ret)
 .skip))
 (.seq (.seq (.sreg I2 Cl)
 (.cond (tm 25) (.seq (.sreg I1 Cm)
 (.sreg EK []))
 .skip))
 (.sreg EJ Cm)))))
 (.sreg EI Cj)))))))
 (.seq (.seq (.sreg EH Cj)
 (.cond (tm 36) (.sreg EG Cm)
 .skip))
 (.seq (.sreg EF Cj)
 .ret)))))),[(.tmp 4)]⟩
attribute [push_cast] Ja I9 I8 I7 I6 I5 I4 I3 I2 I1 EK EJ EI EH EG EF
theorem Rr:aX Tryz.prog (fun _ _=>1) 56=some HO.raw:=by kernel_rfl
def wF:LSO:=[Az 2 0,Ak 4,Ak 5]
def wD:LSO:=[Ak 6,Ak 7,Ak 8]
def wC:LSO:=[Aa 20 1,Ah 21 20,Ab 22 0]
def wB:LSO:=[Ai 23 22 21]
def wA:LSO:=[Aj 24 1 20 22,Ac 25 1 24,Aa 10 25]
def wz:LSO:=[An 26 2 2,Aa 27 10,Am 28 55 26 27,Ah 29 28,Ab 30 0]
def wy:LSO:=[Ai 31 30 29]
def ww:LSO:=[Aj 32 1 28 30,Ac 33 1 32,Aa 12 33]
def wu:List (ak×Kd) :=
 [A5 34 1 2,A8 35 1 34 0 1,A5 36 1 2,A8 37 1 36 0 1,Ay 38 12,BP 39 54 37 38 0 1,od 40 (.iaddr 5 (tm 35) (tm 39)) (.read 0 1),BA 41 5 40 0 1,
 od 13 (.alloc [(.str []),(.str []),(.int .i64 0),(.sl [] 0 (some 0)),(.sl [] 0 (some 0))]) .eff]
def qt:List ak :=
 [⟨none,(.store 5 (tm 13) (tm 41)),none⟩]
def wt:LSO:=[Ad 42 3 13,Ac 43 1 42,Ah 44 43,Ab 45 0]
def qL:LSO:=[Ai 46 45 44]
def qK:LSO:=[Aj 47 1 43 45,Ac 48 1 47,Aa 15 48]
def qJ:LSO:=[Aa 49 6,Aa 50 15,Ao 51 33 50,Am 52 56 49 51,Aa 6 52]
def qI:LSO:=[Af 53 45 1,Aa 45 53]
def qH:LSO:=[Ad 54 4 13,Ac 55 1 54,Ah 56 55,Ab 57 0]
def qG:LSO:=[Ai 58 57 56]
def qF:LSO:=[Aj 59 1 55 57,Ac 60 1 59,Aa 17 60]
def qE:LSO:=[Aa 61 7,Aa 62 17,Ao 63 33 62,Am 64 56 61 63,Aa 7 64]
def qD:LSO:=[Af 65 57 1,Aa 57 65]
def qC:LSO:=[Af 66 30 1,Aa 30 66]
def qB:LSO:=[Af 67 22 1,Aa 22 67]
def qA:LSO:=[Aa 68 7,Ah 69 68,Ab 70 0]
def qz:LSO:=[Ai 71 70 69]
def qy:LSO:=[Aj 72 1 68 70,Ac 73 1 72,Aa 19 73]
def qx:LSO:=[Aa 74 6,Aa 75 19,Am 76 32 74 75,Aw 77 76]
def qw:LSO:=[Aa 78 8,Aa 79 19,AE 80 79,AO 81 78 80,Aa 8 81]
def qv:LSO:=[Af 82 70 1,Aa 70 82]
def qu:LSO:=[Aa 83 6,Aa 84 8,Aa 4 83,Aa 5 84]
def oT:aV:=⟨85,(.seq (.sreg wF [])
 (.seq (.sreg wD [])
 (.seq (.seq (.sreg wC [])
 (.block 0 (.loop (.seq (.sreg wB [])
 (.seq (.cond (tm 23) .skip
 (.exit 0))
 (.seq (.block 1 (.seq (.sreg wA Ck)
 (.seq (.sreg wz C7)
 (.block 2 (.loop (.seq (.sreg wy [])
 (.seq (.cond (tm 31) .skip
 (.exit 2))
 (.seq (.block 3 (.seq (.sreg ww Ck)
 (.seq (.dregM wu qt Cx)
 (.seq (.seq (.sreg wt Cz)
 (.block 4 (.loop (.seq (.sreg qL [])
 (.seq (.cond (tm 46) .skip
 (.exit 4))
 (.seq (.block 5 (.seq (.sreg qK Ck)
 (.sreg qJ Cm)))
 (.sreg qI Cj)))))))
 (.seq (.sreg qH Cz)
 (.block 6 (.loop (.seq (.sreg qG [])
 (.seq (.cond (tm 58) .skip
 (.exit 6))
 (.seq (.block 7 (.seq (.sreg qF Ck)
 (.sreg qE Cm)))
 (.sreg qD Cj)))))))))))
 (.sreg qC Cj)))))))))
 (.sreg qB Cj)))))))
 (.seq (.seq (.sreg qA [])
 (.block 8 (.loop (.seq (.sreg qz [])
 (.seq (.cond (tm 71) .skip
 (.exit 8))
 (.seq (.block 9 (.seq (.sreg qy Ck)
 (.seq (.sreg qx Cl)
 (.cond (tm 77) (.sreg qw Cm)
 .skip))))
 (.sreg qv Cj)))))))
 (.seq (.sreg qu Cw)
 .ret))))),[(.tmp 4),(.tmp 5)]⟩
attribute [push_cast] wF wD wC wB wA wz wy ww wu qt wt qL qK qJ qI qH qG qF qE qD qC qB qA qz qy qx qw qv qu
theorem Ox:aX Tryz.prog (fun _ _=>1) 31=some oT.raw:=by kernel_rfl
def EV:LSO:=[Az 2 0,Aq 4,Ag 5]
def EU:LSO:=[Aq 6]
def ET:LSO:=[Aa 14 1,Ah 15 14,Ab 16 0]
def ES:LSO:=[Ai 17 16 15]
def ER:LSO:=[Aj 18 1 14 16,Ac 19 1 18,Aa 8 19]
def EP:LSO:=[Ad 20 1 2,Ac 21 1 20,Aa 22 8,Am 23 54 21 22,Aa 9 23]
def EO:LSO:=[Aa 24 9,AA 25 24 0]
def EN:LSO:=[Aq 4,Ag 5]
def EM:LSO:=[Ad 26 1 2,Ac 27 1 26,Aa 28 9,Aj 29 5 27 28,Ad 30 2 29,Ac 31 1 30,Au 32 31 1,Aa 10 32]
def EL:LSO:=[Aa 33 1,Ah 34 33,Ab 35 0]
def wP:LSO:=[Ai 36 35 34]
def wO:LSO:=[Aj 37 1 33 35,Ac 38 1 37,Aa 12 38]
def wN:LSO:=[Ad 39 1 2,Ac 40 1 39,Aa 41 12,Am 42 54 40 41,Aa 13 42]
def wM:LSO:=[Aa 43 13,AM 44 43 0,Aa 45 44,.grp none 45 true
 [A4 46 45 1 2,A3 47 45 1 46,Ae 48 45 13,AU 49 45 5 47 48,A4 50 45 2 49,A3 51 45 1 50,AL 52 45 51 1]
 53 (tm 52)]
def wL:LSO:=[Aa 54 10,Aa 55 54,.grp none 55 true
 [AX 56 55 2 2,Ae 57 55 8,Bm 58 55 55 56 57,A4 59 55 1 2,A3 60 55 1 59,Ae 61 55 13,AU 62 55 5 60 61,A4 63 55 0 62,A3 64 55 1 63,Bm 65 55 32 58 64]
 66 (tm 65),Aa 10 66]
def wK:LSO:=[Af 67 35 1,Aa 35 67]
def wJ:LSO:=[Aa 68 10]
def wI:LSO:=[Ad 69 1 2,Ac 70 1 69,Aa 71 9,Aj 72 5 70 71,Ad 73 0 72,Ac 74 1 73,Aa 6 74]
def wH:LSO:=[Af 75 16 1,Aa 16 75]
def wG:LSO:=[Aa 76 6,Aa 77 6,BI 78 77,Aa 4 76,Aa 5 78]
def uH:aV:=⟨79,(.seq (.sreg EV [])
 (.seq (.sreg EU [])
 (.seq (.seq (.sreg ET [])
 (.block 0 (.loop (.seq (.sreg ES [])
 (.seq (.cond (tm 17) .skip
 (.exit 0))
 (.seq (.block 1 (.seq (.sreg ER Ck)
 (.seq (.sreg EP Cm)
 (.seq (.seq (.sreg EO Cj)
 (.cond (tm 25) (.seq (.sreg EN [])
 .ret)
 .skip))
 (.seq (.sreg EM Cr)
 (.seq (.seq (.sreg EL [])
 (.block 2 (.loop (.seq (.sreg wP [])
 (.seq (.cond (tm 36) .skip
 (.exit 2))
 (.seq (.block 3 (.seq (.sreg wO Ck)
 (.seq (.sreg wN Cm)
 (.seq (.sreg wM Cl)
 (.cond (tm 53) (.sdreg wL [.pure,.pure,(.read 0 0),.pure,(.read 0 0),.pure,(.read 0 0),.pure,(.read 0 0),.pure,(.read 0 0)] Cl)
 .skip)))))
 (.sreg wK Cj)))))))
 (.seq (.sreg wJ [])
 (.cond (tm 68) (.sreg wI Cq)
 .skip))))))))
 (.sreg wH Cj)))))))
 (.seq (.sreg wG Ct)
 .ret)))),[(.tmp 4),(.tmp 5)]⟩
attribute [push_cast] EV EU ET ES ER EP EO EN EM EL wP wO wN wM wL wK wJ wI wH wG
theorem PL:aX Tryz.prog (fun _ _=>1) 30=some uH.raw:=by kernel_rfl
attribute [push_cast] gE bS mI kU cD dj oV HP oT uH
variable {L:List Blk} {K:aef}
set_option maxHeartbeats 8000000
set_option maxRecDepth 100000
theorem Vc {xs:List (List UInt8)} {cap:Option Nat} (hn:xs.length<=2000000) (h:K (.sl (xs.map AV.str) xs.length none) L) :
  aee 46 [.sl (xs.map AV.str) xs.length cap] L K:=by
 replace h:=hid h;by_cases h0:xs=[]
 ·subst h0;refine af bR (by simp [aU]) ?_;simp only [aU,aq]
  repeat' first
   | refine aY ?_
   | (first|refine aO (by kernel_rfl) ?_|refine aA (by kernel_rfl) ?_|refine aB ?_|refine bw ?_|refine a6 (fun _=>?_)|refine ax ?_|refine aR ?_)
     refine sm ?_
   | (first|refine aK (by kernel_rfl) ?_|refine aP ?_|refine H5 ?_|refine aQ ?_|refine bd (aw ?_))
     refine sl ?_
   | exact a7
   | first|apply a8|apply aL|apply ba|apply aM|apply bc|apply aN
   | refine aE ?_
   | refine H4 ?_
   | first|refine aC rfl ?_|refine aD rfl ?_|refine ap rfl ?_ ?_|refine aG rfl (fun _=>?_) (fun _=>?_)|refine aF rfl (fun _=>?_) (fun _=>?_)
   | ((first|refine ao (fun _=>?_) (fun _=>?_)|refine au (fun _=>?_) (fun _=>?_))<;>try refine sm ?_)
   | refine And.intro trivial ?_
   | refine And.intro (by omega) ?_
   | refine aI rfl (fun _=>?_) (fun _=>?_)
   | refine And.intro ?_ ?_
  all_goals
   refine aZ ?_;rw [show (AV.sl [] 0 (some 0)).frz=.sl (([]:List (List UInt8)).map AV.str) ([]:List (List UInt8)).length none from rfl];exact ac h.out
 ·have h1:¬ xs.length=0:=fun c=>h0 (ae3.1 c)
  have h2:(xs.map AV.str).all AV.one=true:=by rw [ael];intro a ha;obtain ⟨r,_,rfl⟩:=aey.1 ha;rfl
  refine aed bR ?_;refine N2 (i:=L.length) (l:=xs.map AV.str) (by simp) ?_;rw [show (AV.lsl L.length 0 xs.length none 1).snap L.length (xs.map AV.str)=.sl (xs.map AV.str) xs.length none from by simp [AV.snap,aeV],show (L++[Blk.cells (xs.map AV.str)]).set L.length .dead=L++[.dead] by simp];exact ab (by simp only [AV.refs];exact bV _ _) h.out
structure ue (cs:List Cls):Prop where
 d:jB cs
 l:cs.length<=40
 r:∀ c∈cs,am c.1/\am c.2.1/\c.2.2.2.1.length<=2000000/\c.2.2.2.2.length<=2000000/\(∀ v∈c.2.2.2.1,am v)/\∀ v∈c.2.2.2.2,am v
theorem aam {c:Cls} {n:List UInt8} {p:Nat} (ha:am c.1) (hn:am n) {L:List Blk} (hp:L[p]?=some (.cells [.str n])) {K:aef} (h:K (.bool (decide (aa c.1=aa n))) L) :
  aee 72 [.agg (clC c),.ptr p 0] L K:=by
 replace h:=hid h;have hp2:∀ X:List Blk,(L++X)[p]?=some (.cells [.str n]):=fun X=>by
  rw [aem (aeh.1 hp).1];exact hp
 refine af oO (by simp [gc]) ?_;simp only [gc,aq];have kk1:=@hid _ (fun L K=>ZI ha hn (L:=L) (K:=K));refine wk ?_;exact ab rfl h.out
theorem acX {f:FuncId} {caps:List AV} {ts:List Cls} {cap:Option Nat} {q:Cls->Bool} {L:List Blk} (hn:ts.length<=2000000) (hf:∀ (ty:Cls) (K:AV->List Blk->Prop),ty∈ts->K (.bool (q ty)) L->aee f (.agg (clC ty)::caps) L K)
  {K:aef} (h1:(∀ ty∈ts,q ty=false)->K (.int .i64 (-1)) L) (h2:∀ k:Nat,k<ts.length->(∀ j,j<k->q (ts.getD j cC)=false)->q (ts.getD k cC)=true->K (.int .i64 k) L) :
  aee 71 [.sl (bE ts) ts.length cap,.func f caps] L K:=by
 replace hf:=hid hf;replace h1:=hid h1;replace h2:=hid h2;refine aed fX ?_;refine ai (fun n T' L'=>∃ k:Nat,n=ts.length - k/\k<=ts.length/\T'=[(8,.int .i64 (k:Int)),(7,.int .i64 ts.length),(0,.sl (bE ts) ts.length cap),(1,.func f caps)]/\L=L' /\
  ∀ j,j<k->q (ts.getD j cC)=false) (CutS (b:=aeg _)) ⟨0,rfl,aej _,rfl,rfl,by simp⟩ ?_
 rintro _ _ L' ⟨k,rfl,hk,rfl,e,hr⟩;subst e;replace hr:=hid hr;by_cases hlt:k<ts.length
 ·have g1:(k:Int)<(ts.length:Int):=by omega
  have g2:=aec k (by omega);have e4:k * 5+5<=(bE ts).length:=by rw [kK];omega
  have e3:=Il hlt;obtain ⟨ty,hty⟩:=aea (ts.getD k cC);have hm:ty∈ts:=by rw [<- hty];simp [hlt]
  rw [hty] at e3;replace hty:=hid hty;rcases hqk:q ty with _|_
  ·have kk1:Hid (∀ {K:aef},K (.bool false) L->aee f (.agg (clC ty)::caps) L K):=hid fun a=>hf.out ty _ hm (by rw [hqk];exact a)
   replace hqk:=hid hqk;simp only [clC] at kk1 e3;refine wk ?_;refine ag _ _ _ (by omega) (CutL (b:=by simp)) ⟨k+1,rfl,hlt,rfl,rfl,fun j hj=>?_⟩;rcases aer j k with h|h
   ·exact hr.out j h
   ·have:j=k:=by omega
    subst this;rw [hty.out];exact hqk.out
  ·have kk1:Hid (∀ {K:aef},K (.bool true) L->aee f (.agg (clC ty)::caps) L K):=hid fun a=>hf.out ty _ hm (by rw [hqk];exact a)
   replace hqk:=hid hqk;simp only [clC] at kk1 e3;refine wk ?_;exact ac (h2.out k hlt hr.out (by rw [hty.out];exact hqk.out))
 ·have g1:¬ (k:Int)<(ts.length:Int):=by omega
  refine wk ?_;refine ac (h1.out fun ty hty=>?_);obtain ⟨j,hj,e⟩:=aeU.1 hty;have:=hr.out j (by omega);simpa [hj,e] using this
def KZ (o:Option Cls):AV:=.tup [.agg (clC (o.getD cC)),.bool o.isSome]
theorem TO {cs:List Cls} {capC:Option Nat} {t2:List AV} {n2:Nat} {cap2:Option Nat} {n:List UInt8} (hc:ue cs) (hn:am n) (h:K (KZ (fH cs n)) L) :
  aee 47 [.agg [.sl t2 n2 cap2,.sl (bE cs) cs.length capC],.str n] L K:=by
 replace h:=hid h;refine aed uC ?_;refine acX (q:=fun t=>decide (aa t.1=aa n)) (by have:=hc.l;omega) (fun ty K hm hk=>?_) (fun hno=>?_) (fun k hk hp hq=>?_)
 ·exact aam (hc.r ty hm).1 hn (by simp) hk
 ·have e:fH cs n=none:=agL.2 fun t ht=>by simpa using hno t ht
  rw [e] at h;simp only [KZ,afV,aga,clC] at h;refine sk ?_;refine wk ?_;exact aZ (ab rfl h.out)
 ·have e:fH cs n=some (cs.getD k cC):=gP (d:=cC) hk hp hq;have e4:k * 5+5<=(bE cs).length:=by rw [kK];omega
  have e3:=Il hk;have g1:¬ (k:Int)<0:=by omega
  have g2:(k:Int)<(cs.length:Int):=by omega
  obtain ⟨c,hcc⟩:=aea (cs.getD k cC);have hcr:=hc.r c (by rw [<- hcc];simp [hk]);rw [hcc] at e e3;rw [e] at h;obtain ⟨c1,c2,c3,c4,c5⟩:=c;simp only [KZ,aeP,age,clC,iI] at h e3;have kk1:Hid (∀ {c:Option Nat} {L:List Blk} {K:aef},K (.sl (c4.map AV.str) c4.length none) L->aee 46 [.sl (c4.map AV.str) c4.length c] L K):=@hid _ (by intro c L K q;exact Vc hcr.2.2.1 q);have kk2:Hid (∀ {c:Option Nat} {L:List Blk} {K:aef},K (.sl (c5.map AV.str) c5.length none) L->aee 46 [.sl (c5.map AV.str) c5.length c] L K):=@hid _ (by intro c L K q;exact Vc hcr.2.2.2.1 q);clear hp hq hcc e hcr;refine sk ?_;refine wk ?_;refine ab ?_ h.out;simp only [AV.refs,AV.refsL,bV,afD,afW]
theorem DI {l:List (List UInt8)} {k:Nat} (h:k<l.length):(l.map AV.str).getD k .undef=.str (l.getD k []):=by
 rw [aew,aew];simp [h]
theorem abF {xs:List (List UInt8)} {cap:Option Nat} {s:List UInt8} (hn:xs.length<=1000000000000) (h1:s ∉ xs->K (.int .i64 (-1)) L) (h2:s∈xs->∀ k:Nat,K (.int .i64 k) L) :
  aee 50 [.sl (xs.map AV.str) xs.length cap,.str s] L K:=by
 replace h1:=hid h1;replace h2:=hid h2;have hg:=hid (fun k (q:k<xs.length)=>DI q);have hl:(xs.map AV.str).length=xs.length:=by simp
 obtain ⟨X,hX⟩:=aea (xs.map AV.str);rw [hX] at hg hl ⊢;clear hX;refine aed iJ ?_;refine ai (fun n T' L'=>∃ k:Nat,n=xs.length - k/\k<=xs.length/\T'=[(8,.int .i64 (k:Int)),(7,.int .i64 xs.length),(0,.sl X xs.length cap),(1,.str s)]/\L=L'/\Hid (∀ j,j<k->xs.getD j []≠s)) (CutS (b:=aeg _)) ⟨0,rfl,aej _,rfl,rfl,hid (by simp)⟩ ?_;rintro _ _ L' ⟨k,rfl,hk,rfl,e,hr⟩;subst e;by_cases hlt:k<xs.length
 ·have g1:(k:Int)<(xs.length:Int):=by omega
  have g2:=aec k (by omega);have e3:=hg.out k hlt;have e4:k<X.length:=by omega
  obtain ⟨x,hx⟩:=aea (xs.getD k []);rw [hx] at e3;by_cases hq:s=x
  ·have h2':=hid (h2.out (by rw [hq,<- hx];simp [hlt]));replace hx:=hid hx;subst hq;clear h1 h2;refine wk ?_;exact ac (h2'.out k)
  ·have hr2:Hid (∀ j,j<k+1->xs.getD j []≠s):=hid (fun j hj=>by
    rcases aer j k with h|h
    ·exact hr.out j h
    ·have:j=k:=by omega
     subst this;rw [hx];exact fun e=>hq e.symm)
   clear hx hr;refine wk ?_;exact ag _ _ _ (by omega) (CutL (b:=by simp)) ⟨k+1,rfl,hlt,rfl,rfl,hr2⟩
 ·have g1:¬ (k:Int)<(xs.length:Int):=by omega
  have h1':=hid (h1.out (fun hs=>by
   obtain ⟨j,hj,e⟩:=aeU.1 hs;exact hr.out j (by omega) (by simp [hj,e])))
  clear h1 h2 hr;refine wk ?_;exact ac h1'.out
theorem Ln {xs:List (List UInt8)} {cap:Option Nat} {s:List UInt8} (hn:xs.length<=1000000000000) (h:K (.bool (xs.contains s)) L) :
  aee 26 [.sl (xs.map AV.str) xs.length cap,.str s] L K:=by
 replace h:=hid h;refine aed gQ ?_;refine abF hn (fun hs=>?_) (fun hs k=>?_)
 ·have e:xs.contains s=false:=by simpa using hs
  rw [e] at h;refine sk ?_;refine wk ?_;exact ac h.out
 ·have e:xs.contains s=true:=by simpa using hs
  rw [e] at h;have g:(0:Int)<=(k:Int):=by omega
  refine sk ?_;refine wk ?_;exact ac h.out
theorem Qa {xs:List (List UInt8)} {cap:Option Nat} {s:List UInt8} (hn:xs.length<=1000000000000) (h:K (.bool (xs.contains s)) L) :
  aee 32 [.sl (xs.map AV.str) xs.length cap,.str s] L K:=by
 replace h:=hid h;have hg:=hid (fun k (q:k<xs.length)=>DI q);have hl:(xs.map AV.str).length=xs.length:=by simp
 obtain ⟨X,hX⟩:=aea (xs.map AV.str);rw [hX] at hg hl ⊢;clear hX;refine aed Rs ?_;refine ai (fun n T' L'=>∃ k:Nat,n=xs.length - k/\k<=xs.length/\T'=[(9,.int .i64 (k:Int)),(8,.int .i64 xs.length),(7,.sl X xs.length cap),(1,.str s)]/\L=L'/\Hid (∀ j,j<k->xs.getD j []≠s)) (CutS (b:=aeg _)) ⟨0,rfl,aej _,rfl,rfl,hid (by simp)⟩ ?_;rintro _ _ L' ⟨k,rfl,hk,rfl,e,hr⟩;subst e;by_cases hlt:k<xs.length
 ·have g1:(k:Int)<(xs.length:Int):=by omega
  have g2:=aec k (by omega);have e3:=hg.out k hlt;have e4:k<X.length:=by omega
  obtain ⟨x,hx⟩:=aea (xs.getD k []);rw [hx] at e3;by_cases hq:x=s
  ·have e:xs.contains s=true:=by
    rw [afw,<- hq,<- hx];simp [hlt]
   rw [e] at h;replace hx:=hid hx;subst hq;clear e;refine wk ?_;exact ac h.out
  ·have hr2:Hid (∀ j,j<k+1->xs.getD j []≠s):=hid (fun j hj=>by
    rcases aer j k with h|h
    ·exact hr.out j h
    ·have:j=k:=by omega
     subst this;rw [hx];exact hq)
   clear hx hr;refine wk ?_;exact ag _ _ _ (by omega) (CutL (b:=by simp)) ⟨k+1,rfl,hlt,rfl,rfl,hr2⟩
 ·have g1:¬ (k:Int)<(xs.length:Int):=by omega
  have e:xs.contains s=false:=by
   simp only [afj,decide_eq_false_iff_not];intro hs;obtain ⟨j,hj,e⟩:=aeU.1 hs;exact hr.out j (by omega) (by simp [hj,e])
  rw [e] at h;clear hr e;refine wk ?_;exact ac h.out
def chN (cs:List Cls) (n:List UInt8):List (List UInt8):=(mH cs n).map (·.1)
theorem W8 {cs:List Cls} {capC:Option Nat} {t2:List AV} {n2:Nat} {cap2:Option Nat} {n:List UInt8} (hc:ue cs) (hn:am n) (h:K (.sl ((chN cs n).map AV.str) (chN cs n).length none) L) :
  aee 48 [.agg [.sl t2 n2 cap2,.sl (bE cs) cs.length capC],.str n] L K:=by
 obtain ⟨S,hS⟩:=aea (AV.sl t2 n2 cap2);have kC:Hid (∀ (m:List UInt8),am m->∀ {L:List Blk} {K:aef},K (KZ (fH cs m)) L->aee 47 [.agg [S,.sl (bE cs) cs.length capC],.str m] L K):=hid (by intro m hm L K q;rw [<- hS];exact TO hc hm q);rw [hS];obtain ⟨C2,hC2⟩:=aea (bE cs);rw [hC2] at kC ⊢;have hlc:=hc.l;have hcn:=hid (abS hc.d (f:=cs.length+1) (by omega) n);obtain ⟨o,ho⟩:=aea (fH cs n);have kk1:Hid (Ctr Tryz.prog 47 [.agg [S,.sl C2 cs.length capC],.str n] (KZ o)):=@hid _ (by intro L K q;exact kC.out n hn (by rw [ho];exact q));have hso:S.one=true:=by rw [<- hS];rfl
 unfold KZ at kk1;obtain ⟨c,hcc⟩:=aea (o.getD cC);obtain ⟨b,hb⟩:=aea (o.isSome);rw [hcc,hb] at kk1;obtain ⟨c1,c2,c3,c4,c5⟩:=c;simp only [clC,iI] at kk1;replace h:=hid h;replace hcc:=hid hcc;replace hb:=hid hb;replace ho:=hid ho;clear hS hC2;refine af NR (by simp [mJ]) ?_;simp only [mJ,aq]
 iterate 6 first
  | refine aY ?_
  | (first|refine aO (by kernel_rfl) ?_|refine aA (by kernel_rfl) ?_|refine aB ?_|refine bw ?_|refine a6 (fun _=>?_)|refine ax ?_|refine aR ?_)
    simp (config:={ maxSteps:=2000000 }) only [Kon,push_cast,reduceIte,Nat.reduceEqDiff,Nat.reduceAdd,Nat.reduceMul,Nat.reduceSub,Nat.reduceLT,Nat.reduceLeDiff,Int.reduceLT,Int.reduceLE,Int.reduceAdd,Int.reduceSub,Int.reduceNeg,Int.reduceToNat,Int.reduceEq,reduceCtorEq, *]
  | (first|refine aK (by kernel_rfl) ?_|refine aP ?_|refine H5 ?_|refine aQ ?_|refine bd (aw ?_))
    simp only [push_cast,reduceIte,Nat.reduceEqDiff,Nat.reduceAdd,Nat.reduceMul,Nat.reduceSub,Nat.reduceLT,Nat.reduceLeDiff,Int.reduceLT,Int.reduceLE,Int.reduceAdd,Int.reduceSub,Int.reduceNeg,Int.reduceToNat,Int.reduceEq,reduceCtorEq, *]
  | exact a7
  | first|apply a8|apply aL|apply ba|apply aM|apply bc|apply aN
  | refine aE ?_
  | refine H4 ?_
  | first|refine aC rfl ?_|refine aD rfl ?_|refine ap rfl ?_ ?_|refine aG rfl (fun _=>?_) (fun _=>?_)|refine aF rfl (fun _=>?_) (fun _=>?_)
  | ((first|refine ao (fun _=>?_) (fun _=>?_)|refine au (fun _=>?_) (fun _=>?_))<;>try simp (config:={ maxSteps:=2000000 }) only [Kon,push_cast,reduceIte,Nat.reduceEqDiff,Nat.reduceAdd,Nat.reduceMul,Nat.reduceSub,Nat.reduceLT,Nat.reduceLeDiff,Int.reduceLT,Int.reduceLE,Int.reduceAdd,Int.reduceSub,Int.reduceNeg,Int.reduceToNat,Int.reduceEq,reduceCtorEq, *])
  | refine And.intro trivial ?_
  | refine And.intro (by omega) ?_
  | refine aI rfl (fun _=>?_) (fun _=>?_)
  | refine And.intro ?_ ?_
 refine cz (l:=[]) (n:=0) 5 1 rfl (aeX 1).symm ?_;refine wk ?_;have hI0:Hid (∃ w:List (List UInt8),([]:List AV)=w.map AV.str/\w.length=0/\w++(chM cs (cs.length+1) n).map (·.1)=chN cs n):=hid ⟨[],rfl,rfl,by rw [hcn.out];rfl⟩;have hJ0:Hid (∃ o,fH cs n=o/\o.getD cC=(c1,c2,c3,c4,c5)/\o.isSome=b):=hid ⟨o,ho.out,hcc.out,hb.out⟩;clear kk1 hcn ho hcc hb;refine ai (fun z T' L'=>∃ (j:Nat) (m:List UInt8) (Cn:List AV) (X:List Blk) (c1 c2:List UInt8) (c3:Int) (c4 c5:List (List UInt8)) (b:Bool),j+z=cs.length+1/\Hid (∃ w:List (List UInt8),Cn=w.map AV.str/\w.length=j/\w++(chM cs z m).map (·.1)=chN cs n)/\Hid (∃ o,fH cs m=o/\o.getD cC=(c1,c2,c3,c4,c5)/\o.isSome=b)/\T'=[(7,.bool b),(6,.ptr (L.length+(X.length+2)) 0),(5,.gsl Cn j (L.length+1) 1),(2,.ptr L.length 0)]/\L'=L++(.cells [S,.sl C2 cs.length capC] :: .spare j 1::(X++[.cells [.str c1,.str c2,.int .i64 c3,.sl (c4.map AV.str) c4.length none,.sl (c5.map AV.str) c5.length none]]))) (CutL (b:=by simp)) ⟨0,n,[],[],c1,c2,c3,c4,c5,b,by omega,hI0,hJ0,rfl,by simp⟩ ?_;clear hI0 hJ0;rintro z _ _ ⟨j,m,Cn,X,c1,c2,c3,c4,c5,b,hz,hI,hJ,rfl,rfl⟩;have hbx:∀ k:Blk,(L++(.cells [S,.sl C2 cs.length capC] :: .spare j 1::(X++[k])))[L.length+(X.length+2)]?=some k:=fun k=>by
  rw [aes (by omega),show L.length+(X.length+2) - L.length=X.length+1+1 by omega,aeN,aeN,aes (aeg _)];simp
 have hbx2:∀ k:Blk,(L++(.cells [S,.sl C2 cs.length capC] :: .spare (j+1) 1::(X++[k])))[L.length+(X.length+2)]?=some k:=fun k=>by
  rw [aes (by omega),show L.length+(X.length+2) - L.length=X.length+1+1 by omega,aeN,aeN,aes (aeg _)];simp
 have hend:∀ (X:List Blk),(chM cs z m).map (·.1)=[]->Fin L (AV.gsl Cn j (L.length+1) 1) (L++X) K:=fun X e=>by
  obtain ⟨w,h1,h2,h3⟩:=hI.out;rw [e,aeJ] at h3;refine aZ ?_;rw [h1,<- h2,h3];simp only [AV.frz,cy];refine ab ?_ h.out;simp only [AV.refs,bV]
 cases b with
 | false =>
   have he:(chM cs z m).map (·.1)=[]:=by
    obtain ⟨o,h1,_,h3⟩:=hJ.out;rcases o with _|o
    ·cases z with
     | zero=>rfl
     | succ z=>rw [chM,h1];rfl
    ·cases h3
   have hf:=hid fun X=>hend X he
   clear hend hI hJ he;refine wk ?_;exact hf.out _
 | true =>
 cases z with
 | zero =>
   have hf:=hid fun X=>hend X rfl
   have g1:¬ (j:Int)<=(cs.length:Int):=by omega
   clear hend hI hJ;refine wk ?_;exact hf.out _
 | succ z =>
 have g1:(j:Int)<=(cs.length:Int):=by omega
 obtain ⟨o,ho,hoc,hob⟩:=hJ.out;obtain ⟨d,rfl⟩:=ag4.1 hob;simp only [aeP] at hoc;subst hoc;clear hend hJ;obtain ⟨w,hw1,hw2,hw3⟩:=hI.out;rw [chM,ho] at hw3;simp only at hw3;have hsz:j * 16+16<=140737488355328:=by omega
 have hcr:=hc.r _ (tZ ho).1;clear hI ho hob;by_cases h2:c2=[]
 ·subst h2;rw [if_pos rfl] at hw3;have hf:=hid (show Fin L (AV.gsl (Cn++[.str c1]) (j+1) (L.length+1) 1) (L++(.cells [S,.sl C2 cs.length capC] :: .spare (j+1) 1::(X++[.cells [.str c1,.str [],.int .i64 c3,.sl (c4.map AV.str) c4.length none,.sl (c5.map AV.str) c5.length none]]))) K by
   refine aZ ?_;have e1:Cn++[.str c1]=(chN cs n).map AV.str:=by rw [<- hw3,hw1];simp
   have e2:j+1=(chN cs n).length:=by rw [<- hw3];simp [hw2]
   rw [e1];simp only [AV.frz,cy];rw [e2];refine ab ?_ h.out;simp only [AV.refs,bV])
  clear hw1 hw2 hw3 kC;refine wk ?_;exact hf.out
 ·rw [if_neg h2] at hw3;have hI2:Hid (∃ w:List (List UInt8),Cn++[.str c1]=w.map AV.str/\w.length=j+1/\w++(chM cs z c2).map (·.1)=chN cs n):=hid ⟨w++[c1],by rw [hw1];simp,by simp [hw2],by rw [<- hw3];simp⟩;obtain ⟨o2,ho2⟩:=aea (fH cs c2);have kk1:Hid (Ctr Tryz.prog 47 [.agg [S,.sl C2 cs.length capC],.str c2] (KZ o2)):=@hid _ (by intro L K q;exact kC.out c2 hcr.2.1 (by rw [ho2];exact q));unfold KZ at kk1;obtain ⟨d,hd⟩:=aea (o2.getD cC);obtain ⟨b2,hb2⟩:=aea (o2.isSome);rw [hd,hb2] at kk1;obtain ⟨d1,d2,d3,d4,d5⟩:=d;simp only [clC,iI] at kk1;have hJ2:Hid (∃ o,fH cs c2=o/\o.getD cC=(d1,d2,d3,d4,d5)/\o.isSome=b2):=hid ⟨o2,ho2,hd,hb2⟩;clear hw1 hw2 hw3 kC hd hb2 ho2 hcr;refine wk ?_;have e6:L.length+(X.length+1+1+1)=L.length+((X++[Blk.cells [.str c1,.str c2,.int .i64 c3,.sl (c4.map AV.str) c4.length none,.sl (c5.map AV.str) c5.length none]]).length+2):=by simp
  rw [e6];exact ag z _ _ (by omega) (CutL (b:=by simp)) ⟨j+1,c2,_,X++[_],d1,d2,d3,d4,d5,b2,by omega,hI2,hJ2,rfl,by simp⟩
end Go.Proofs.YtigifoeopopnbaaGreatDoor.Av
