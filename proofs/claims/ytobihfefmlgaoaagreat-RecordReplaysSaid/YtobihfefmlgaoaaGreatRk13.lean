/- Joined texts of the walk, made small by a program. -/
import Derived.Test.YtobihfefmlgaoaaGreatRk10
import Derived.Test.YtobihfefmlgaoaaGreatRk5
import Derived.Test.YtobihfefmlgaoaaGreatRk7
import Derived.Test.YtobihfefmlgaoaaGreatRk12
import Derived.Test.YtobihfefmlgaoaaGreatRk4
import Derived.Test.YtobihfefmlgaoaaGreatRows
import Derived.KernelRfl
set_option linter.unusedSimpArgs false
set_option linter.unusedVariables false
namespace Go.Proofs.YtobihfefmlgaoaaGreat.Av
open Go
set_option maxHeartbeats 8000000
set_option maxRecDepth 100000
structure Upd where
 kind:Int
 dn:List Rdn
 to:List Rdn
 attrs:List Atr
abbrev yz:Upd:=⟨0,[],[],[]⟩
def Od (l:List Atr):Nd:=.mk 48 [] (l.map rX)
def uu (k:Int) (s t:List UInt8) (l:List Atr):Nd :=
 .mk 48 [] (([.mk 2 [b8 k.toNat] [],bC s]++if k=4 then [bC t] else [])++if k=2 then [] else [Od l])
def wrU (u:Upd):List UInt8×Int :=
 if u.kind<1\/4<u.kind then ([],24) else if (prS u.dn).2≠0 then ([],(prS u.dn).2) else if u.kind=4/\(prS u.to).2≠0 then ([],(prS u.to).2)
 else cM 4 (uu u.kind (prS u.dn).1 (prS u.to).1 u.attrs)
def lD (u:Upd):Upd:=⟨u.kind,u.dn,if u.kind=4 then u.to else [],if u.kind=2 then [] else u.attrs⟩
def iQ (l:List Nd):List (List UInt8):=l.map Nd.data
def yL:List Nd->Option (List Atr)
 | []=>some []
 | a::l=>if a.kids.length≠2 then none else (yL l).map fun r=>((a.kids.getD 0 bd).data,iQ (a.kids.getD 1 bd).kids)::r
def V6 (n:Nd):Option Upd :=
 let l:=n.kids
 if l.length<2\/4<l.length then none else
 match YM (l.getD 0 bd).data with
 | none=>none
 | some k =>
   let p:=fP (l.getD 1 bd).data
   let r:=l.drop 2
   let q:=if k=4/\r≠[] then fP (r.getD 0 bd).data else ([],0)
   let r':=if k=4 then r.drop 1 else r
   if p.2≠0\/q.2≠0\/1<r'.length then none else
   match r' with
   | []=>some ⟨k,p.1,q.1,[]⟩
   | x::_=>(yL x.kids).map fun a=>⟨k,p.1,q.1,a⟩
def rdU (s:List UInt8):Upd×Int:=match uN s with
 | .error e=>(yz,e)
 | .ok n=>match V6 n with
   | none=>(yz,4)
   | some u=>if (wrU u).2≠0\/(wrU u).1≠s then (yz,4) else (lD u,0)
def Rq (a:Nd):Option Atr :=
 if a.tag≠48\/a.kids.length≠2\/(a.kids.getD 0 bd).tag≠4\/(a.kids.getD 1 bd).tag≠49 then none else
 if (a.kids.getD 1 bd).kids.all (fun v=>decide (v.tag=4))=true then some ((a.kids.getD 0 bd).data,iQ (a.kids.getD 1 bd).kids) else none
def mA:List Nd->Option (List Atr)
 | []=>some []
 | a::l=>match Rq a with
   | none=>none
   | some x=>(mA l).map fun r=>x::r
def lJ (n:Nd):Option Upd :=
 let l:=n.kids
 let k:Int:=((l.getD 0 bd).data.getD 0 0).toNat
 if n.tag≠48\/l.length<2\/(l.getD 0 bd).tag≠2\/(l.getD 0 bd).data.length≠1 then none else
 if k<1\/4<k\/l.length≠1+(if k=4 then 2 else 1)+(if k=2 then 0 else 1) then none else
 if (fP (l.getD 1 bd).data).2≠0\/(l.getD 1 bd).tag≠4 then none else
 if k=4/\((fP (l.getD 2 bd).data).2≠0\/(l.getD 2 bd).tag≠4) then none else
 if k=2 then some ⟨k,(fP (l.getD 1 bd).data).1,[],[]⟩ else
 let x:=l.getD (l.length - 1) bd
 if x.tag≠48 then none else
 (mA x.kids).map fun a=>⟨k,(fP (l.getD 1 bd).data).1,if k=4 then (fP (l.getD 2 bd).data).1 else [],a⟩
def V7 (s:List UInt8):Upd×Int:=match uN s with
 | .error e=>(yz,e)
 | .ok n=>match lJ n with
   | none=>(yz,4)
   | some u=>if (wrU u).2≠0\/(wrU u).1≠s then (yz,4) else (u,0)
theorem Wf {d:List Rdn} (h:(prS d).2=0):fP (prS d).1=(d,0):=by
 unfold prS at h ⊢;split at h
 ·rename_i hc;exact absurd h hc
 rename_i hc
 split at h
 ·cases h
 rename_i hl
 split at h
 ·cases h
 rename_i hg
 rw [if_neg hc,if_neg hl,if_neg hg];exact Xn (by simpa using hc) (by omega)
theorem K4 (d:List Rdn):(prS d).1.length<=4096:=by
 unfold prS
 repeat' split
 all_goals first|(simp;done)|(simp only;omega)
theorem aeV (t:UInt8) {n:Nat} (hn:n<=1048576) (rest:List UInt8):rP (t::(rH n++rest))=.ok (n,1+(rH n).length):=by
 unfold rH;split
 ·rename_i h
  simp [rP,zu,show n % 256=n by omega,h]
 split
 ·rename_i h1 h
  have e:kw [b8 n]=n:=by simp only [kw,aiO,List.foldl_nil,zu];omega
  simp [rP,e,show ¬ 1048576<n by omega];rw [if_neg (by omega),if_neg (by omega)]
 split
 ·rename_i h1 h2 h
  have e:kw [b8 (n / 256),b8 n]=n:=by simp only [kw,aiO,List.foldl_nil,zu];omega
  simp [rP,e,show ¬ 1048576<n by omega];rw [if_neg (by omega),if_neg (by omega)]
 ·rename_i h1 h2 h
  have e:kw [b8 (n / 65536),b8 (n / 256),b8 n]=n:=by simp only [kw,aiO,List.foldl_nil,zu];omega
  simp [rP,e,show ¬ 1048576<n by omega];rw [if_neg (by omega),if_neg (by omega)]
theorem Xm {t:Nat} (ht:t<256) (h31:t % 32≠31) {body:List UInt8} (hb:body.length<=1048576) (rest:List UInt8) (f:Nat) :
  gH (f+1) (b8 t::(rH body.length++body)++rest)=if t / 32 % 2=0 then .ok (.mk t body [],rest) else match lh (gH f) body.length body with
   | .error e=>.error e
   | .ok ks=>.ok (.mk t [] ks,rest):=by
 have e1:b8 t::(rH body.length++body)++rest=b8 t::(rH body.length++(body++rest)):=by simp
 have e2:=aeV (b8 t) hb (body++rest);have e3:(b8 t).toNat=t:=by rw [zu];omega
 have e4:((b8 t::(rH body.length++(body++rest))).drop (1+(rH body.length).length))=body++rest:=by
  rw [Nat.add_comm,ajK,List.drop_left]
 have e5:((b8 t::(rH body.length++(body++rest))).drop (1+(rH body.length).length+body.length))=rest:=by
  rw [<- aj3,e4,List.drop_left]
 rw [e1,gH,if_neg (by simp)];simp only [e2,e4,e5,akm,e3,if_neg h31,List.take_left];rw [if_neg (by simp;omega)];rfl
theorem acI {t:Int} {d:List UInt8}:∀ h:Nat,cM h (.mk t d [])=if 1048576<d.length then ([],5) else (b8 t.toNat::(rH d.length++d),0)
 | 0=>rfl
 | h+1=>by rw [cM,if_neg (by simp [iN])];rfl
theorem Xl {t:Int} (ht:t=2\/t=4) {d rest:List UInt8} {h f:Nat} (hp:(cM h (.mk t d [])).2=0):gH (f+1) ((cM h (.mk t d [])).1++rest)=.ok (.mk t d [],rest):=by
 rw [acI] at hp ⊢;split at hp
 ·cases hp
 rename_i hl
 rw [if_neg hl];have:=Xm (t:=t.toNat) (by omega) (by omega) (body:=d) (by omega) rest f;rw [if_pos (by omega)] at this;rw [this]
 congr 3
 omega
theorem Xy {p:Nd->List UInt8×Int} {q:List UInt8->Except Int (Nd×List UInt8)}:∀ (ks:List Nd) (acc:List UInt8),(∀ k∈ks,(p k).2=0->(p k).1≠[]/\∀ rest,q ((p k).1++rest)=.ok (k,rest))->(iN p acc ks).2=0 ->
  ∃ b,(iN p acc ks).1=acc++b/\∀ F,b.length<=F->lh q F b=.ok ks
 | [],acc,_,_=>⟨[],by simp [iN],fun F _=>by cases F<;>rfl⟩
 | n::l,acc,hq,hc=>by
   rw [iN] at hc ⊢;split at hc
   ·rename_i h;exact absurd hc h
   rename_i h0
   have h0':(p n).2=0:=by simpa using h0
   rw [if_neg h0];obtain ⟨b,h1,h2⟩:=Xy l (acc++(p n).1) (fun k hk=>hq k (by simp [hk])) hc;obtain ⟨h3,h4⟩:=hq n (by simp) h0';refine ⟨(p n).1++b,by rw [h1];simp,fun F hF=>?_⟩;have hpos:=ah8.2 h3;rw [ahy] at hF;obtain ⟨F',rfl⟩:∃ F',F=F'+1:=⟨F - 1,by omega⟩;obtain ⟨c,r,hcr⟩:∃ c r,(p n).1++b=c::r:=by
    rcases hh:(p n).1 with _|⟨c,r⟩
    ·exact absurd hh h3
    ·exact ⟨c,r++b,rfl⟩
   have h5:=h4 b;rw [hcr] at h5 ⊢;rw [lh,h5]
   ·simp only [h2 F' (by omega)]
   ·simp
theorem afN {h:Nat} {n:Nd} (hp:(cM h n).2=0):(cM h n).1≠[]:=by
 obtain ⟨t,d,ks⟩:=n;cases h with
 | zero =>
   rw [cM] at hp ⊢;split at hp
   ·cases hp
   ·rename_i e;rw [if_neg e];simp
 | succ h =>
   rw [cM] at hp ⊢;split at hp
   ·rename_i e;exact absurd hp e
   rename_i e;rw [if_neg e]
   split at hp
   ·cases hp
   ·rename_i e;rw [if_neg e];simp
theorem ZU:∀ (h:Nat) (n:Nd) (rest:List UInt8) (f:Nat),okN h n->(cM h n).2=0->h<f->gH f ((cM h n).1++rest)=.ok (n,rest)
 | 0,.mk t d ks,rest,f,ho,hp,hf=>by
   obtain ⟨ht,rfl,_⟩:=ho;obtain ⟨f',rfl⟩:∃ f',f=f'+1:=⟨f - 1,by omega⟩;exact Xl ht hp
 | h+1,.mk t d ks,rest,f,ho,hp,hf=>by
   obtain ⟨f',rfl⟩:∃ f',f=f'+1:=⟨f - 1,by omega⟩;rcases ho with ⟨ht,rfl,_⟩|⟨ht,rfl,_,hk⟩
   ·exact Xl ht hp
   have hc0:(iN (cM h) [] ks).2=0:=by
    rw [cM] at hp;split at hp
    ·rename_i e;exact absurd hp e
    ·rename_i e;simpa using e
   obtain ⟨b,h1,h2⟩:=Xy (p:=cM h) (q:=gH f') ks [] (fun k hk' hp'=>⟨afN hp',fun rest=>ZU h k rest f' (hk k hk') hp' (by omega)⟩) hc0;rw [ah3] at h1;rw [cM,if_neg (by simpa using hc0),h1] at hp ⊢;split at hp
   ·cases hp
   rename_i hl
   rw [if_neg hl];have:=Xm (t:=t.toNat) (by omega) (by omega) (body:=b) (by omega) rest f';rw [if_neg (by omega),h2 _ (ahn _)] at this;simp only at this;rw [show ((t.toNat:Nat):Int)=t by omega] at this;exact this
theorem adX {h:Nat} {n:Nd} (ho:okN h n) (hp:(cM h n).2=0) (hh:h<64):uN (cM h n).1=.ok n:=by
 have:=ZU h n [] 64 ho hp hh;rw [ahO] at this;rw [uN,this];simp
theorem aa3 {k:Int} (h1:1<=k) (h4:k<=4):YM [b8 k.toNat]=some k:=by
 have:k=1\/k=2\/k=3\/k=4:=by omega
 rcases this with rfl|rfl|rfl|rfl<;>decide
theorem abc {k:Int} (h1:1<=k) (h4:k<=4):YV k=[b8 k.toNat]:=by
 have:k=1\/k=2\/k=3\/k=4:=by omega
 rcases this with rfl|rfl|rfl|rfl<;>decide
theorem aa8 {k:Int} (h1:1<=k) (h4:k<=4):((b8 k.toNat).toNat:Int)=k:=by
 rw [zu];omega
theorem aat (l:List (List UInt8)):iQ (l.map bC)=l:=by
 induction l with
 | nil=>rfl
 | cons x l ih=>simp only [iQ,ahH] at ih ⊢;rw [ih];rfl
theorem aaX (a:Atr):Rq (rX a)=some a:=by
 have e:(a.2.map bC).all (fun v=>decide (v.tag=4))=true:=by
  rw [ahC];intro x hx;obtain ⟨y,_,rfl⟩:=ahs.1 hx;rfl
 simp [Rq,rX,Nd.kids,Nd.tag,bC,Nd.data] at e ⊢;simp [aat]
theorem qt:∀ l:List Atr,mA (l.map rX)=some l
 | []=>rfl
 | a::l=>by rw [ahH,mA,aaX,qt l];rfl
theorem acv {k:Int} (h1:1<=k) (h4:k<=4) {s t:List UInt8} {l:List Atr} (hs:(fP s).2=0) (ht:k=4->(fP t).2=0) :
  lJ (uu k s t l)=some ⟨k,(fP s).1,if k=4 then (fP t).1 else [],if k=2 then [] else l⟩:=by
 have hk:=aa8 h1 h4;have:k=1\/k=2\/k=3\/k=4:=by omega
 rcases this with rfl|rfl|rfl|rfl
 ·simp [lJ,uu,Nd.kids,Nd.tag,Nd.data,bC,Od,hs,qt,b8]
 ·simp [lJ,uu,Nd.kids,Nd.tag,Nd.data,bC,Od,hs,qt,b8]
 ·simp [lJ,uu,Nd.kids,Nd.tag,Nd.data,bC,Od,hs,qt,b8]
 ·simp [lJ,uu,Nd.kids,Nd.tag,Nd.data,bC,Od,hs,ht rfl,qt,b8]
theorem N8:∀ (l:List Nd) {r:List Atr},mA l=some r->yL l=some r
 | [],r,h=>h
 | a::l,r,h=>by
   rw [mA] at h;split at h
   ·cases h
   rename_i x hx
   rw [ahG] at h;obtain ⟨r',h1,rfl⟩:=h;unfold Rq at hx;split at hx
   ·cases hx
   rename_i hn
   split at hx
   ·cases hx;rw [yL,if_neg (by simp only [not_or] at hn;exact hn.2.1),N8 l h1];rfl
   ·cases hx
theorem OR {n:Nd} {u:Upd} (h:lJ n=some u):V6 n=some u:=by
 obtain ⟨tg,dt,l⟩:=n;obtain ⟨k,hkk⟩:∃ k:Int,(((l.getD 0 bd).data.getD 0 0).toNat:Int)=k:=⟨_,rfl⟩;unfold lJ at h;simp only [Nd.kids,hkk] at h;have step:∀ {c:Prop} [Decidable c] {x:Option Upd},(if c then none else x)=some u->¬ c/\x=some u:=fun {c} _ {x} e=>by
  by_cases hc:c
  ·rw [if_pos hc] at e;cases e
  ·rw [if_neg hc] at e;exact ⟨hc,e⟩
 obtain ⟨hn,h⟩:=step h;obtain ⟨hk,h⟩:=step h;obtain ⟨hp,h⟩:=step h;obtain ⟨hq,h⟩:=step h;simp only [not_or] at hn hk hp;obtain ⟨_,h2,_,h3⟩:=hn;obtain ⟨hk1,hk4,hlen⟩:=hk;have hnum:YM (l.getD 0 bd).data=some k:=by
  have hd:(l.getD 0 bd).data=[b8 k.toNat]:=by
   rcases hdd:(l.getD 0 bd).data with _|⟨c,_|⟨c2,r⟩⟩
   ·rw [hdd] at h3;simp at h3
   ·rw [hdd] at hkk;simp at hkk;rw [<- hkk];simp [b8]
   ·rw [hdd] at h3;simp at h3
  rw [hd];exact aa3 (by omega) (by omega)
 have hl:l.length=1+(if k=4 then 2 else 1)+(if k=2 then 0 else 1):=by simpa using hlen
 have hlen4:l.length<=4:=by
  rw [hl];split<;>split<;>omega
 unfold V6;simp only [Nd.kids,hnum];rw [if_neg (by omega)];clear hnum hkk h3 h2 hlen;by_cases e4:k=4
 ·subst e4;have hl4:l.length=4:=by rw [hl];decide
  obtain ⟨a,b,c,d,rfl⟩:∃ a b c d,l=[a,b,c,d]:=by
   match l,hl4 with
   | [a,b,c,d],_=>exact ⟨a,b,c,d,rfl⟩
  rw [if_neg (by decide)] at h;obtain ⟨_,h⟩:=step h;clear step;rw [ahG] at h;obtain ⟨r,h1,rfl⟩:=h;simp at h1 hp hq ⊢;simp [hp.1,hq.1,N8 _ h1]
 ·by_cases e2:k=2
  ·subst e2;have hl2:l.length=2:=by rw [hl];decide
   rw [if_pos rfl] at h;cases h;obtain ⟨a,b,rfl⟩:∃ a b,l=[a,b]:=by
    match l,hl2 with
    | [a,b],_=>exact ⟨a,b,rfl⟩
   simp at hp;simp [hp.1]
  ·have hl3:l.length=3:=by rw [hl,if_neg e4,if_neg e2]
   obtain ⟨a,b,c,rfl⟩:∃ a b c,l=[a,b,c]:=by
    match l,hl3 with
    | [a,b,c],_=>exact ⟨a,b,c,rfl⟩
   rw [if_neg e2] at h;obtain ⟨_,h⟩:=step h;clear step;rw [ahG] at h;obtain ⟨r,h1,rfl⟩:=h;simp at h1 hp;simp [e4,hp.1,N8 _ h1]
theorem Vi {n:Nd} {u:Upd} (h:lJ n=some u):lD u=u:=by
 obtain ⟨k,hkk⟩:∃ k:Int,(((n.kids.getD 0 bd).data.getD 0 0).toNat:Int)=k:=⟨_,rfl⟩;unfold lJ at h;simp only [hkk] at h;have step:∀ {c:Prop} [Decidable c] {x:Option Upd},(if c then none else x)=some u->x=some u:=fun {c} _ {x} e=>by
  by_cases hc:c
  ·rw [if_pos hc] at e;cases e
  ·rw [if_neg hc] at e;exact e
 have h:=step (step (step (step h)));by_cases e2:k=2
 ·rw [if_pos e2] at h;cases h;simp [lD,e2]
 ·rw [if_neg e2] at h;have h:=step h;rw [ahG] at h;obtain ⟨r,h1,rfl⟩:=h;by_cases e4:k=4
  ·simp [lD,e4]
  ·simp [lD,e4,e2]
def ov (u:Upd):Prop:=u.attrs.length<=1100000/\∀ a∈u.attrs,(a.1.length:Int)<=140737488351232/\a.2.length<=1100000/\∀ v∈a.2,(v.length:Int)<=140737488351232
theorem acR {a:Atr} (h1:(a.1.length:Int)<=140737488351232) (h2:a.2.length<=1100000) (h3:∀ v∈a.2,(v.length:Int)<=140737488351232):okN 2 (rX a):=by
 refine .inr ⟨.inl rfl,rfl,by simp,fun k hk=>?_⟩;simp only [ahR,air,or_false] at hk;rcases hk with rfl|rfl
 ·exact K6 h1 1
 ·refine .inr ⟨.inr rfl,rfl,by simpa using h2,fun k hk=>?_⟩;obtain ⟨v,hv,rfl⟩:=ahs.1 hk;exact K6 (h3 v hv) 0
theorem afQ {l:List Atr} (h0:l.length<=1100000) (h:∀ a∈l,(a.1.length:Int)<=140737488351232/\a.2.length<=1100000/\∀ v∈a.2,(v.length:Int)<=140737488351232):okN 3 (Od l):=by
 refine .inr ⟨.inl rfl,rfl,by simpa using h0,fun k hk=>?_⟩;obtain ⟨a,ha,rfl⟩:=ahs.1 hk;obtain ⟨h1,h2,h3⟩:=h a ha;exact acR h1 h2 h3
theorem YK {k:Int} {s t:List UInt8} {l:List Atr} (hs:(s.length:Int)<=140737488351232) (ht:(t.length:Int)<=140737488351232) (h0:l.length<=1100000) (h:∀ a∈l,(a.1.length:Int)<=140737488351232/\a.2.length<=1100000/\∀ v∈a.2,(v.length:Int)<=140737488351232):okN 4 (uu k s t l):=by
 refine .inr ⟨.inl rfl,rfl,?_,fun x hx=>?_⟩
 ·simp only [ahy,ahD,ahZ];split<;>split<;>simp
 ·rcases ahr.1 hx with hx|hx
  ·rcases ahr.1 hx with hx|hx
   ·simp only [ahR,air,or_false] at hx;rcases hx with rfl|rfl
    ·exact .inl ⟨.inl rfl,rfl,by simp⟩
    ·exact K6 hs 3
   ·split at hx
    ·rw [ahI.1 hx];exact K6 ht 3
    ·cases hx
  ·split at hx
   ·cases hx
   ·rw [ahI.1 hx];exact afQ h0 h
theorem abU {u:Upd} (h:(wrU u).2=0):1<=u.kind/\u.kind<=4/\(prS u.dn).2=0/\(u.kind=4->(prS u.to).2=0)/\wrU u=cM 4 (uu u.kind (prS u.dn).1 (prS u.to).1 u.attrs):=by
 unfold wrU at h ⊢;split at h
 ·cases h
 rename_i h1
 split at h
 ·rename_i h2;exact absurd h h2
 rename_i h2
 split at h
 ·rename_i h3;exact absurd h h3.2
 rename_i h3
 rw [if_neg h1,if_neg h2,if_neg h3];refine ⟨by omega,by omega,by simpa using h2,fun e=>?_,rfl⟩;simp only [not_and] at h3;simpa using h3 e
theorem adV (u:Upd):wrU (lD u)=wrU u:=by
 by_cases h4:u.kind=4
 ·have:lD u=u:=by
   obtain ⟨k,d,t,l⟩:=u;simp only at h4;subst h4;simp [lD]
  rw [this]
 ·by_cases h2:u.kind=2
  ·simp [wrU,lD,uu,h2]
  ·simp [wrU,lD,uu,h2,h4]
theorem abX {u:Upd} (hu:ov u) (h:(wrU u).2=0):uN (wrU u).1=.ok (uu u.kind (prS u.dn).1 (prS u.to).1 u.attrs):=by
 obtain ⟨h1,h4,hd,ht,e⟩:=abU h;rw [e] at h ⊢;have l1:=K4 u.dn;have l2:=K4 u.to;exact adX (YK (by omega) (by omega) hu.1 hu.2) h (by omega)
theorem Yv {u:Upd} (h:(wrU u).2=0):lJ (uu u.kind (prS u.dn).1 (prS u.to).1 u.attrs)=some (lD u):=by
 obtain ⟨h1,h4,hd,ht,e⟩:=abU h;rw [acv h1 h4 (by rw [Wf hd]) fun e=>by rw [Wf (ht e)],Wf hd]
 congr 2
 split
 ·rename_i e4;rw [Wf (ht e4)]
 ·rfl
theorem agE {u:Upd} (hu:ov u) (h:(wrU u).2=0):rdU (wrU u).1=(lD u,0):=by
 have hw:=adV u;have hb:lD (lD u)=lD u:=Vi (Yv h);rw [rdU,abX hu h];simp only [OR (Yv h),hw];rw [if_neg (by simp [h]),hb]
theorem acG {s:List UInt8} (hs:∀ n u,uN s=.ok n->V6 n=some u->ov u):rdU s=V7 s:=by
 unfold rdU V7;rcases hw:uN s with e|n
 ·rfl
 simp only;rcases hr:lJ n with _|u
 ·
  simp only;rcases hy:V6 n with _|u
  ·rfl
  simp only;by_cases hc:(wrU u).2≠0\/(wrU u).1≠s
  ·rw [if_pos hc]
  ·exfalso;simp only [not_or] at hc;obtain ⟨c1,c2⟩:=hc;have c1':(wrU u).2=0:=by simpa using c1
   have c2':(wrU u).1=s:=by simpa using c2
   have h1:=abX (hs n u hw hy) c1';rw [c2',hw] at h1;cases h1;rw [Yv c1'] at hr;cases hr
 ·simp only [OR hr,Vi hr]
theorem VZ {s:List UInt8} {e:Int} (h:uN s=.error e):e≠0:=by
 unfold uN at h;split at h
 ·rename_i hh;cases h;exact ug _ _ _ hh
 ·split at h
  ·cases h
  ·cases h;decide
variable {L:List Blk} {K:afC}
abbrev dnA (d:List Rdn):AV:=.sl (d.map aw) d.length none
abbrev dO (u:Upd):List AV:=[.int .i64 u.kind,dnA u.dn,dnA u.to,.sl (aU u.attrs) u.attrs.length none]
def dnB (d:List Rdn):Prop:=d.length<=1100000/\∀ r∈d,r.length<=1100000
theorem VY {u:Upd} (hd:dnB u.dn) (ht:dnB u.to) (hu:ov u) (h:K (N4 (wrU u)) L):afB 34 [.agg (dO u)] L K:=by
 obtain ⟨k,d,t,l⟩:=u;simp only [dO] at hd ht hu ⊢;unfold wrU N4 at h;simp only at h;by_cases hk:k<1\/4<k
 ·rw [if_pos hk] at h;replace h:=hid h;obtain ⟨b,hb⟩:=aaR (decide (k<1\/(4:Int)<k));have hbt:b=true:=by rw [<- hb,decide_eq_true_iff];omega
  subst hbt;clear hd ht hu;refine aa ul (by simp [gU]) ?_;simp only [gU,ag];by_cases h1:k<1
  ·clear hk hb;refine wk ?_;exact ab rfl h.out
  ·have h2:4<k:=by omega
   clear hk hb;refine wk ?_;exact ab rfl h.out
 rw [if_neg hk] at h;have g1:¬ k<1:=by omega
 have g2:¬ 4<k:=by omega
 have hik:YV k=[b8 k.toNat]:=abc (by omega) (by omega);obtain ⟨c,hc⟩:=aaR (b8 k.toNat);have kk1:Hid (Ctr Tryz.prog 60 [.int .i64 k] (.str [c])):=@hid _ (by intro L K q;exact YW (by omega) (by omega) (by rw [hik,hc];exact q));have kk2:Hid (Ctr Tryz.prog 59 [.int .i64 2,.str [c]] (.agg [.int .i64 2,.str [c],.sl [] 0 none])):=@hid _ (by intro L K q;exact ac0 (by rw [bG];exact q));clear hk;refine aa ul (by simp [gU]) ?_;simp only [gU,ag]
 iterate 21 first
  | refine cP ?_
  | (first|refine bY (by kernel_rfl) ?_|refine bj (by kernel_rfl) ?_|refine bm ?_|refine fy ?_|refine cT (fun _=>?_)|refine a8 ?_|refine b9 ?_|refine kk1.out ?_|refine kk2.out ?_|refine cA (kk1.out ⟨rfl,rfl⟩) (kk1.out ⟨rfl,rfl⟩) ?_|refine cA (kk2.out ⟨rfl,rfl⟩) (kk2.out ⟨rfl,rfl⟩) ?_|refine bf (kk1.out ⟨rfl,rfl⟩) ?_|refine bf (kk2.out ⟨rfl,rfl⟩) ?_)
    simp (config:={ maxSteps:=2000000 }) only [Kon,push_cast,reduceIte,Nat.reduceEqDiff,Nat.reduceAdd,Nat.reduceMul,Nat.reduceSub,Nat.reduceLT,Nat.reduceLeDiff,Int.reduceLT,Int.reduceLE,Int.reduceAdd,Int.reduceSub,Int.reduceNeg,Int.reduceToNat,Int.reduceEq,reduceCtorEq, *]
  | (first|refine bU (by kernel_rfl) ?_|refine bT ?_|refine bZ ?_|refine cY (a7 ?_))
    simp only [push_cast,reduceIte,Nat.reduceEqDiff,Nat.reduceAdd,Nat.reduceMul,Nat.reduceSub,Nat.reduceLT,Nat.reduceLeDiff,Int.reduceLT,Int.reduceLE,Int.reduceAdd,Int.reduceSub,Int.reduceNeg,Int.reduceToNat,Int.reduceEq,reduceCtorEq, *]
  | exact cU
  | first|apply cV|apply bV|apply cW|apply bW|apply cX|apply bX
  | refine br ?_
  | first|refine bp rfl ?_|refine bq rfl ?_|refine aW rfl ?_ ?_|refine bz rfl (fun _=>?_) (fun _=>?_)|refine bw rfl (fun _=>?_) (fun _=>?_)
  | ((first|refine aV (fun _=>?_) (fun _=>?_)|refine a6 (fun _=>?_) (fun _=>?_))<;>try simp (config:={ maxSteps:=2000000 }) only [Kon,push_cast,reduceIte,Nat.reduceEqDiff,Nat.reduceAdd,Nat.reduceMul,Nat.reduceSub,Nat.reduceLT,Nat.reduceLeDiff,Int.reduceLT,Int.reduceLE,Int.reduceAdd,Int.reduceSub,Int.reduceNeg,Int.reduceToNat,Int.reduceEq,reduceCtorEq, *])
  | refine And.intro trivial ?_
  | refine And.intro (by omega) ?_
  | refine bA rfl (fun _=>?_) (fun _=>?_)
  | refine And.intro ?_ ?_
 obtain ⟨ns,hns⟩:∃ ns,ns=if k=4 then [d,t] else [d]:=⟨_,rfl⟩
 refine uq (fun T2 L2=>∃ X,T2=[(5,.sl (ns.map dnA) ns.length none),(4,.sl [.int .i64 2,.str [c],.sl [] 0 none] 1 (some 1)),(1,.ptr L.length 0)]/\L2=L++(.cells [.int .i64 k,dnA d,dnA t,.sl (aU l) l.length none]::X)) ?_ ?_
 ·by_cases h4:k=4
  ·subst h4;rw [if_pos rfl] at hns;subst hns;have e1:=aO t;clear kk1 kk2 hd ht hu h;refine wk ?_;exact gV [(5,.sl (List.map dnA [d,t]) 2 none),(4,.sl [.int .i64 2,.str [c],.sl [] 0 none] 1 (some 1)),(1,.ptr L.length 0)] _ (rU (mK rfl (by simp only [AV.frz,AV.frzL,aO,ahH,aif]) (by repeat' first|exact rT|refine eM rfl rfl ?_)) (by simp)) ⟨_,rfl,rfl⟩
  ·rw [if_neg h4] at hns;subst hns;clear kk1 kk2 hd ht hu h;refine wk ?_;exact gV [(5,.sl (List.map dnA [d]) 1 none),(4,.sl [.int .i64 2,.str [c],.sl [] 0 none] 1 (some 1)),(1,.ptr L.length 0)] _ (rU (mK rfl (by simp only [AV.frz,AV.frzL,aO,ahH,aif]) (by repeat' first|exact rT|refine eM rfl rfl ?_)) (by simp)) ⟨_,rfl,rfl⟩
 rintro _ _ ⟨X,rfl,rfl⟩ -;have hnl:ns.length<=2:=by rw [hns];split<;>simp
 have hnb:∀ x∈ns,dnB x:=fun x hx=>by
  rw [hns] at hx;split at hx
  ·simp at hx;rcases hx with rfl|rfl<;>assumption
  ·simp at hx;subst hx;assumption
 obtain ⟨R,hR⟩:=aaR ((if (prS d).2≠0 then ([],(prS d).2) else if k=4/\(prS t).2≠0 then ([],(prS t).2) else cM 4 (uu k (prS d).1 (prS t).1 l)));rw [hR] at h;have hbad:∀ i,i<ns.length->(∀ j,j<i->(prS (ns.getD j [])).2=0)->(prS (ns.getD i [])).2≠0->R=([],(prS (ns.getD i [])).2):=fun i hi hj he=>by
  rw [<- hR];rw [hns] at hi hj he ⊢;by_cases h4:k=4
  ·rw [if_pos h4] at hi hj he ⊢;rcases i with _|_|i
   ·have he':(prS d).2≠0:=he;rw [if_pos he'];rfl
   ·have he':(prS t).2≠0:=he;rw [if_neg (by simpa using hj 0 (by omega)),if_pos ⟨h4,he'⟩];rfl
   ·simp at hi;omega
  ·rw [if_neg h4] at hi hj he ⊢;rcases i with _|i
   ·have he':(prS d).2≠0:=he;rw [if_pos he'];rfl
   ·simp at hi
 have hok:(∀ j,j<ns.length->(prS (ns.getD j [])).2=0)->R=cM 4 (uu k (prS d).1 (prS t).1 l):=fun hj=>by
  rw [<- hR];rw [hns] at hj;by_cases h4:k=4
  ·rw [if_pos h4] at hj;rw [if_neg (by simpa using hj 0 (by simp)),if_neg (fun e=>e.2 (by simpa using hj 1 (by simp)))]
  ·rw [if_neg h4] at hj;rw [if_neg (by simpa using hj 0 (by simp)),if_neg (fun e=>h4 e.1)]
 have hrec:uu k (prS d).1 (prS t).1 l=.mk 48 [] ((.mk 2 [c] []::ns.map fun x=>bC (prS x).1)++if k=2 then [] else [Od l]):=by
  rw [hns,uu,hc];by_cases h4:k=4
  ·rw [if_pos h4,if_pos h4];rfl
  ·rw [if_neg h4,if_neg h4];rfl
 have hO:okN 4 (uu k (prS d).1 (prS t).1 l):=YK (by have:=K4 d;omega) (by have:=K4 t;omega) hu.1 hu.2;rw [hrec] at hok hO;replace hbad:=hid hbad;replace hok:=hid hok;replace hO:=hid hO;replace hnb:=hid hnb;replace h:=hid h;clear hrec hR hd ht hns hik hc kk1 kk2;refine wk ?_;refine adL 4 3 (X.length+1) (L:=L) (X:=.cells [.int .i64 k,dnA d,dnA t,.sl (aU l) l.length none]::X) (l:=[.int .i64 2,.str [c],.sl [] 0 none]) (n:=1) (by simp) rfl rfl ?_;refine ah (fun m T' L'=>∃ (i:Nat) (C:List AV),m=ns.length - i/\i<=ns.length/\Hid (∀ j,j<i->(prS (ns.getD j [])).2=0)/\Hid (C=aC (.mk 2 [c] []::(ns.take i).map fun x=>bC (prS x).1))/\T'=[(37,.int .i64 (i:Int)),(36,.int .i64 ns.length),(35,.sl (ns.map dnA) ns.length none),(4,.gsl C (i+1) (L.length+(X.length+1)) 3),(1,.ptr L.length 0)]/\L'=L++(.cells [.int .i64 k,dnA d,dnA t,.sl (aU l) l.length none]::(X++[.spare (i+1) 3]))) (CutL (b:=by simp)) ⟨0,_,rfl,ahp _,hid (by simp),hid rfl,rfl,by simp⟩ ?_;rintro _ _ _ ⟨i,C,rfl,hi,hj,hC,rfl,rfl⟩;by_cases hlt:i<ns.length
 ·have g3:(i:Int)<(ns.length:Int):=by omega
  have w2:=ace i (by omega);obtain ⟨x,hx⟩:=aaR (ns.getD i []);have hxm:x∈ns:=by rw [<- hx];simp [hlt]
  have e2:(ns.map dnA).getD i .undef=dnA x:=by rw [<- hx];simp [hlt]
  have e3:i<(ns.map dnA).length:=by simpa using hlt
  obtain ⟨⟨s,e⟩,hse⟩:∃ q,prS x=q:=⟨_,rfl⟩;have kk1:Hid (Ctr Tryz.prog 27 [dnA x] (.tup [.str s,.int .i64 e])):=@hid _ (by
   intro L K q;refine uf (hnb.out x hxm).1 (hnb.out x hxm).2 ?_;rw [hse];exact q)
  by_cases he:e=0
  ·subst he;have kk2:Hid (Ctr Tryz.prog 61 [.str s] (.agg [.int .i64 4,.str s,.sl [] 0 none])):=@hid _ (by intro L K q;exact Yq (by rw [bC,bG];exact q));have hj':∀ j,j<i+1->(prS (ns.getD j [])).2=0:=fun j hjl=>by
    rcases ahT j i with h1|h1
    ·exact hj.out j h1
    ·have:j=i:=by omega
     subst this;rw [hx,hse]
   have htk:aC (.mk 2 [c] []::(ns.take (i+1)).map fun x=>bC (prS x).1)=C++[.int .i64 4,.str s,.sl [] 0 none]:=by
    rw [hC.out,ahK hlt,show ns[i]=x by rw [<- hx];simp [hlt],ahN,<- aig,gN];simp only [ahH,aif,hse,aC,bC,bG,ahO];rfl
   replace htk:=hid htk;replace hj':=hid hj';clear hse hxm hx hj hC hbad hok hO;refine wk ?_;exact aq _ _ _ (by omega) (CutL (b:=by simp)) ⟨i+1,_,rfl,hlt,hj',hid htk.out.symm,rfl,rfl⟩
  ·have h':=h.out;rw [hbad.out i hlt hj.out (by rw [hx,hse];exact he),hx,hse] at h';replace h':=hid h';clear hse hxm hx hj hC hbad hok hO;refine wk ?_;exact ab rfl h'.out
 ·have hke:i=ns.length:=by omega
  subst hke;have g3:¬ (ns.length:Int)<(ns.length:Int):=by omega
  have hR:=hok.out hj.out;have hC2:=hC.out;rw [ahA] at hC2;obtain ⟨nl,hnl2⟩:=aaR ((Nd.mk 2 [c] []::ns.map fun x=>bC (prS x).1));have hnll:nl.length=ns.length+1:=by rw [<- hnl2];simp
  have hO2:=hO.out;rw [hnl2] at hR hC2 hO2;obtain ⟨⟨s,e⟩,hse⟩:∃ q,R=q:=⟨_,rfl⟩;have h':=h.out;rw [hse] at h' hR;subst hC2;have e0:=bR nl;have seqg:∀ {h n:Nat} {m:List Nd} (hml:m.length=n) (hmb:m.length<=1100000) (ho:∀ x∈m,okN h x) {i:Nat} {L:List Blk} {K:afC},K (.agg [.int .i64 48,.str [],.sl (aC m) n none]) L->afB 64 [.int .i64 48,.gsl (aC m) n i 3] L K:=by
   intro h n m hml hmb ho i L K q;subst hml;exact dQ (by simpa only [AV.frzL,AV.frz,bR] using ZI (h:=h) (cap:=none) hmb ho (by rw [bG];exact q))
  by_cases h2:k=2
  ·rw [if_pos h2,ahO] at hO2 hR;have kk1:Hid (∀ {i:Nat} {L:List Blk} {K:afC},K (.agg [.int .i64 48,.str [],.sl (aC nl) (ns.length+1) none]) L->afB 64 [.int .i64 48,.gsl (aC nl) (ns.length+1) i 3] L K):=@hid _ (by
    intro i L K q;refine seqg (h:=3) hnll (by omega) (fun n hn=>?_) q;rcases hO2 with ⟨ho,_⟩|⟨_,_,_,hk⟩
    ·omega
    ·exact hk n hn)
   have kk2:Hid (Ctr Tryz.prog 66 [.agg [.int .i64 48,.str [],.sl (aC nl) (ns.length+1) none]] (.tup [.str s,.int .i64 e])):=@hid _ (by
    intro L K q;have:=@afp _ hO2 L K;rw [bG,<- hR,hnll] at this;exact this q)
   replace h':=hid h';subst h2;clear hR hC hj hbad hok hO hse hnl2 hO2 seqg;refine wk ?_;exact ab rfl h'.out
  ·rw [if_neg h2] at hO2 hR;obtain ⟨ll,hll⟩:=aaR (aC (l.map rX));obtain ⟨hul,hua⟩:=hu;simp only at hul hua;have hkO:∀ x∈nl++[Od l],okN 3 x:=fun n hn=>by
    rcases hO2 with ⟨ho,_⟩|⟨_,_,_,hk⟩
    ·omega
    ·exact hk n hn
   have eL:aC (nl++[Od l])=aC nl++[.int .i64 48,.str [],.sl ll l.length none]:=by
    rw [gN,<- hll];simp only [aC,Od,bG,ahF,ahO]
   have kk1:Hid (Ctr Tryz.prog 62 [.sl (aU l) l.length none,.func 63 []] (.sl ll l.length none)):=@hid _ (by
    intro L K q;exact aeB (by omega) hua (by rw [hll];exact q))
   have kk2:Hid (Ctr Tryz.prog 64 [.int .i64 48,.sl ll l.length none] (.agg [.int .i64 48,.str [],.sl ll l.length none])):=@hid _ (by
    intro L K q;have:=@ZI 2 48 (l.map rX) none (by rw [ahF];omega) (fun x hx=>by
     obtain ⟨a,ha,rfl⟩:=ahs.1 hx;obtain ⟨a1,a2,a3⟩:=hua a ha;exact acR a1 a2 a3) L K
    rw [bG,hll,ahF] at this;exact this q)
   have kk3:Hid (∀ {i:Nat} {L:List Blk} {K:afC},K (.agg [.int .i64 48,.str [],.sl (aC nl++[.int .i64 48,.str [],.sl ll l.length none]) (ns.length+1+1) none]) L->afB 64 [.int .i64 48,.gsl (aC nl++[.int .i64 48,.str [],.sl ll l.length none]) (ns.length+1+1) i 3] L K):=@hid _ (by
    intro i L K q;rw [<- eL] at q ⊢;exact seqg (h:=3) (by simp [hnll]) (by simp;omega) hkO q)
   have kk4:Hid (Ctr Tryz.prog 66 [.agg [.int .i64 48,.str [],.sl (aC nl++[.int .i64 48,.str [],.sl ll l.length none]) (ns.length+1+1) none]] (.tup [.str s,.int .i64 e])):=@hid _ (by
    intro L K q;have:=@afp _ hO2 L K;rw [bG,<- hR,eL,ahy,hnll] at this;exact this q)
   have e1:AV.frzL ll=ll:=by rw [<- hll];exact bR _
   replace h':=hid h';clear hR hC hj hbad hok hO hse hnl2 hO2 seqg hkO hul hua hll eL;refine wk ?_;exact ab rfl h'.out
def yy:Except Int (Nd×List UInt8)->AV
 | .error e=>.tup [.agg [.int .i64 0,.str [],.sl [] 0 none],.str [],.int .i64 e]
 | .ok (n,r)=>.tup [.agg (ndA n),.str r,.int .i64 0]
def aeM (acc:List Nd):Except Int (List Nd)->Except Int (List Nd)
 | .error e=>.error e
 | .ok l=>.ok (acc++l)
theorem Wn {p:List UInt8->Except Int (Nd×List UInt8)} {F:Nat} {u:List UInt8} (h:u≠[]):lh p (F+1) u=match p u with
  | .error e=>.error e
  | .ok (n,r)=>match lh p F r with
    | .error e=>.error e
    | .ok l=>.ok (n::l):=by
 rcases u with _|⟨c,v⟩
 ·exact absurd rfl h
 ·rw [lh]
  ·rfl
  ·exact h
theorem afo:∀ x:_root_.Fin 256,IntKind.u8.wrap ((BitVec.ofInt IntKind.u8.bits (x.val:Int) &&& BitVec.ofInt IntKind.u8.bits 31).toNat:Nat)=((x.val % 32:Nat):Int)/\IntKind.u8.wrap ((BitVec.ofInt IntKind.u8.bits (x.val:Int) &&& BitVec.ofInt IntKind.u8.bits 32).toNat:Nat)=((x.val / 32 % 2 * 32:Nat):Int):=by decide +kernel
theorem Th:∀ (f:Nat) {s:List UInt8} {dep:Int} (hs:s.length<=1100000) (hd:dep+f=65) (h1:1<=dep) {L:List Blk} {K:afC} (h:K (yy (gH f s)) L),afB 136 [.str s,.int .i64 dep] L K
 | 0,s,dep,hs,hd,h1,L,K,h=>by
   have e:dep=65:=by omega
   subst e;replace h:=hid h;refine acg d6 ?_;exact ay (ab rfl h.out)
 | f+1,s,dep,hs,hd,h1,L,K,h=>by
   have ih:∀ {s':List UInt8} (hs':s'.length<=1100000) {L:List Blk} {K:afC} (h:K (yy (gH f s')) L),afB 136 [.str s',.int .i64 (dep+1)] L K:=by
    intro s' hs' L K h;exact Th f hs' (by omega) (by omega) h
   replace ih:=@hid _ @ih;have g1:¬ (64:Int)<dep:=by omega
   have w1:IntKind.i64.wrap (dep+1)=dep+1:=ac (by omega) (by omega);rw [gH] at h;by_cases hs0:s=[]
   ·rw [if_pos hs0] at h;subst hs0;replace h:=hid h;refine acg d6 ?_;exact ay (ab rfl h.out)
   rw [if_neg hs0] at h;obtain ⟨t,ht⟩:=aaR ((s.getD 0 0).toNat);have ht256:t<256:=by rw [<- ht];exact (s.getD 0 0).toNat_lt
   have hpos:0<s.length:=ah8.2 hs0;have g2:(0:Int)<(s.length:Int):=by omega
   have e31:=(afo ⟨t,ht256⟩).1;have e32:=(afo ⟨t,ht256⟩).2;simp only [ht] at h e31 e32;obtain ⟨y,hy⟩:∃ y:Int,((t % 32:Nat):Int)=y:=⟨_,rfl⟩;obtain ⟨z,hz⟩:∃ z:Int,((t / 32 % 2 * 32:Nat):Int)=z:=⟨_,rfl⟩;rw [hy] at e31;rw [hz] at e32;have wt:IntKind.i64.wrap (t:Int)=(t:Int):=ac (by omega) (by omega);by_cases h31:t % 32=31
   ·rw [if_pos h31] at h;replace h:=hid h;have hy':y=31:=by omega
    subst hy';clear h31 hz hy;refine acg d6 ?_;exact ay (ab rfl h.out)
   rw [if_neg h31] at h;have g3:¬ y=31:=by omega
   clear h31 hy;rcases hbn:rP s with e|⟨size,a⟩
   ·rw [hbn] at h;simp only at h;replace h:=hid h;have he:=aae hbn;have kk1:Hid (Ctr Tryz.prog 162 [.str s] (.tup [.int .i64 0,.int .i64 0,.int .i64 e])):=@hid _ (by intro L K q;exact X6 hs (by rw [hbn];exact q));clear hbn hz;refine acg d6 ?_;exact ay (ab rfl h.out)
   obtain ⟨b2,b6,b7,b8⟩:=aaf hbn;have kk1:Hid (Ctr Tryz.prog 162 [.str s] (.tup [.int .i64 (size:Int),.int .i64 (a:Int),.int .i64 0])):=@hid _ (by intro L K q;exact X6 hs (by rw [hbn];exact q));rw [hbn] at h;simp only at h;clear hbn;have w2:IntKind.i64.wrap ((s.length:Int) - (a:Int))=(s.length:Int) - (a:Int):=ac (by omega) (by omega);have w3:IntKind.i64.wrap ((a:Int)+(size:Int))=(a:Int)+(size:Int):=ac (by omega) (by omega);by_cases hsz:s.length<a+size
   ·rw [if_pos hsz] at h;replace h:=hid h;have g4:(s.length:Int) - (a:Int)<(size:Int):=by omega
    clear hsz hz;refine acg d6 ?_;exact ay (ab rfl h.out)
   rw [if_neg hsz] at h;have g4:¬ (s.length:Int) - (a:Int)<(size:Int):=by omega
   have g5:(a:Int)<=(a:Int)+(size:Int):=by omega
   have g6:(a:Int)+(size:Int)<=(s.length:Int):=by omega
   have e3:((a:Int)+(size:Int)).toNat=a+size:=by omega
   have e4:a+size - a=size:=by omega
   obtain ⟨inn,hinn⟩:=aaR ((s.drop a).take size);obtain ⟨r,hr⟩:=aaR (s.drop (a+size));have hinl:inn.length=size:=by rw [<- hinn];simp;omega
   have e5:r.take (s.length - (a+size))=r:=by rw [<- hr,<- aik,ahA]
   rw [hinn,hr] at h;by_cases hlf:t / 32 % 2=0
   ·rw [if_pos hlf] at h;simp only [yy,bG] at h;replace h:=hid h;have hz0:z=0:=by omega
    subst hz0;clear hlf hz hsz;refine acg d6 ?_;exact ay (ab rfl h.out)
   rw [if_neg hlf] at h;have hz1:z=32:=by omega
   subst hz1;obtain ⟨M,hM⟩:=aaR (lh (gH f) size inn);rw [hM] at h;have hno:∀ e,M=.error e->K (.tup [.agg [.int .i64 0,.str [],.sl [] 0 none],.str [],.int .i64 e]) L:=fun e he=>by
    rw [he] at h;exact h
   have hyes:∀ ks,M=.ok ks->K (.tup [.agg [.int .i64 (t:Int),.str [],.sl (aC ks) ks.length none],.str r,.int .i64 0]) L:=fun ks he=>by
    rw [he] at h;simp only [yy,bG] at h;exact h
   replace hno:=hid hno;replace hyes:=hid hyes;have hs1:size<=1100000:=by omega
   clear hlf hz hsz h;refine acg d6 ?_;refine lF (L.length+1) 2 3 (c:=[.int .i64 (t:Int),.str [],.sl [] 0 (some 0)]) (l:=[]) (n:=0) (by simp) rfl (ahQ 3).symm ?_;refine ah (fun m T' L'=>∃ (acc:List Nd) (F k:Nat) (u:List UInt8) (C:List AV) (X:List Blk),m=u.length/\u.length<=F/\u.length+k<=size/\Hid (aeM acc (lh (gH f) F u)=M)/\Hid (C=aC acc/\k=acc.length)/\T'=[(11,.str u),(10,.ptr (L.length+1) 0),(8,.int .i64 (a:Int)),(7,.int .i64 (size:Int)),(4,.ptr L.length 0),(0,.str s),(1,.int .i64 dep)]/\L'=L++(.cells [.int .i64 0,.str [],.sl [] 0 (some 0)] :: .cells [.int .i64 (t:Int),.str [],.gsl C k (L.length+2) 3] :: .spare k 3::X)) (CutS (b:=by simp)) ⟨[],size,0,inn,[],[],rfl,by omega,by omega,hid (by rw [hM];cases M<;>rfl),hid ⟨rfl,rfl⟩,rfl,by simp⟩ ?_;rintro _ _ _ ⟨acc,F,k,u,C,X,rfl,hF,hk,hI,hCk,rfl,rfl⟩;by_cases hu:u=[]
   ·subst hu;have hI2:=hI.out;have hm0:lh (gH f) F []=.ok []:=by cases F<;>rfl
    rw [hm0] at hI2;have h':=hyes.out acc (by rw [<- hI2];simp [aeM]);obtain ⟨rfl,rfl⟩:=hCk.out;have e0:=bR acc;replace h':=hid h';clear hI2 hm0 hI hCk hyes hno;refine wk ?_;refine ay ?_;simp only [AV.frz,AV.frzL,e0];exact ab (by simp only [AV.refs,AV.refsL,dP];rfl) h'.out
   ·have hup:0<u.length:=ah8.2 hu;obtain ⟨F',rfl⟩:∃ F',F=F'+1:=⟨F - 1,by omega⟩;have hI2:=hI.out;rw [Wn hu] at hI2;rcases hpu:gH f u with e|⟨n,v⟩
    ·rw [hpu] at hI2;have h':=hid (hno.out e (by rw [<- hI2];rfl));have he:=ug f u e hpu;have kk1:Hid (Ctr Tryz.prog 136 [.str u,.int .i64 (dep+1)] (.tup [.agg [.int .i64 0,.str [],.sl [] 0 none],.str [],.int .i64 e])):=@hid _ (by
      intro L K q;refine ih.out (by omega) ?_;rw [hpu];exact q)
     clear hI hI2 hno hyes hpu hM;refine wk ?_;exact ay (ab rfl h'.out)
    ·rw [hpu] at hI2;simp only at hI2;have hlt:=acN hpu;have kk1:Hid (Ctr Tryz.prog 136 [.str u,.int .i64 (dep+1)] (.tup [.agg [.int .i64 n.tag,.str n.data,.sl (aC n.kids) n.kids.length none],.str v,.int .i64 0])):=@hid _ (by
      intro L K q;refine ih.out (by omega) ?_;rw [hpu,yy,bJ];exact q)
     have hI3:aeM (acc++[n]) (lh (gH f) F' v)=M:=by
      rw [<- hI2];cases lh (gH f) F' v<;>simp [aeM]
     have e0:=bR n.kids;replace hI3:=hid hI3;clear hI hI2 hno hyes hpu hM;refine wk ?_;exact aq _ _ _ hlt (CutL (b:=by simp)) ⟨acc++[n],F',k+1,v,C++[.int .i64 n.tag,.str n.data,.sl (aC n.kids) n.kids.length none],_,rfl,by omega,by omega,hI3,hid ⟨by rw [hCk.out.1,gN,aC,bJ];rfl,by rw [hCk.out.2];simp⟩,rfl,rfl⟩
theorem Xo {s:List UInt8} (hs:s.length<=1100000) (h:K (yy (gH 64 s)) L):afB 104 [.str s] L K:=by
 rcases hp:gH 64 s with e|⟨n,r⟩
 ·rw [hp] at h;replace h:=hid h;have kk1:Hid (Ctr Tryz.prog 136 [.str s,.int .i64 1] (.tup [.agg [.int .i64 0,.str [],.sl [] 0 none],.str [],.int .i64 e])):=@hid _ (by intro L K q;exact Th 64 hs (by omega) (by omega) (by rw [hp];exact q));clear hp;refine acg KK ?_;exact ay (ab rfl h.out)
 ·rw [hp,yy,bJ] at h;replace h:=hid h;have kk1:Hid (Ctr Tryz.prog 136 [.str s,.int .i64 1] (.tup [.agg [.int .i64 n.tag,.str n.data,.sl (aC n.kids) n.kids.length none],.str r,.int .i64 0])):=@hid _ (by intro L K q;exact Th 64 hs (by omega) (by omega) (by rw [hp,yy,bJ];exact q));clear hp;have e0:=bR n.kids;refine acg KK ?_;refine ab ?_ h.out;simp only [AV.refs,AV.refsL,dP];rfl
def aas:Except Int Nd->AV
 | .error e=>.tup [.agg [.int .i64 0,.str [],.sl [] 0 none],.int .i64 e]
 | .ok n=>.tup [.agg (ndA n),.int .i64 0]
theorem Zy {s:List UInt8} (hs:s.length<=1100000) (h:K (aas (uN s)) L):afB 70 [.str s] L K:=by
 unfold uN at h;rcases hp:gH 64 s with e|⟨n,r⟩
 ·rw [hp] at h;replace h:=hid h;have he:=ug _ _ _ hp;have kk1:Hid (Ctr Tryz.prog 104 [.str s] (.tup [.agg [.int .i64 0,.str [],.sl [] 0 none],.str [],.int .i64 e])):=@hid _ (by intro L K q;exact Xo hs (by rw [hp];exact q));clear hp;refine acg rL ?_;exact ay (ab rfl h.out)
 ·rw [hp] at h;simp only at h;have kk1:Hid (Ctr Tryz.prog 104 [.str s] (.tup [.agg [.int .i64 n.tag,.str n.data,.sl (aC n.kids) n.kids.length none],.str r,.int .i64 0])):=@hid _ (by intro L K q;exact Xo hs (by rw [hp,yy,bJ];exact q));have e0:=bR n.kids;by_cases hr:r=[]
  ·rw [if_pos hr] at h;rw [aas,bJ] at h;replace h:=hid h;subst hr;clear hp;refine acg rL ?_;refine ab ?_ h.out;simp only [AV.refs,AV.refsL,dP];rfl
  ·rw [if_neg hr] at h;replace h:=hid h;clear hp;refine acg rL ?_;exact ay (ab rfl h.out)
end Go.Proofs.YtobihfefmlgaoaaGreat.Av
set_option maxRecDepth 100000
namespace Go.Proofs.YtobihfefmlgaoaaGreat.Av
open Go
def Mq:LSO:=[A8 1 0,Ao 2,Ac 3 0]
def Mp:LSO:=[As 4 3 1,AP 5 73 4 1,Aq 6 5,Ar 7 5,Aa 2 6,Aa 3 7]
def KO:aS:=⟨8,(.seq (.sreg Mq [])
 (.seq (.sreg Mp C6)
 .ret)),[(.tmp 2),(.tmp 3)]⟩
attribute [push_cast] Mq Mp
theorem UC:aT Tryz.prog (fun _ _=>1) 38=some KO.raw:=by kernel_rfl
def Mo:LSO:=[A8 2 0,Ao 4,Ac 5 0]
def Mn:LSO:=[Aa 13 1,A6 14 13 64]
def Mm:LSO:=[Ao 4,Ac 5 6]
def Ml:LSO:=[Ad 15 0 2,Ab 16 1 15,AB 17 16 0,Aa 18 17,.grp none 18 false
 [A3 19 18 0 2,A1 20 18 1 19,AD 21 18 20 255]
 22 (tm 21),Aa 23 22,.grp none 23 false
 [A3 24 23 0 2,A1 25 23 1 24,og 26 23 false (.bin .rem (tm 25) (iv 32)),Bf 27 23 26 31]
 28 (tm 27)]
def Mk:LSO:=[Ao 4,Ac 5 7]
def Mj:LSO:=[Ad 29 0 2,Ab 30 1 29,B4 31 30 32,By 32 31 2,Au 33 32 1,Aa 6 33]
def Mi:LSO:=[Aa 34 6,Aa 35 34,.grp none 35 true
 [A5 36 35 1 2,A4 37 35 1 36,BV 38 35 37,BC 39 35 38 0]
 40 (tm 39),Aa 41 40,.grp none 41 false
 [Ag 42 41 6,AY 43 41 42,Ag 44 41 43,.grp (some (41,false)) 44 true
 [A5 45 44 2 2,A4 46 44 1 45,AU 47 44 46,BC 48 44 47 0]
 49 (tm 48)]
 50 (tm 49)]
def Mh:LSO:=[Ao 4,Ac 5 4]
def Mg:LSO:=[Ap 7]
def Mf:LSO:=[Aa 51 7,Ad 52 1 2,Ab 53 1 52,A9 54 51 53,Aa 7 54]
def Jl:LSO:=[Ad 55 2 2,Ab 56 1 55,Ae 57 56,Ac 58 0]
def Jk:LSO:=[Ak 59 58 57]
def Jj:LSO:=[Aa 60 58,Aa 8 60]
def Ji:LSO:=[Ad 62 2 2,Ab 63 1 62,Aa 64 8,Al 65 3 63 64,As 66 3 65,Aa 67 1,Ah 68 67 1,Ay 69 73 66 68,Aa 61 69,Aq 70 61,Ar 71 61,Aa 9 70,Aa 10 71]
def Jh:LSO:=[Aa 72 10,A0 73 72 0]
def Jg:LSO:=[Aa 74 10,Ao 4,Aa 5 74]
def Jf:LSO:=[Aa 75 7,Aa 76 9,A9 77 75 76,Aa 7 77]
def Je:LSO:=[Ah 78 58 1,Aa 58 78]
def Jd:LSO:=[Aa 79 7,Ae 80 79,Aa 11 80]
def Jc:LSO:=[Aa 81 11,A6 82 81 1048576]
def Jb:LSO:=[Ao 4,Ac 5 5]
def Ja:LSO:=[Ad 83 0 2,Ab 84 1 83,AZ 85 84,AE 86 85,Aa 12 86]
def I9:LSO:=[Aa 87 11,AB 88 87 128]
def I8:LSO:=[Aa 89 12,Aa 90 11,AZ 91 90,AE 92 91,A9 93 89 92,Aa 12 93]
def I7:LSO:=[Aa 94 11,AB 95 94 256]
def I6:LSO:=[Aa 96 12,o1 97 (.bslice false 1 1 [(.int .u8 0)] [(0,(1,(.av (.int .u8 129))))]),A9 98 96 97,Aa 99 11,AZ 100 99,AE 101 100,A9 102 98 101,Aa 12 102]
def I5:LSO:=[Aa 103 11,AB 104 103 65536]
def I4:LSO:=[Aa 105 12,o1 106 (.bslice false 1 1 [(.int .u8 0)] [(0,(1,(.av (.int .u8 130))))]),A9 107 105 106,Aa 108 11,B4 109 108 256,AZ 110 109,AE 111 110,
 A9 112 107 111,Aa 113 11,By 114 113 256,AZ 115 114,AE 116 115,A9 117 112 116,Aa 12 117]
def I3:LSO:=[Aa 118 12,o1 119 (.bslice false 1 1 [(.int .u8 0)] [(0,(1,(.av (.int .u8 131))))]),A9 120 118 119,Aa 121 11,B4 122 121 65536,AZ 123 122,AE 124 123,
 A9 125 120 124,Aa 126 11,B4 127 126 256,By 128 127 256,AZ 129 128,AE 130 129,A9 131 125 130,Aa 132 11,By 133 132 256,AZ 134 133,AE 135 134,A9 136 131 135,Aa 12 136]
def I2:LSO:=[Aa 137 12,AN 138 137,Aa 139 7,AN 140 139,AK 141 138 140,Aa 4 141,Ac 5 0]
def KN:aS:=⟨142,(.seq (.sreg Mo [])
 (.seq (.seq (.sreg Mn Cp)
 (.cond (tm 14) (.seq (.sreg Mm [])
 .ret)
 .skip))
 (.seq (.seq (.sreg Ml Cu)
 (.cond (tm 28) (.seq (.sreg Mk [])
 .ret)
 .skip))
 (.seq (.sreg Mj Ct)
 (.seq (.seq (.sreg Mi Cs)
 (.cond (tm 50) (.seq (.sreg Mh [])
 .ret)
 .skip))
 (.seq (.sreg Mg [])
 (.seq (.sreg Mf Cs)
 (.seq (.seq (.sreg Jl C2)
 (.block 0 (.loop (.seq (.sreg Jk [])
 (.seq (.cond (tm 59) .skip
 (.exit 0))
 (.seq (.block 1 (.seq (.sreg Jj Cp)
 (.seq (.sreg Ji CY)
 (.seq (.seq (.sreg Jh Cp)
 (.cond (tm 73) (.seq (.sreg Jg Cv)
 .ret)
 .skip))
 (.sreg Jf Cr)))))
 (.sreg Je Cp)))))))
 (.seq (.sreg Jd Cq)
 (.seq (.seq (.sreg Jc Cp)
 (.cond (tm 82) (.seq (.sreg Jb [])
 .ret)
 .skip))
 (.seq (.sreg Ja Cs)
 (.seq (.seq (.sreg I9 Cp)
 (.cond (tm 88) (.sreg I8 Ct)
 (.seq (.sreg I7 Cp)
 (.cond (tm 95) (.sreg I6 Cw)
 (.seq (.sreg I5 Cp)
 (.cond (tm 104) (.sreg I4 CG)
 (.sreg I3 [true,false,false,false,false,false,false,false,false,false,false,false,false,false,false,false,false,false,false,false])))))))
 (.seq (.sreg I2 Cx)
 .ret))))))))))))),[(.tmp 4),(.tmp 5)]⟩
attribute [push_cast] Mo Mn Mm Ml Mk Mj Mi Mh Mg Mf Jl Jk Jj Ji Jh Jg Jf Je Jd Jc Jb Ja I9 I8 I7 I6 I5 I4 I3 I2
theorem UB:aT Tryz.prog (fun _ _=>1) 73=some KN.raw:=by kernel_rfl
def zR:LSO:=[A8 1 0,Ao 2,Ac 3 0]
def zQ:LSO:=[Ad 13 0 1,Ab 14 1 13,AB 15 14 1,Aa 16 15,.grp none 16 false
 [A3 17 16 0 1,A1 18 16 1 17,AD 19 16 18 4]
 20 (tm 19)]
def zP:LSO:=[Ao 2,Ac 3 24]
def zO:LSO:=[Ad 21 0 1,Ab 22 1 21,AZ 23 22,AE 24 23,AN 25 24,BL 26 2 25,Ba 27 26,
 o1 28 (.build [(.int .i64 0),(.str []),(.sl [] 0 (some 0))] [(0,(1,(iv 48))),(2,(1,(tm 27)))]),A7 4,Af 3 4 28]
def zN:LSO:=[Ad 30 1 1,Ab 31 1 30,Aj 32 35 31,Aa 29 32,Aq 33 29,Ar 34 29,Aa 5 33,Aa 6 34]
def zM:LSO:=[Aa 35 6,A0 36 35 0]
def zL:LSO:=[Aa 37 6,Ao 2,Aa 3 37]
def zK:LSO:=[Ad 38 2 4,Ab 39 1 38,Aa 40 5,BL 41 4 40,Ba 42 41,Bi 43 39 42,Ad 44 2 4,Af 1 44 43]
def zJ:LSO:=[Ad 45 0 1,Ab 46 1 45,Au 47 46 4]
def zI:LSO:=[Ad 49 2 1,Ab 50 1 49,Aj 51 35 50,Aa 48 51,Aq 52 48,Ar 53 48,Aa 5 52,Aa 6 53]
def vy:LSO:=[Aa 54 6,A0 55 54 0]
def vx:LSO:=[Aa 56 6,Ao 2,Aa 3 56]
def vw:LSO:=[Ad 57 2 4,Ab 58 1 57,Aa 59 5,BL 60 4 59,Ba 61 60,Bi 62 58 61,Ad 63 2 4,Af 1 63 62]
def vv:LSO:=[Ad 64 0 1,Ab 65 1 64,A0 66 65 2]
def vu:LSO:=[o1 67 (.build [(.int .i64 0),(.str []),(.sl [] 0 (some 0))] [(0,(1,(iv 48)))]),A7 7,Af 3 7 67]
def vt:LSO:=[Ad 68 3 1,Ab 69 1 68,Ae 70 69,Ac 71 0]
def vr:LSO:=[Ak 72 71 70]
def vq:LSO:=[Al 73 2 69 71,As 74 2 73,Br 9,Af 2 9 74]
def vp:LSO:=[o1 75 (.build [(.int .i64 0),(.str []),(.sl [] 0 (some 0))] [(0,(1,(iv 49)))]),A7 10,Af 3 10 75]
def vn:LSO:=[Ad 76 1 9,Ab 77 1 76,Ae 78 77,Ac 79 0]
def vm:LSO:=[Ak 80 79 78]
def vl:LSO:=[Al 81 1 77 79,Ab 82 1 81,Aa 12 82]
def vj:LSO:=[Ad 83 2 10,Ab 84 1 83,Aa 85 12,BL 86 4 85,Ba 87 86,Bi 88 84 87,Ad 89 2 10,Af 1 89 88]
def vi:LSO:=[Ah 90 79 1,Aa 79 90]
def vh:LSO:=[Ad 91 2 7,Ab 92 1 91,Ad 93 0 9,Ab 94 1 93,BL 95 4 94,As 96 3 10,
 o1 97 (.bslice false 3 2 [(.int .i64 0),(.str []),(.sl [] 0 (some 0)),(.int .i64 0),(.str []),(.sl [] 0 (some 0))] [(0,(3,(tm 95))),(3,(3,(tm 96)))]),
 o1 98 (.build [(.int .i64 0),(.str []),(.sl [] 0 (some 0))] [(0,(1,(iv 48))),(2,(1,(tm 97)))]),Ba 99 98,Bi 100 92 99,Ad 101 2 7,Af 1 101 100]
def vg:LSO:=[Ah 102 71 1,Aa 71 102]
def vf:LSO:=[Ad 103 2 4,Ab 104 1 103,As 105 3 7,Ba 106 105,Bi 107 104 106,Ad 108 2 4,Af 1 108 107]
def ve:LSO:=[As 109 3 4,Aj 110 38 109,Aq 111 110,Ar 112 110,Aa 2 111,Aa 3 112]
def dg:aS:=⟨113,(.seq (.sreg zR [])
 (.seq (.seq (.sreg zQ Cs)
 (.cond (tm 20) (.seq (.sreg zP [])
 .ret)
 .skip))
 (.seq (.sreg zO C1)
 (.seq (.sreg zN C9)
 (.seq (.seq (.sreg zM Cp)
 (.cond (tm 36) (.seq (.sreg zL Cv)
 .ret)
 .skip))
 (.seq (.sreg zK C7)
 (.seq (.seq (.sreg zJ Cq)
 (.cond (tm 47) (.seq (.sreg zI C9)
 (.seq (.seq (.sreg vy Cp)
 (.cond (tm 55) (.seq (.sreg vx Cv)
 .ret)
 .skip))
 (.sreg vw C7)))
 .skip))
 (.seq (.seq (.sreg vv Cq)
 (.cond (tm 66) (.seq (.sreg vu Cp)
 (.seq (.seq (.sreg vt C4)
 (.block 0 (.loop (.seq (.sreg vr [])
 (.seq (.cond (tm 72) .skip
 (.exit 0))
 (.seq (.block 1 (.seq (.sreg vq Cq)
 (.seq (.sreg vp Cp)
 (.seq (.seq (.sreg vn C4)
 (.block 2 (.loop (.seq (.sreg vm [])
 (.seq (.cond (tm 80) .skip
 (.exit 2))
 (.seq (.block 3 (.seq (.sreg vl Cq)
 (.sreg vj C7)))
 (.sreg vi Cp)))))))
 (.sreg vh CL)))))
 (.sreg vg Cp)))))))
 (.sreg vf CJ)))
 .skip))
 (.seq (.sreg ve C6)
 .ret))))))))),[(.tmp 2),(.tmp 3)]⟩
attribute [push_cast] zR zQ zP zO zN zM zL zK zJ zI vy vx vw vv vu vt vr vq vp vn vm vl vj vi vh vg vf ve
theorem ic:aT Tryz.prog (fun _ _=>1) 16=some dg.raw:=by kernel_rfl
attribute [push_cast] KO KN dg
set_option maxHeartbeats 8000000
set_option maxRecDepth 100000
theorem af9 (n:Nat):b8 (n % 256)=b8 n:=by
 apply ajh.1;rw [zu,zu];omega
theorem Tf (n:Nat):ur (.int .u8 ((n % 256:Nat):Int))=b8 n:=af9 n
theorem N2 (n:Nat):IntKind.u8.wrap (n:Int)=((n % 256:Nat):Int):=by
 simp only [IntKind.wrap,IntKind.signed,IntKind.bits];simp
theorem Yw {t:Int} {d:List UInt8} {ks:List Nd} {p:Nd->List UInt8×Int} {dep:Int} (hc:((t=2\/t=4)/\ks=[])\/((t=48\/t=49)/\d=[])) (hd:(d.length:Int)<=140737488351232) (hks:ks.length<=1100000) (hp:∀ n,(p n).2=0->(p n).1.length<=1048581) (h0:1<=dep) (h64:dep<=64)
  (H:∀ n∈ks,∀ (L:List Blk) (K:AV->List Blk->Prop),K (.tup [.str (p n).1,.int .i64 (p n).2]) L->afB 73 [.agg (ndA n),.int .i64 (dep+1)] L K) {R:List UInt8×Int}
  (hR:(if (iN p d ks).2≠0 then ([],(iN p d ks).2) else if 1048576<(iN p d ks).1.length then ([],5) else (b8 t.toNat::(rH (iN p d ks).1.length++(iN p d ks).1),0))=R)
  {cap:Option Nat} {L:List Blk} {K:afC} (hK:K (.tup [.str R.1,.int .i64 R.2]) L) :
  afB 73 [.agg [.int .i64 t,.str d,.sl (aC ks) ks.length cap],.int .i64 dep] L K:=by
 obtain ⟨Q,hQ⟩:=aaR (iN p d ks);rw [hQ] at hR;replace hK:=hid hK;replace hR:=hid hR;replace H:=@hid _ @H;replace hp:=hid hp;have hb:(d.length:Int)+ks.length * 1048581<=140737488355328:=by
  rcases hc with ⟨_,rfl⟩|⟨_,rfl⟩
  ·simp;omega
  ·simp;omega
 have g1:¬ (64:Int)<dep:=by omega
 have g2:¬ t<0:=by omega
 have g3:¬ (255:Int)<t:=by omega
 obtain ⟨x31,g4,g5⟩:∃ x,Int.tmod t 32=x/\¬ x=31:=by rcases hc with ⟨rfl|rfl,_⟩|⟨rfl|rfl,_⟩<;>exact ⟨_,rfl,by decide⟩
 obtain ⟨q,z,g6,g7,g8⟩:∃ q z:Int,IntKind.i64.wrap (Int.tdiv t 32)=q/\Int.tmod q 2=z/\((z=0/\¬ (0:Int)<(ks.length:Int))\/(z=1/\¬ (0:Int)<(d.length:Int))):=by
  rcases hc with ⟨rfl|rfl,rfl⟩|⟨rfl|rfl,rfl⟩
  ·exact ⟨_,_,rfl,rfl,.inl ⟨by decide,by simp⟩⟩
  ·exact ⟨_,_,rfl,rfl,.inl ⟨by decide,by simp⟩⟩
  ·exact ⟨_,_,rfl,rfl,.inr ⟨by decide,by simp⟩⟩
  ·exact ⟨_,_,rfl,rfl,.inr ⟨by decide,by simp⟩⟩
 have w0:IntKind.u8.wrap t=t:=cq (by omega) (by omega);have w1:IntKind.i64.wrap (dep+1)=dep+1:=ac (by omega) (by omega);have f1:=V2 d;have f2:=V0 d;have hdl:(u8s d).length=d.length:=K1 d;have i1:IntKind.i64.wrap 0=0:=by decide
 clear hc;rcases g8 with ⟨rfl,g9⟩|⟨rfl,g9⟩
 all_goals
  refine acg UB ?_;refine ah (fun m T' L'=>∃ (i z:Nat) (acc:List UInt8) (C:List AV) (X:List Blk),m=ks.length - i/\i<=ks.length/\Hid (iN p acc (ks.drop i)=Q)/\z<=d.length+i * 1048581/\Hid (C=u8s acc/\z=acc.length)/\T'=[(58,.int .i64 (i:Int)),(57,.int .i64 ks.length),(7,.gsl C z (L.length+1) 1),(2,.ptr L.length 0),(1,.int .i64 dep)]/\L'=L++(.cells [.int .i64 t,.str d,.sl (aC ks) ks.length cap] :: .spare z 1::X)) (CutS (b:=by simp)) ⟨0,_,d,_,[],rfl,ahp _,hid (by simpa using hQ),by simp,hid ⟨rfl,rfl⟩,rfl,rfl⟩ ?_;rintro _ _ _ ⟨i,z,acc,C,X,rfl,hi,hI,hal,hCz,rfl,rfl⟩;by_cases hlt:i<ks.length
  ·have g11:(i:Int)<(ks.length:Int):=by omega
   have w2:=ace i (by omega);have e3:=gh hlt;have e4:i * 3+3<=(aC ks).length:=by rw [dH];omega
   obtain ⟨n,hn⟩:=aaR (ks.getD i bd);have hnm:n∈ks:=by rw [<- hn];simp [hlt]
   have hdr:ks.drop i=n::ks.drop (i+1):=by rw [ah2 hlt,<- hn];simp [hlt]
   rw [hn,bJ] at e3;have hI2:=hI.out;rw [hdr,iN] at hI2;obtain ⟨⟨s,e⟩,hpn⟩:∃ q,p n=q:=⟨_,rfl⟩;have kk1:Hid (Ctr Tryz.prog 73 [.agg [.int .i64 n.tag,.str n.data,.sl (aC n.kids) n.kids.length none],.int .i64 (dep+1)] (.tup [.str s,.int .i64 e])):=@hid _ (by
    intro L K q;have:=H.out n hnm L K;rw [bJ,hpn] at this;exact this q)
   have hsl:e=0->s.length<=1048581:=fun e0=>by
    have:=hp.out n;rw [hpn] at this;exact this e0
   rw [hpn] at hI2;simp only at hI2;clear hI hdr hn hnm hQ g9;by_cases he:e=0
   ·subst he;rw [if_neg (by simp)] at hI2;have hsl:=hsl rfl;have f1:=V2 s;have f2:=V0 s;have f3:z+s.length<=d.length+(i+1) * 1048581:=by omega
    replace hI2:=hid hI2;refine wk ?_;exact aq _ _ _ (by omega) (CutL (b:=by simp)) ⟨i+1,z+s.length,acc++s,C++u8s s,_,rfl,hlt,hI2,f3,hid ⟨by rw [hCz.out.1,ZC],by rw [hCz.out.2,ahy]⟩,rfl,rfl⟩
   ·rw [if_pos he] at hI2;have hR2:=hR.out;rw [<- hI2,if_pos he] at hR2;have h':=hK.out;rw [<- hR2] at h';replace h':=hid h';clear hI2 hR2;refine wk ?_;exact ab rfl h'.out
  ·have hke:i=ks.length:=by omega
   subst hke;have g11:¬ (ks.length:Int)<(ks.length:Int):=by omega
   have hI2:=hI.out;rw [aij,iN] at hI2;have hR2:=hR.out;rw [<- hI2,if_neg (by simp)] at hR2;simp only at hR2;obtain ⟨rfl,rfl⟩:=hCz.out;have e0:=OI acc;have e1:=V1 acc;have e3:(u8s acc).take acc.length=u8s acc:=by rw [<- K1 acc,ahA]
   have h':=hK.out;clear hI hI2 hCz hQ g9 f1 f2;by_cases hl:1048576<acc.length
   ·rw [if_pos hl] at hR2;rw [<- hR2] at h';replace h':=hid h';have g12:(1048576:Int)<(acc.length:Int):=by omega
    clear hl hR2;refine wk ?_;exact ab rfl h'.out
   rw [if_neg hl] at hR2;rw [<- hR2] at h';have g12:¬ (1048576:Int)<(acc.length:Int):=by omega
   obtain ⟨m,hm⟩:=aaR (acc.length);rw [hm] at h' e3 hal g12;have hm2:m<=1048576:=by omega
   obtain ⟨y0,hy0⟩:∃ y:Int,((m % 256:Nat):Int)=y:=⟨_,rfl⟩;obtain ⟨y1,hy1⟩:∃ y:Int,((m / 256:Nat):Int)=y:=⟨_,rfl⟩;obtain ⟨y2,hy2⟩:∃ y:Int,((m / 256 % 256:Nat):Int)=y:=⟨_,rfl⟩;obtain ⟨y3,hy3⟩:∃ y:Int,((m / 65536:Nat):Int)=y:=⟨_,rfl⟩;obtain ⟨y4,hy4⟩:∃ y:Int,((m / 65536 % 256:Nat):Int)=y:=⟨_,rfl⟩;have u0:IntKind.u8.wrap (m:Int)=y0:=by rw [<- hy0];exact N2 m
   have u1:IntKind.i64.wrap (Int.tdiv (m:Int) 256)=y1:=by
    rw [aka (by omega),ac (by omega) (by omega)];omega
   have u2:IntKind.i64.wrap (Int.tdiv (m:Int) 65536)=y3:=by
    rw [aka (by omega),ac (by omega) (by omega)];omega
   have u3:Int.tmod (m:Int) 256=y0:=by
    rw [ajN (by omega)];omega
   have u4:Int.tmod y1 256=y2:=by
    rw [ajN (by omega)];omega
   have u5:IntKind.u8.wrap y1=y2:=by rw [<- hy1,<- hy2];exact N2 _
   have u6:IntKind.u8.wrap y3=y4:=by rw [<- hy3,<- hy4];exact N2 _
   have u7:IntKind.u8.wrap y0=y0:=cq (by omega) (by omega);have u8:IntKind.u8.wrap y2=y2:=cq (by omega) (by omega);have v1:ur (.int .u8 y0)=b8 m:=by rw [<- hy0];exact Tf m
   have v2:ur (.int .u8 y2)=b8 (m / 256):=by rw [<- hy2];exact Tf _
   have v3:ur (.int .u8 y4)=b8 (m / 65536):=by rw [<- hy4];exact Tf _
   have j1:∀ x,T5 (.int .u8 x)=true:=fun _=>rfl
   have m1:List.map ur [.int .u8 t,.int .u8 y0]=[b8 t.toNat,b8 m]:=by rw [<- v1];rfl
   have m2:List.map ur [.int .u8 t,.int .u8 129,.int .u8 y0]=[b8 t.toNat,129,b8 m]:=by rw [<- v1];rfl
   have m3:List.map ur [.int .u8 t,.int .u8 130,.int .u8 y2,.int .u8 y0]=[b8 t.toNat,130,b8 (m / 256),b8 m]:=by rw [<- v1,<- v2];rfl
   have m4:List.map ur [.int .u8 t,.int .u8 131,.int .u8 y4,.int .u8 y2,.int .u8 y0]=[b8 t.toNat,131,b8 (m / 65536),b8 (m / 256),b8 m]:=by rw [<- v1,<- v2,<- v3];rfl
   clear v1 v2 v3 hy0 hy1 hy2 hy3 hy4 hl hR2;by_cases h1:m<128
   ·have k1:(m:Int)<128:=by omega
    rw [rH,if_pos h1] at h';replace h':=hid h';clear h1;refine wk ?_;exact ab rfl h'.out
   rw [rH,if_neg h1] at h';have k1:¬ (m:Int)<128:=by omega
   by_cases h2:m<256
   ·have k2:(m:Int)<256:=by omega
    rw [if_pos h2] at h';replace h':=hid h';clear h1 h2;refine wk ?_;exact ab rfl h'.out
   rw [if_neg h2] at h';have k2:¬ (m:Int)<256:=by omega
   by_cases h3:m<65536
   ·have k3:(m:Int)<65536:=by omega
    rw [if_pos h3] at h';replace h':=hid h';clear h1 h2 h3;refine wk ?_;exact ab rfl h'.out
   ·have k3:¬ (m:Int)<65536:=by omega
    rw [if_neg h3] at h';replace h':=hid h';clear h1 h2 h3;refine wk ?_;exact ab rfl h'.out
theorem ZO:∀ (h:Nat) {n:Nd} {dep:Int} (ho:okN h n) (h0:1<=dep) (h64:dep+h<=64) {L:List Blk} {K:afC} (hK:K (.tup [.str (cM h n).1,.int .i64 (cM h n).2]) L),afB 73 [.agg (ndA n),.int .i64 dep] L K
 | 0,.mk t d ks,dep,ho,h0,h64,L,K,hK=>by
   obtain ⟨ht,rfl,hd⟩:=ho;rw [bG];exact Yw (p:=fun _=>([],0)) (.inl ⟨ht,rfl⟩) hd (by simp) (fun n e=>by simp) h0 (by omega) (fun n hn=>by cases hn) (R:=if 1048576<d.length then ([],5) else (b8 t.toNat::(rH d.length++d),0)) (by rw [if_neg (by simp [iN])];rfl) (by rw [cM] at hK;exact hK)
 | h+1,.mk t d ks,dep,ho,h0,h64,L,K,hK=>by
   rw [bG];rw [cM] at hK;rcases ho with ⟨ht,rfl,hd⟩|⟨ht,rfl,hk,hk2⟩
   ·exact Yw (p:=cM h) (.inl ⟨ht,rfl⟩) hd (by simp) (Qq h) h0 (by omega) (fun n hn=>by cases hn) rfl hK
   ·exact Yw (p:=cM h) (.inr ⟨ht,rfl⟩) (by simp) hk (Qq h) h0 (by omega) (fun n hn L K q=>ZO h (hk2 n hn) (by omega) (by omega) q) rfl hK
theorem afM {n:Nd} (ho:okN 4 n) {L:List Blk} {K:afC} (hK:K (.tup [.str (cM 4 n).1,.int .i64 (cM 4 n).2]) L):afB 38 [.agg (ndA n)] L K:=by
 obtain ⟨⟨s,e⟩,hp⟩:∃ q,cM 4 n=q:=⟨_,rfl⟩;rw [hp] at hK;replace hK:=hid hK;have kk1:Hid (Ctr Tryz.prog 73 [.agg [.int .i64 n.tag,.str n.data,.sl (aC n.kids) n.kids.length none],.int .i64 1] (.tup [.str s,.int .i64 e])):=@hid _ (by
  intro L K q;have:=@ZO 4 n 1 ho (by omega) (by omega) L K;rw [bJ,hp] at this;exact this q)
 rw [bJ];refine acg UC ?_;exact ab rfl hK.out
variable {L:List Blk} {K:afC}
def dnR (d:List Rdn):Prop:=d.length<=1100000/\∀ r∈d,r.length<=1100000/\∀ a∈r,(a.1.length:Int)<=140737488351232
theorem Tp {u:Upd} (hd:dnR u.dn) (ht:dnR u.to) (hu:ov u) (h:K (N4 (wrU u)) L):afB 16 [.agg (dO u)] L K:=by
 obtain ⟨k,d,t,l⟩:=u;simp only [dO] at hd ht hu ⊢;unfold wrU N4 at h;simp only at h;by_cases hk:k<1\/4<k
 ·rw [if_pos hk] at h;replace h:=hid h;clear hd ht hu;refine aa ic (by simp [dg]) ?_;simp only [dg,ag];by_cases h1:k<1
  ·clear hk;refine wk ?_;exact ab rfl h.out
  ·have h2:4<k:=by omega
   clear hk;refine wk ?_;exact ab rfl h.out
 rw [if_neg hk] at h;have g1:¬ k<1:=by omega
 have g2:¬ 4<k:=by omega
 have w0:IntKind.u8.wrap k=k:=cq (by omega) (by omega);have j0:T5 (.int .u8 k)=true:=rfl;obtain ⟨c,hc⟩:=aaR (b8 k.toNat);have j1:List.map ur [.int .u8 k]=[c]:=by rw [<- hc];rfl
 obtain ⟨⟨s1,e1⟩,hp1⟩:∃ q,prS d=q:=⟨_,rfl⟩;have kk1:Hid (Ctr Tryz.prog 35 [dnA d] (.tup [.str s1,.int .i64 e1])):=@hid _ (by
  intro L K q;refine jT hd.1 hd.2 ?_;rw [hp1];exact q)
 rw [hp1] at h;simp only at h;by_cases he1:e1=0;rotate_left
 ·rw [if_pos he1] at h;replace h:=hid h;clear hk hp1;refine acg ic ?_;exact ab rfl h.out
 rw [if_neg (by simpa using he1)] at h;subst he1;obtain ⟨⟨s2,e2⟩,hp2⟩:∃ q,prS t=q:=⟨_,rfl⟩;have kk2:Hid (Ctr Tryz.prog 35 [dnA t] (.tup [.str s2,.int .i64 e2])):=@hid _ (by
  intro L K q;refine jT ht.1 ht.2 ?_;rw [hp2];exact q)
 rw [hp2] at h;simp only at h;by_cases he2:k=4/\e2≠0
 ·rw [if_pos he2] at h;obtain ⟨rfl,he2⟩:=he2;replace h:=hid h;clear hk hp1 hp2;refine acg ic ?_;exact ab rfl h.out
 rw [if_neg he2] at h;clear hk;refine aa ic (by simp [dg]) ?_;simp only [dg,ag]
 iterate 29 first
  | refine cP ?_
  | (first|refine bY (by kernel_rfl) ?_|refine bj (by kernel_rfl) ?_|refine bm ?_|refine fy ?_|refine cT (fun _=>?_)|refine a8 ?_|refine b9 ?_|refine kk1.out ?_|refine cA (kk1.out ⟨rfl,rfl⟩) (kk1.out ⟨rfl,rfl⟩) ?_|refine bf (kk1.out ⟨rfl,rfl⟩) ?_)
    simp (config:={ maxSteps:=2000000 }) only [Kon,push_cast,reduceIte,Nat.reduceEqDiff,Nat.reduceAdd,Nat.reduceMul,Nat.reduceSub,Nat.reduceLT,Nat.reduceLeDiff,Int.reduceLT,Int.reduceLE,Int.reduceAdd,Int.reduceSub,Int.reduceNeg,Int.reduceToNat,Int.reduceEq,reduceCtorEq, *]
  | (first|refine bU (by kernel_rfl) ?_|refine bT ?_|refine bZ ?_|refine cY (a7 ?_))
    simp only [push_cast,reduceIte,Nat.reduceEqDiff,Nat.reduceAdd,Nat.reduceMul,Nat.reduceSub,Nat.reduceLT,Nat.reduceLeDiff,Int.reduceLT,Int.reduceLE,Int.reduceAdd,Int.reduceSub,Int.reduceNeg,Int.reduceToNat,Int.reduceEq,reduceCtorEq, *]
  | exact cU
  | first|apply cV|apply bV|apply cW|apply bW|apply cX|apply bX
  | refine br ?_
  | first|refine bp rfl ?_|refine bq rfl ?_|refine aW rfl ?_ ?_|refine bz rfl (fun _=>?_) (fun _=>?_)|refine bw rfl (fun _=>?_) (fun _=>?_)
  | ((first|refine aV (fun _=>?_) (fun _=>?_)|refine a6 (fun _=>?_) (fun _=>?_))<;>try simp (config:={ maxSteps:=2000000 }) only [Kon,push_cast,reduceIte,Nat.reduceEqDiff,Nat.reduceAdd,Nat.reduceMul,Nat.reduceSub,Nat.reduceLT,Nat.reduceLeDiff,Int.reduceLT,Int.reduceLE,Int.reduceAdd,Int.reduceSub,Int.reduceNeg,Int.reduceToNat,Int.reduceEq,reduceCtorEq, *])
  | refine And.intro trivial ?_
  | refine And.intro (by omega) ?_
  | refine bA rfl (fun _=>?_) (fun _=>?_)
  | refine And.intro ?_ ?_
 obtain ⟨nl,hnl⟩:∃ nl,nl=if k=4 then [bC s1,bC s2] else [bC s1]:=⟨_,rfl⟩
 refine uq (fun T2 L2=>T2=[(4,.ptr (L.length+1) 0),(1,.ptr L.length 0)]/\L2=L++[.cells [.int .i64 k,dnA d,dnA t,.sl (aU l) l.length none],.cells [.int .i64 48,.str [],.gsl (.int .i64 2 :: .str [c] :: .sl [] 0 (some 0)::aC nl) (nl.length+1) (L.length+2) 3],.spare (nl.length+1) 3]) ?_ ?_
 ·by_cases h4:k=4
  ·subst h4;have he2':e2=0:=by simpa using he2
   subst he2';rw [if_pos rfl] at hnl;subst hnl;clear hp1 hp2 hd ht hu h he2 hc;refine wk ?_;exact gV _ _ (CutS (b:=by simp)) ⟨rfl,rfl⟩
  ·rw [if_neg h4] at hnl;subst hnl;clear hp1 hp2 hd ht hu h he2 hc;refine wk ?_;exact gV _ _ (CutS (b:=by simp)) ⟨rfl,rfl⟩
 rintro _ _ ⟨rfl,rfl⟩ -;have hrec:uu k s1 s2 l=.mk 48 [] ((.mk 2 [c] []::nl)++if k=2 then [] else [Od l]):=by
  rw [hnl,uu,hc];by_cases h4:k=4
  ·rw [if_pos h4,if_pos h4];rfl
  ·rw [if_neg h4,if_neg h4];rfl
 have hO:okN 4 (uu k s1 s2 l):=YK (by have:=K4 d;rw [hp1] at this;simp only at this;omega) (by have:=K4 t;rw [hp2] at this;simp only at this;omega) hu.1 hu.2;rw [hrec] at h hO;have hnl2:nl.length<=2:=by rw [hnl];split<;>simp
 clear kk1 kk2 hp1 hp2 hd ht hrec hnl hc he2;have putf:∀ {C:List AV} {n i:Nat} {nl:List Nd} (hC:AV.frzL C=aC nl) (hn:n=nl.length) (hO:okN 4 (.mk 48 [] nl)) {L:List Blk} {K:afC},K (.tup [.str (cM 4 (.mk 48 [] nl)).1,.int .i64 (cM 4 (.mk 48 [] nl)).2]) L->afB 38 [.agg [.int .i64 48,.str [],.gsl C n i 3]] L K:=by
  intro C n i nl hC hn hO L K q;subst hn;refine dQ ?_;simp only [AV.frzL,AV.frz,hC];have:=@afM _ hO L K q;rw [bG] at this;exact this
 obtain ⟨C,hC⟩:=aaR (AV.int .i64 2 :: .str [c] :: .sl [] 0 (some 0)::aC nl);have hCf:AV.frzL C=aC (.mk 2 [c] []::nl):=by
  rw [<- hC];simp only [AV.frzL,AV.frz,bR,aC,bG,aig,ah3,ahZ]
 rw [hC];by_cases h2:k=2
 ·rw [if_pos h2,ahO] at h hO;obtain ⟨⟨s,e⟩,hse⟩:∃ q,cM 4 (.mk 48 [] (.mk 2 [c] []::nl))=q:=⟨_,rfl⟩;rw [hse] at h;have kk1:Hid (∀ {L':List Blk} {K:afC},K (.tup [.str s,.int .i64 e]) L'->afB 38 [.agg [.int .i64 48,.str [],.gsl C (nl.length+1) (L.length+2) 3]] L' K):=@hid _ (by
   intro L' K q;have:=@putf C (nl.length+1) (L.length+2) (.mk 2 [c] []::nl) hCf (by simp) hO L' K;rw [hse] at this;exact this q)
  replace h:=hid h;subst h2;clear putf hC hCf hu hO hse;refine wk ?_;exact ab rfl h.out
 rw [if_neg h2] at h hO;obtain ⟨⟨s,e⟩,hse⟩:∃ q,cM 4 (.mk 48 [] (.mk 2 [c] []::nl++[Od l]))=q:=⟨_,rfl⟩;rw [hse] at h;have kk1:Hid (∀ {L':List Blk} {K:afC},K (.tup [.str s,.int .i64 e]) L'->afB 38 [.agg [.int .i64 48,.str [],.gsl (C++[.int .i64 48,.str [],.sl (aC (l.map rX)) l.length none]) (nl.length+1+1) (L.length+2) 3]] L' K):=@hid _ (by
  intro L' K q;have hf:AV.frzL (C++[.int .i64 48,.str [],.sl (aC (l.map rX)) l.length none])=aC (.mk 2 [c] []::nl++[Od l]):=by
   rw [AV.frzL_eq,ahN,<- AV.frzL_eq,hCf,gN];simp only [aC,Od,bG,ahF,ahO,ahH,aif,AV.frz,bR]
  have:=@putf _ (nl.length+1+1) (L.length+2) (.mk 2 [c] []::nl++[Od l]) hf (by simp) hO L' K;rw [hse] at this;exact this q)
 replace h:=hid h;obtain ⟨U,hU⟩:∃ U,U=Blk.cells [.int .i64 k,dnA d,dnA t,.sl (aU l) l.length none]:=⟨_,rfl⟩;obtain ⟨hul,hua⟩:=hu;simp only at hul hua;replace hua:=hid hua;clear putf hC hCf hO hse;refine wk ?_;refine lF (L.length+3) 2 3 (c:=[.int .i64 48,.str [],.sl [] 0 (some 0)]) (l:=[]) (n:=0) (by simp) rfl (ahQ 3).symm ?_;rw [<- hU];replace hU:=hid hU;refine ah (fun m T' L'=>∃ (i:Nat) (D:List AV) (X:List Blk),m=l.length - i/\i<=l.length/\Hid (D=aC ((l.take i).map rX))/\T'=[(71,.int .i64 (i:Int)),(70,.int .i64 l.length),(69,.sl (aU l) l.length none),(7,.ptr (L.length+3) 0),(4,.ptr (L.length+1) 0)]/\L'=L++(U :: .cells [.int .i64 48,.str [],.gsl C (nl.length+1) (L.length+2) 3] :: .spare (nl.length+1) 3 :: .cells [.int .i64 48,.str [],.gsl D i (L.length+4) 3] :: .spare i 3::X)) (CutS (b:=by simp)) ⟨0,[],[],rfl,ahp _,hid rfl,rfl,by simp⟩ ?_;rintro _ _ _ ⟨i,D,X,rfl,hi,hD,rfl,rfl⟩;by_cases hlt:i<l.length
 ·have g3:(i:Int)<(l.length:Int):=by omega
  have w2:=ace i (by omega);have e3:=ql hlt;have e4:i * 2+2<=(aU l).length:=by rw [rQ];omega
  obtain ⟨⟨n,vs⟩,ha⟩:∃ a,l.getD i ([],[])=a:=⟨_,rfl⟩;have hm:=hua.out (n,vs) (by rw [<- ha];simp [hlt]);have hvl:vs.length<=1100000:=hm.2.1;rw [ha] at e3;simp only [atA] at e3;have htk:aC ((l.take (i+1)).map rX)=D++[.int .i64 48,.str [],.sl [.int .i64 4,.str n,.sl [] 0 none,.int .i64 49,.str [],.sl (aC (vs.map bC)) vs.length none] 2 none]:=by
   rw [hD.out,ahK hlt,show l[i]=(n,vs) by rw [<- ha];simp [hlt],ahN,gN];simp only [ahH,aif,rX,aC,bC,bG,ahO,ahF];rfl
  replace htk:=hid htk;clear ha hm hD hua;refine wk ?_;refine lF (L.length+(X.length+1+1+1+1+1+1)) 2 3 (c:=[.int .i64 49,.str [],.sl [] 0 (some 0)]) (l:=[]) (n:=0) (by simp) rfl (ahQ 3).symm ?_;refine ah (fun m T' L'=>∃ (j:Nat) (E:List AV),m=vs.length - j/\j<=vs.length/\Hid (E=aC ((vs.take j).map bC))/\T'=[(79,.int .i64 (j:Int)),(78,.int .i64 vs.length),(77,.sl (vs.map AV.str) vs.length none),(10,.ptr (L.length+(X.length+1+1+1+1+1+1)) 0),(9,.ptr (L.length+(X.length+1+1+1+1+1)) 0),(71,.int .i64 (i:Int)),(70,.int .i64 l.length),(69,.sl (aU l) l.length none),(7,.ptr (L.length+3) 0),(4,.ptr (L.length+1) 0)]/\L'=L++(U :: .cells [.int .i64 48,.str [],.gsl C (nl.length+1) (L.length+2) 3] :: .spare (nl.length+1) 3 :: .cells [.int .i64 48,.str [],.gsl D i (L.length+4) 3] :: .spare i 3::(X++[.cells [.str n,.sl (vs.map AV.str) vs.length none],.cells [.int .i64 49,.str [],.gsl E j (L.length+(X.length+1+1+1+1+1+1+1)) 3],.spare j 3]))) (CutS (b:=by simp)) ⟨0,[],rfl,ahp _,hid rfl,rfl,by simp⟩ ?_;rintro _ _ _ ⟨j,E,rfl,hj,hE,rfl,rfl⟩;by_cases hjl:j<vs.length
  ·have g4:(j:Int)<(vs.length:Int):=by omega
   have w3:=ace j (by omega);obtain ⟨v,hv⟩:=aaR (vs.getD j []);have e5:(vs.map AV.str).getD j .undef=.str v:=by rw [<- hv];simp [hjl]
   have e6:j<(vs.map AV.str).length:=by simpa using hjl
   have htk2:aC ((vs.take (j+1)).map bC)=E++[.int .i64 4,.str v,.sl [] 0 none]:=by
    rw [hE.out,ahK hjl,ahN,gN,show vs[j]=v by rw [<- hv];simp [hjl]];rfl
   replace htk2:=hid htk2;clear hv hE;refine wk ?_;exact aq _ _ _ (by omega) (CutL (b:=by simp)) ⟨j+1,_,rfl,hjl,hid htk2.out.symm,rfl,rfl⟩
  ·have hje:j=vs.length:=by omega
   subst hje;have g4:¬ (vs.length:Int)<(vs.length:Int):=by omega
   have hE2:=hE.out;rw [ahA] at hE2;have e5:AV.frzL E=aC (vs.map bC):=by rw [hE2];exact bR _
   clear hE hE2;refine wk ?_;exact aq _ _ _ (by omega) (CutL (b:=by simp)) ⟨i+1,_,_,rfl,hlt,hid htk.out.symm,rfl,rfl⟩
 ·have hke:i=l.length:=by omega
  subst hke;have g3:¬ (l.length:Int)<(l.length:Int):=by omega
  have hD2:=hD.out;rw [ahA] at hD2;have e5:=bR (l.map rX);subst hD2;clear hD;refine wk ?_;exact ab rfl h.out
end Go.Proofs.YtobihfefmlgaoaaGreat.Av
