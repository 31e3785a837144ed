/- Joined texts of the walk, made small by a program. -/
import Derived.Test.YtcmfcpjnhephaaaGreatDoorFk17
import Derived.Test.YtcmfcpjnhephaaaGreatDoorFk21
import Derived.Test.YtcmfcpjnhephaaaGreatDoorFk16
import Derived.Test.YtcmfcpjnhephaaaGreatDoorFk8
import Derived.Test.YtcmfcpjnhephaaaGreatDoorFk4
import Derived.Test.YtcmfcpjnhephaaaGreatDoorRows
import Derived.KernelRfl
import Derived.Test.YtcmfcpjnhephaaaGreatDoorFk20
import Derived.Shelf.Spec.SlicesGrow
import Derived.Test.YtcmfcpjnhephaaaGreatDoorFk13
import Derived.Test.YtcmfcpjnhephaaaGreatDoorFk15
import Derived.Test.YtcmfcpjnhephaaaGreatDoorFk6
set_option linter.unusedSimpArgs false
set_option linter.unusedVariables false
namespace Go.Proofs.YtcmfcpjnhephaaaGreatDoor.Av
open Go
set_option maxHeartbeats 8000000
set_option maxRecDepth 100000
theorem IS {L0 L:List Blk} {r:AV} {Q:AV->List Blk->Prop} (i:Nat) {c:List AV} (hL:L[i]?=some (.cells c)) (h:Fin L0 r (L.set i (.cells (AV.frzL c))) Q):Fin L0 r L Q:=fun w0 S0 E0 E w v h0 hn hw hR hv=>h w0 S0 E0 E w v h0 hn hw (hR.frzB hL) hv
def KA (e:bf):List AV:=[.int .i64 e.1,atV e.2]
def cj (l:List bf):List AV:=l.flatMap KA
theorem Dw (l:List bf):(cj l).length=l.length * 2:=by
 induction l with
 | nil=>rfl
 | cons e l ih=>unfold cj at ih ⊢;rw [aaO,ZQ,ih];simp [KA];omega
theorem qU (l m:List bf):cj (l++m)=cj l++cj m:=by unfold cj;rw [abO]
theorem CK:∀ {l:List bf} {k:Nat},k<l.length->((cj l).drop (k * 2)).take 2=KA (l.getD k (0,[]))
 | e::l,0,_=>by unfold cj;rw [aaO];simp [KA]
 | e::l,k+1,h=>by
   have ih:=CK (l:=l) (k:=k) (by simpa using h);have:cj (e::l)=KA e++cj l:=by unfold cj;rw [aaO]
   rw [this,abR];show ((cj l).drop (k * 2)).take 2=_
   rw [ih];rfl
def Xv (L:List Blk) (rt:Nat) (s:List AV) (tm:TMp) (l:List bf):Prop:=∃ k2,L[rt]?=some (.cells (s++[.sl ((tm.map (·.1)).map AV.str) tm.length none,.sl (cj l) l.length k2]))
theorem Uw {ts:List Typ} {capT:Option Nat} {c2:List AV} {n2:Nat} {cap2:Option Nat} {ns:List (List UInt8)} {cap:Option Nat} (hl:ts.length<=1100000) (hts:∀ t∈ts,bd t.1) (hc2:AV.frzL c2=c2) (hnl:ns.length<=1000000) (hn:∀ n∈ns,bd n) {R:Int×TMp} (hR:zY ts [] ns=R) {L:List Blk} {K:Zy}
  (h0:∀ L',R.1≠0->bA (fun _=>False) L L'->K (.tup [.nilptr,.int .i64 R.1]) L')
  (h1:∀ L' rt,R.1=0->Xv L' rt [.sl (cy ts) ts.length none,.sl c2 n2 none] R.2 []->bA (fun _=>False) L L'->L.length<=rt->K (.tup [.ptr rt 0,.int .i64 0]) L') :
  Zx 32 [.agg [.sl (cy ts) ts.length capT,.sl c2 n2 cap2],.sl (ns.map AV.str) ns.length cap] L K:=by
 have kA:Hid (∀ {n:List UInt8},bd n->∀ {L:List Blk} {K:Zy},(eD ts n=none->K (.int .i64 (-1)) L)->(∀ k:Nat,k<ts.length->eD ts n=some (ts.getD k lW)->K (.int .i64 k) L)->Zx 12 [.sl (cy ts) ts.length capT,.str n] L K):=@hid _ (fun {n} h {L K} q1 q2=>Y8 hl hts h q1 q2);have hfz:=n8 ts;replace hR:=hid hR;replace hn:=hid hn;replace h0:=hid h0;replace h1:=hid h1;clear hts hl;obtain ⟨TS,hTS⟩:=Zt (cy ts);obtain ⟨tl,htl⟩:=Zt (ts.length);rw [hTS,htl] at kA ⊢;rw [hTS] at hfz;refine Zw Mf ?_;refine MI (L.length+1) 2 1 (c:=[.sl TS tl capT,.sl c2 n2 cap2,.sl [] 0 (some 0),.sl [] 0 (some 0)]) (l:=[]) (n:=0) (by rw [Z5 (by omega)];simp) rfl rfl ?_;refine Wl (L':=L++(.cells [.sl TS tl capT,.sl c2 n2 cap2] :: .cells [.sl TS tl capT,.sl c2 n2 cap2,.gsl [] 0 (L.length+2) 1,.sl [] 0 (some 0)]::[.spare 0 1])) (by
  rw [aaz _ _ (by omega),show L.length+1 - L.length=1 by omega];simp) ?_
 refine ak (fun m T' L'=>∃ (i:Nat) (tm:TMp) (C:List AV) (X:List Blk),m=ns.length - i/\i<=ns.length/\Hid (zY ts tm (ns.drop i)=R)/\Hid (C=(tm.map (·.1)).map AV.str)/\Hid (tm.length<=i)/\T'=[(14,.int .i64 (i:Int)),(13,.int .i64 ns.length),(12,.sl (ns.map AV.str) ns.length cap),(6,.ptr (L.length+1) 0),(2,.ptr L.length 0)]/\L'=L++(.cells [.sl TS tl capT,.sl c2 n2 cap2] :: .cells [.sl TS tl capT,.sl c2 n2 cap2,.gsl C tm.length (L.length+2) 1,.sl [] 0 (some 0)] :: .spare tm.length 1::X)) (CutS (b:=by simp)) ⟨0,[],[],[],rfl,ZI _,hid (by simpa using hR.out),hid rfl,hid (ZA _),rfl,rfl⟩ ?_;rintro _ _ _ ⟨i,tm,C,X,rfl,hi,hr,hC,hti,rfl,rfl⟩;have e1:∀ (a b c:Blk) (X:List Blk),(L++a::b::c::X)[L.length+1]?=some b:=fun a b c X=>by rw [Z5 (by omega)];simp
 have e2:∀ (a b c d:Blk) (X:List Blk),(L++a::b::c::X).set (L.length+1) d=L++a::d::c::X:=fun a b c d X=>by rw [aaz _ _ (by omega)];simp
 have e3:∀ (a b c:Blk) (X:List Blk),(L++a::b::c::X)[L.length+2]?=some c:=fun a b c X=>by rw [Z5 (by omega)];simp
 have e4:∀ (a b c d:Blk) (X:List Blk),(L++a::b::c::X).set (L.length+2) d=L++a::b::d::X:=fun a b c d X=>by rw [aaz _ _ (by omega)];simp
 by_cases hlt:i<ns.length
 ·have j1:(i:Int)<(ns.length:Int):=by omega
  have j2:=Zv i (by omega);have j3:(ns.map AV.str).getD i .undef=.str (ns.getD i []):=by simp [hlt]
  have j4:i<(ns.map AV.str).length:=by simpa using hlt
  obtain ⟨n,hn1⟩:=Zt (ns.getD i []);have hrn:bd n:=hn.out n (by rw [<- hn1];simp [hlt]);have hdr:ns.drop i=n::ns.drop (i+1):=by rw [aal hlt,<- hn1];simp [hlt]
  rw [hn1] at j3;have hr2:=hr.out;rw [hdr,zY] at hr2;clear hr hn1 hdr;obtain ⟨NS,hNS⟩:=Zt (ns.map AV.str);rw [hNS] at j3 j4 ⊢;replace hNS:=hid hNS;obtain ⟨f,hf⟩:=Zt (ab n);rw [hf] at hr2;have kk1:Hid (Ctr Tryz.prog 39 [.str n] (.str f)):=@hid _ (by intro L K q;exact bX hrn (by rw [hf];exact q));have htb:tm.length<=1000000:=by have:=hti.out;omega
  rcases hty:eD ts n with _|ty
  ·have kk2:Hid (Ctr Tryz.prog 12 [.sl TS tl capT,.str n] (.int .i64 (-1))):=@hid _ (fun {L K} q=>kA.out hrn (fun _=>q) (fun k _ e=>by rw [hty] at e;cases e));rw [hty] at hr2;simp only at hr2;have hfin:=hid (h0.out (L++(.cells [.sl TS tl capT,.sl c2 n2 cap2] :: .cells [.sl TS tl capT,.sl c2 n2 cap2,.gsl C tm.length (L.length+2) 1,.sl [] 0 (some 0)] :: .spare tm.length 1::X)) (by rw [<- hr2];simp) (bA.app _ _));rw [<- hr2] at hfin;clear hr2 hty hR;refine wk ?_;exact aa hfin.out
  ·have kB:Hid (∀ {L:List Blk} {K:Zy},(∀ k:Nat,K (.int .i64 k) L)->Zx 12 [.sl TS tl capT,.str n] L K):=@hid _ (fun {L K} q=>kA.out hrn (fun e=>by rw [hty] at e;cases e) (fun k _ _=>q k));rw [hty] at hr2;simp only at hr2;clear hty;refine wk ?_;refine kB.out fun k=>?_
   have hk0:¬ (k:Int)<0:=by omega
   have kH:∀ b:Bool,decide (f∈tm.map (·.1))=b->Hid (∀ {L:List Blk} {K:Zy} {j:Nat},K (.bool b) L->Zx 82 [.gsl C tm.length j 1,.str f] L K):=fun b hb=>@hid _ (fun {L K j} q=>by
    refine rb ?_;have:=W9 (xs:=tm.map (·.1)) (cap:=none) (s:=f) (by simp;omega) (L:=L) (K:=K) (by rw [aam,hb];exact q);rw [Z9] at this;simp only [AV.frzL,AV.frz,hC.out,dD];exact this)
   by_cases hin:f∈tm.map (·.1)
   ·have kk2:=@kH true (decide_eq_true hin);rw [if_pos hin] at hr2;have hfin:=hid (h0.out (L++(.cells [.sl TS tl capT,.sl c2 n2 cap2] :: .cells [.sl TS tl capT,.sl c2 n2 cap2,.gsl C tm.length (L.length+2) 1,.sl [] 0 (some 0)] :: .spare tm.length 1::X)) (by rw [<- hr2];simp) (bA.app _ _));rw [<- hr2] at hfin;clear hr2 hR kH kB hin;refine wk ?_;exact aa hfin.out
   ·have kk2:=@kH false (decide_eq_false hin);rw [if_neg hin] at hr2;replace hr2:=hid hr2;have hC2:=hid (show C++[.str f]=((tm++[(f,ty,tm.length)]).map (·.1)).map AV.str by rw [hC.out];simp);have hlen:=hid (show (tm++[(f,ty,tm.length)]).length=tm.length+1 by simp);have hti2:=hid (show (tm++[(f,ty,tm.length)]).length<=i+1 by have:=hti.out;simp;omega);clear hR kH kB hin;refine wk ?_;rw [<- hNS.out];refine aj _ _ _ (by omega) (CutL (b:=by simp)) ⟨i+1,tm++[(f,ty,tm.length)],_,X,rfl,hlt,hr2,hC2,hti2,rfl,?_⟩;rw [hlen.out]
 ·have hie:i=ns.length:=by omega
  subst hie;have j1:¬ (ns.length:Int)<(ns.length:Int):=by omega
  have hr2:=hr.out;rw [aai,zY] at hr2;have hfin:=hid (h1.out (L++(.cells [.sl TS tl capT,.sl c2 n2 cap2] :: .cells [.sl TS tl none,.sl c2 n2 none,.sl C tm.length none,.sl [] 0 none] :: .spare tm.length 1::X)) (L.length+1) (by rw [<- hr2]) ⟨none,by
   rw [e1,<- hr2,hTS,htl,hC.out];rfl⟩ (bA.app _ _) (by omega))
  have hCf:AV.frzL C=C:=by rw [hC.out];exact dD _
  clear hr2 hr hR hC;refine wk ?_;refine IS (L.length+1) (e1 _ _ _ _) ?_;rw [e2];simp only [AV.frzL,AV.frz,hfz,hc2,hCf];exact aa hfin.out
theorem NK (l:List bf):AV.frzL (cj l)=cj l:=by
 induction l with
 | nil=>rfl
 | cons e l ih =>
   have:cj (e::l)=KA e++cj l:=by unfold cj;rw [aaO]
   rw [this,AV.frzL_eq,Z7,<- AV.frzL_eq,<- AV.frzL_eq,ih];simp only [KA,AV.frzL,AV.frz,atV,gq]
theorem Nl {a b c:AV} {l:List bf} {k2:Option Nat} (hl:l.length<=1000000) {L:List Blk} {rt:Nat} (hL:L[rt]?=some (.cells [a,b,c,.sl (cj l) l.length k2])) (ha:a.frz=a) (hb:b.frz=b) (hc:c.frz=c) {id:Int} {K:Zy}
  (h:∀ L' k,L'[rt]?=some (.cells [a,b,c,.sl (cj (bU id l)) (bU id l).length k])->bA (fun i=>i=rt) L L'->K (.tup []) L') :
  Zx 36 [.ptr rt 0,.int .i64 id] L K:=by
 have hrl:=(Zz.1 hL).1;have ar:∀ X,(L++X)[rt]?=some (.cells [a,b,c,.sl (cj l) l.length k2]):=fun X=>by rw [ZM hrl];exact hL
 have sr:∀ (X:List Blk) d,(L++X).set rt d=L.set rt d++X:=fun X d=>aaC _ _ hrl
 have hel:=Dw l;have hat:=hid (fun k (q:k<l.length)=>CK q);have hat2:=hid (fun k (q:k<l.length)=>show bU id (l.take (k+1))=bU id (l.take k)++(if (l.getD k (0,[])).1≠id then [l.getD k (0,[])] else []) by
  rw [ZY q];unfold bU;rw [List.filter_append]
  congr 1
  by_cases e:l[k].1=id<;>simp [q,e])
 have hfin:=hid (show ∀ k L2,K (.tup []) (L.set rt (.cells [a,b,c,.sl (cj (bU id l)) (bU id l).length k])++L2) from fun k L2=>h _ k (by rw [ZM (by simpa using hrl),aaq hrl]) ((bA.set (B:=fun i=>i=rt) L (.inl rfl) _).trans (bA.app (B:=fun _=>False) _ _) fun i _ e=>e.elim));obtain ⟨ES,hES⟩:=Zt (cj l);rw [hES] at ar hel hat hL;clear h hES;refine Zw vZ ?_;refine cG (l:=[]) (n:=0) 4 2 rfl (aae 2).symm ?_;refine ak (fun m T' L'=>∃ (i:Nat) (C:List AV) (k:Nat) (X:List Blk),m=l.length - i/\i<=l.length/\Hid (C=cj (bU id (l.take i))/\k=(bU id (l.take i)).length)/\T'=[(12,.int .i64 (i:Int)),(11,.int .i64 l.length),(10,.sl ES l.length k2),(4,.gsl C k L.length 2),(0,.ptr rt 0),(1,.int .i64 id)]/\L'=L++(.spare k 2::X)) (CutS (b:=by simp)) ⟨0,[],0,[],rfl,ZI _,hid ⟨rfl,rfl⟩,rfl,rfl⟩ ?_;clear hL;rintro _ _ _ ⟨i,C,k,X,rfl,hi,hC,rfl,rfl⟩;by_cases hlt:i<l.length
 ·have j1:(i:Int)<(l.length:Int):=by omega
  have j2:=Zv i (by omega);have e3:=hat.out i hlt;have e4:i * 2+2<=ES.length:=by rw [hel];omega
  have e5:=hat2.out i hlt;obtain ⟨⟨x,av⟩,hx⟩:∃ e,l.getD i (0,[])=e:=⟨_,rfl⟩;rw [hx] at e3 e5;simp only [KA] at e3;simp only at e5;have hkb:k<=1000000:=by
   rw [hC.out.2];have:=abt (fun e:bf=>decide (e.1≠id)) (l.take i);rw [acq] at this;unfold bU;omega
  have hef:AV.frzL (be av)=be av:=gq av;by_cases hq:x=id
  ·rw [if_neg (by simpa using hq),aah] at e5;have hC2:=hid (show C=cj (bU id (l.take (i+1)))/\k=(bU id (l.take (i+1))).length by rw [e5];exact hC.out);subst hq;clear hx e5;refine wk ?_;exact aj _ _ _ (by omega) (CutL (b:=by simp)) ⟨i+1,_,_,_,rfl,hlt,hC2,rfl,rfl⟩
  ·rw [if_pos hq] at e5;have hC2:=hid (show C++[.int .i64 x,.sl (be av) av.length none]=cj (bU id (l.take (i+1)))/\k+1=(bU id (l.take (i+1))).length by
    rw [e5,qU,hC.out.1,ZQ,hC.out.2];exact ⟨rfl,rfl⟩)
   clear hx e5;refine wk ?_;exact aj _ _ _ (by omega) (CutL (b:=by simp)) ⟨i+1,_,_,_,rfl,hlt,hC2,rfl,rfl⟩
 ·have hie:i=l.length:=by omega
  subst hie;have j1:¬ (l.length:Int)<(l.length:Int):=by omega
  obtain ⟨hC1,hC2⟩:=hC.out;rw [ZW] at hC1 hC2;have hCf:AV.frzL C=C:=by rw [hC1];exact NK _
  have hf2:=hid (fun X=>hfin.out none X);rw [<- hC1,<- hC2] at hf2;clear hC hC1 hC2 hfin hat hat2;refine wk ?_;refine dG rfl trivial (IS rt (by rw [ZM (by simpa using hrl),aaq hrl]) ?_);rw [aaC _ _ (by simpa using hrl),ab4];simp only [AV.frzL,AV.frz,ha,hb,hc,hCf];exact aa (hf2.out _)
theorem SZ {x e:bf} {t:List bf} (h:¬ x.1<e.1) (l:List bf):l++fL x (e::t)=(l++[e])++fL x t:=by
 rw [fL,if_neg h];simp
theorem Us {a b c:AV} {l:List bf} {k2:Option Nat} (hl:l.length<=900000) {L:List Blk} {rt:Nat} (hL:L[rt]?=some (.cells [a,b,c,.sl (cj l) l.length k2])) (ha:a.frz=a) (hb:b.frz=b) (hc:c.frz=c) {id:Int} {v:List Atr} {cap:Option Nat} (hv:v.length<=1100000) (hz:∀ a∈v,a.2.length<=1100000) {K:Zy}
  (h:∀ L' k,L'[rt]?=some (.cells [a,b,c,.sl (cj (kU id v l)) (kU id v l).length k])->bA (fun i=>i=rt) L L'->K (.tup []) L') :
  Zx 37 [.ptr rt 0,.int .i64 id,.sl (be v) v.length cap] L K:=by
 have kD:Hid (∀ {K:Zy},(∀ L' k,Hid (L'[rt]?=some (.cells [a,b,c,.sl (cj (bU id l)) (bU id l).length k])/\bA (fun i=>i=rt) L L')->K (.tup []) L')->Zx 36 [.ptr rt 0,.int .i64 id] L K):=@hid _ (fun {K} q=>Nl (by omega) hL ha hb hc fun L' k q1 q2=>q L' k (hid ⟨q1,q2⟩));have kk1:Hid (Ctr Tryz.prog 86 [.sl (be v) v.length cap] (.sl (be v) v.length none)):=@hid _ (fun {L K} q=>WN hv hz q);have hvf:AV.frzL (be v)=be v:=gq v;have hdl:(bU id l).length<=900000:=Z0 (abt _ _) hl;unfold kU at h;obtain ⟨m,hm⟩:=Zt (bU id l);rw [hm] at h hdl kD;replace h:=hid h;clear hL hm hl hv hz;refine Zw CP ?_;refine kD.out fun L1 k1 hD=>?_
 clear kD;have hL:=hD.out.1;have hrl:=(Zz.1 hL).1;have ar:∀ X,(L1++X)[rt]?=some (.cells [a,b,c,.sl (cj m) m.length k1]):=fun X=>by rw [ZM hrl];exact hL
 have sr:∀ (X:List Blk) d,(L1++X).set rt d=L1.set rt d++X:=fun X d=>aaC _ _ hrl
 have hel:=Dw m;have hat:=hid (fun k (q:k<m.length)=>CK q);have hfin:=hid (show ∀ k L2,K (.tup []) (L1.set rt (.cells [a,b,c,.sl (cj (fL (id,v) m)) (fL (id,v) m).length k])++L2) from fun k L2=>h.out _ k (by rw [ZM (by simpa using hrl),aaq hrl]) (hD.out.2.trans ((bA.set (B:=fun i=>i=rt) L1 (.inl rfl) _).trans (bA.app (B:=fun _=>False) _ _) fun i _ e=>e.elim) fun i _ e=>e));obtain ⟨ES,hES⟩:=Zt (cj m);rw [hES] at ar hel hat hL;clear h hD;refine wk ?_;refine cG (l:=[]) (n:=0) 6 2 rfl (aae 2).symm ?_;refine ak (fun n T' L'=>∃ (i:Nat) (out:List bf) (C:List AV) (k:Nat) (dn:Bool) (X:List Blk),n=m.length - i/\i<=m.length/\Hid (C=cj out/\k=out.length/\k<=i+1/\(dn=false->k<=i))/\Hid (if dn=true then out++m.drop i=fL (id,v) m else out++fL (id,v) (m.drop i)=fL (id,v) m)/\T'=[(18,.int .i64 (i:Int)),(17,.int .i64 m.length),(16,.sl ES m.length k1),(6,.gsl C k L1.length 2),(7,.bool dn),(0,.ptr rt 0),(1,.int .i64 id),(2,.sl (be v) v.length cap)]/\L'=L1++(.spare k 2::X)) (CutS (b:=by simp)) ⟨0,[],[],0,false,[],rfl,ZI _,hid ⟨rfl,rfl,by omega,fun _=>ZA _⟩,hid (by simp),rfl,rfl⟩ ?_;clear hL;rintro _ _ _ ⟨i,out,C,k,dn,X,rfl,hi,hC,hI,rfl,rfl⟩;by_cases hlt:i<m.length
 ·have j1:(i:Int)<(m.length:Int):=by omega
  have j2:=Zv i (by omega);have e3:=hat.out i hlt;have e4:i * 2+2<=ES.length:=by rw [hel];omega
  have hdr:m.drop i=m.getD i (0,[])::m.drop (i+1):=by rw [aal hlt];simp [hlt]
  obtain ⟨⟨x,av⟩,hx⟩:∃ e,m.getD i (0,[])=e:=⟨_,rfl⟩;rw [hx] at e3 hdr;simp only [KA] at e3;have hkb:k<=1000000:=by have:=hC.out.2.2.1;omega
  have hkb2:k+1<=1000000:=by have:=hC.out.2.2.1;omega
  have hef:AV.frzL (be av)=be av:=gq av;have hI2:=hI.out;rw [hdr] at hI2;cases dn with
  | true =>
    simp only [if_true] at hI2;have hC2:=hid (show C++[.int .i64 x,.sl (be av) av.length none]=cj (out++[(x,av)])/\k+1=(out++[(x,av)]).length/\k+1<=i+1+1/\(true=false->k+1<=i+1) by
     have h1:=hC.out.2.2.1;rw [qU,hC.out.1,ZQ];refine ⟨rfl,by rw [hC.out.2.1];rfl,by omega,fun e=>by cases e⟩)
    have hI3:=hid (show (if true=true then (out++[(x,av)])++m.drop (i+1)=fL (id,v) m else (out++[(x,av)])++fL (id,v) (m.drop (i+1))=fL (id,v) m) by simpa using hI2);clear hx hdr hI hI2 hkb2;refine wk ?_;exact aj _ _ _ (by omega) (CutL (b:=by simp)) ⟨i+1,_,_,_,true,_,rfl,hlt,hC2,hI3,rfl,rfl⟩
  | false =>
    simp only [ZP,if_false] at hI2;by_cases hq:id<x
    ·rw [fL,if_pos hq] at hI2;have hC2:=hid (show C++[.int .i64 id,.sl (be v) v.length none,.int .i64 x,.sl (be av) av.length none]=cj (out++[(id,v),(x,av)])/\k+1+1=(out++[(id,v),(x,av)]).length/\k+1+1<=i+1+1/\(true=false->k+1+1<=i+1) by
      have h1:=hC.out.2.2.2 rfl;rw [qU,hC.out.1,ZQ];refine ⟨rfl,by rw [hC.out.2.1];rfl,by omega,fun e=>by cases e⟩)
     have hI3:=hid (show (if true=true then (out++[(id,v),(x,av)])++m.drop (i+1)=fL (id,v) m else (out++[(id,v),(x,av)])++fL (id,v) (m.drop (i+1))=fL (id,v) m) by simpa using hI2);clear hx hdr hI hI2;refine wk ?_;exact aj _ _ _ (by omega) (CutL (b:=by simp)) ⟨i+1,_,_,_,true,_,rfl,hlt,hC2,hI3,rfl,rfl⟩
    ·rw [SZ hq] at hI2;have hC2:=hid (show C++[.int .i64 x,.sl (be av) av.length none]=cj (out++[(x,av)])/\k+1=(out++[(x,av)]).length/\k+1<=i+1+1/\(false=false->k+1<=i+1) by
      have h1:=hC.out.2.2.2 rfl;rw [qU,hC.out.1,ZQ];refine ⟨rfl,by rw [hC.out.2.1];rfl,by omega,fun _=>by omega⟩)
     have hI3:=hid (show (if false=true then (out++[(x,av)])++m.drop (i+1)=fL (id,v) m else (out++[(x,av)])++fL (id,v) (m.drop (i+1))=fL (id,v) m) by simpa using hI2);clear hx hdr hI hI2 hkb2;refine wk ?_;exact aj _ _ _ (by omega) (CutL (b:=by simp)) ⟨i+1,_,_,_,false,_,rfl,hlt,hC2,hI3,rfl,rfl⟩
 ·have hie:i=m.length:=by omega
  subst hie;have j1:¬ (m.length:Int)<(m.length:Int):=by omega
  have hI2:=hI.out;rw [aai] at hI2;obtain ⟨hC1,hC2,hC3,hC4⟩:=hC.out;have hkb:k<=1000000:=by omega
  have hCf:AV.frzL C=C:=by rw [hC1];exact NK _
  cases dn with
  | true =>
    simp only [if_true,aah] at hI2;have hf2:=hid (fun X=>hfin.out none X);rw [<- hI2,<- hC1,<- hC2] at hf2;clear hC hC1 hC2 hC3 hC4 hfin hat hI hI2;refine wk ?_;refine dG rfl trivial (IS rt (by rw [ZM (by simpa using hrl),aaq hrl]) ?_);rw [aaC _ _ (by simpa using hrl),ab4];simp only [AV.frzL,AV.frz,ha,hb,hc,hCf];exact aa (hf2.out _)
  | false =>
    simp only [ZP,if_false,fL] at hI2;have hf2:=hid (fun X=>hfin.out none X);rw [<- hI2,qU,ZQ,<- hC1,<- hC2] at hf2;have hCf2:AV.frzL (C++[.int .i64 id,.sl (be v) v.length none])=C++[.int .i64 id,.sl (be v) v.length none]:=by
     rw [AV.frzL_eq,Z7,<- AV.frzL_eq,hCf,<- AV.frzL_eq];simp only [AV.frzL,AV.frz,hvf]
    clear hC hC1 hC2 hC3 hC4 hfin hat hI hI2;refine wk ?_;refine dG rfl trivial (IS rt (by rw [ZM (by simpa using hrl),aaq hrl]) ?_);rw [aaC _ _ (by simpa using hrl),ab4];simp only [AV.frzL,AV.frz,ha,hb,hc,hCf2];exact aa (hf2.out _)
end Go.Proofs.YtcmfcpjnhephaaaGreatDoor.Av
set_option maxRecDepth 100000
namespace Go.Proofs.YtcmfcpjnhephaaaGreatDoor.Av
open Go
end Go.Proofs.YtcmfcpjnhephaaaGreatDoor.Av
set_option maxRecDepth 100000
namespace Go.Proofs.YtcmfcpjnhephaaaGreatDoor.Av
open Go
def zB:LSO:=[Af 4]
def zA:LSO:=[Aa 6 0,Al 7 6,Aa 8 1,Al 9 8,Bv 10 7 9]
def zy:LSO:=[Af 4]
def zx:LSO:=[Aa 11 0,Al 12 11,Ab 13 0]
def zw:LSO:=[Ak 14 13 12]
def zu:LSO:=[Aa 15 13,Aa 5 15]
def zt:LSO:=[Aa 16 0,Aa 17 5,An 18 1 16 17,Ac 19 1 18,Aa 20 1,Aa 21 5,An 22 1 20 21,Ac 23 1 22,Bv 24 19 23]
def zr:LSO:=[Af 4]
def zq:LSO:=[Ah 25 13 1,Aa 13 25]
def zp:LSO:=[Ay 4]
def rR:br:=⟨26,(.seq (.sreg zB [])
 (.seq (.seq (.sreg zA Cg)
 (.cond (tm 10) (.seq (.sreg zy [])
 .ret)
 .skip))
 (.seq (.seq (.sreg zx Cj)
 (.block 0 (.loop (.seq (.sreg zw [])
 (.seq (.cond (tm 14) .skip
 (.exit 0))
 (.seq (.block 1 (.seq (.sreg zu Cd)
 (.seq (.sdreg zt [.pure,.pure,(.read 0 0),(.read 0 0),.pure,.pure,(.read 0 0),(.read 0 0)] Cr)
 (.cond (tm 24) (.seq (.sreg zr [])
 .ret)
 .skip))))
 (.sreg zq Cd)))))))
 (.seq (.sreg zp [])
 .ret)))),[(.tmp 4)]⟩
attribute [push_cast] zB zA zy zx zw zu zt zr zq zp
theorem KQ:bt Tryz.prog (fun _ _=>1) 22=some rR.raw:=by kernel_rfl
end Go.Proofs.YtcmfcpjnhephaaaGreatDoor.Av
set_option maxRecDepth 100000
namespace Go.Proofs.YtcmfcpjnhephaaaGreatDoor.Av
open Go
open Go Go.Sort
def IU (n:Nat):List AV:=Kz (List.replicate n 0)
open Go Go.Sort Go.Proofs
set_option maxHeartbeats 8000000
set_option maxRecDepth 100000
def Own (L:List Blk) (m:List Int) (v:AV) (L':List Blk):Prop:=(v=.sl [] 0 (some 0)/\m=[]/\L'=L)\/∃ z,v=.lsl L.length 0 m.length none 1/\L'=L++[.cells (Kz m++IU z)]
def Wc (L:List Blk) (m:List Int) (v:AV) (L':List Blk):Prop:=(v=.sl [] 0 (some 0)/\m=[]/\∃ X,L'=L++X)\/∃ z X,v=.lsl L.length 0 m.length none 1/\L'=L ++ .cells (Kz m++IU z)::X
theorem Own.x {L L':List Blk} {m:List Int} {v:AV} (h:Own L m v L'):Wc L m v L':=by
 rcases h with ⟨h1,h2,h3⟩|⟨z,h1,h2⟩
 ·exact .inl ⟨h1,h2,[],by simp [h3]⟩
 ·exact .inr ⟨z,[],h1,h2⟩
theorem Wc.len {L L':List Blk} {m:List Int} {v:AV} (h:Wc L m v L'):L.length<=L'.length:=by
 rcases h with ⟨_,_,X,rfl⟩|⟨z,X,_,rfl⟩<;>simp
theorem Wc.fin {L L':List Blk} {m:List Int} {v:AV} {K:Zy} (ho:Wc L m v L') (h:∀ v L',Own L m v L'->K v L'):Fin L v L' K:=by
 rcases ho with ⟨rfl,h2,X,rfl⟩|⟨z,X,rfl,rfl⟩
 ·exact ae rfl (h _ _ (.inl ⟨rfl,h2,rfl⟩))
 ·refine R5 L.length (.cells (Kz m++IU z)) rfl (ZA _) (by simp) (by simp [AV.refs]) ?_ ?_
  ·simp only [Blk.refs,IU,<- Z7,IY]
  ·simpa [AV.ren] using h _ _ (.inr ⟨z,rfl,rfl⟩)
variable {L:List Blk} {K:Zy}
theorem N4 {X:Type} {l m:List X} {d:X} {i:Nat} (h1:i<l.length) (h2:i<m.length):l.take (i+1)=m.take (i+1)↔l.take i=m.take i/\l.getD i d=m.getD i d:=by
 rw [ZY h1,ZY h2];have e1:l.getD i d=l[i]:=by simp [h1]
 have e2:m.getD i d=m[i]:=by simp [h2]
 rw [e1,e2];refine ⟨fun h=>?_,fun h=>by rw [h.1,h.2]⟩;have:=List.append_inj' h (by simp);exact ⟨this.1,by simpa using this.2⟩
theorem O5 {xs ys:List Int} {cap cap':Option Nat} (hn:xs.length<=1000000) (h:K (.bool (decide (xs=ys))) L) :
  Zx 22 [.sl (Kz xs) xs.length cap,.sl (Kz ys) ys.length cap'] L K:=by
 replace h:=hid h;have no:¬ xs=ys->K (.bool false) L:=fun e=>by simpa [e] using h.out
 replace no:=hid no;refine ad KQ (by simp [rR]) ?_;simp only [rR,aq];by_cases hlen:xs.length=ys.length;rotate_left
 ·have hl1:¬ (xs.length:Int)=(ys.length:Int):=by omega
  repeat' first
   | refine bb ?_
   | (first|refine aU (by kernel_rfl) ?_|refine aA (by kernel_rfl) ?_|refine aD ?_|refine bS ?_|refine bh (fun _=>?_)|refine ay ?_|refine aW ?_)
     refine sm ?_
   | (first|refine aP (by kernel_rfl) ?_|refine aQ ?_|refine aC ?_|refine aV ?_|refine bq (ax ?_))
     refine sl ?_
   | exact bj
   | first|apply bm|apply aR|apply bo|apply aS|apply bp|apply aT
   | refine aG ?_
   | refine aB ?_
   | first|refine aE rfl ?_|refine aF rfl ?_|refine an rfl ?_ ?_|refine aI rfl (fun _=>?_) (fun _=>?_)|refine aH rfl (fun _=>?_) (fun _=>?_)
   | ((first|refine am (fun _=>?_) (fun _=>?_)|refine aw (fun _=>?_) (fun _=>?_))<;>try refine sm ?_)
   | refine And.intro trivial ?_
   | refine And.intro (by omega) ?_
   | refine aM rfl (fun _=>?_) (fun _=>?_)
   | refine And.intro ?_ ?_
  exact aa (no.out fun e=>hlen (by rw [e]))
 have hlen':(ys.length:Int)=(xs.length:Int):=by omega
 replace hlen:=hid hlen
 repeat' first
  | refine bb ?_
  | (first|refine aU (by kernel_rfl) ?_|refine aA (by kernel_rfl) ?_|refine aD ?_|refine bS ?_|refine bh (fun _=>?_)|refine ay ?_|refine aW ?_)
    refine sm ?_
  | (first|refine aP (by kernel_rfl) ?_|refine aQ ?_|refine aC ?_|refine aV ?_|refine bq (ax ?_))
    refine sl ?_
  | exact bj
  | first|apply bm|apply aR|apply bo|apply aS|apply bp|apply aT
  | refine aG ?_
  | refine aB ?_
  | first|refine aE rfl ?_|refine aF rfl ?_|refine an rfl ?_ ?_|refine aI rfl (fun _=>?_) (fun _=>?_)|refine aH rfl (fun _=>?_) (fun _=>?_)
  | ((first|refine am (fun _=>?_) (fun _=>?_)|refine aw (fun _=>?_) (fun _=>?_))<;>try refine sm ?_)
  | refine And.intro trivial ?_
  | refine And.intro (by omega) ?_
  | refine aM rfl (fun _=>?_) (fun _=>?_)
  | refine And.intro ?_ ?_
 clear hlen';refine ak (fun n T' L'=>∃ (i:Nat),n=xs.length - i/\i<=xs.length/\xs.take i=ys.take i/\T'=[(13,.int .i64 (i:Int)),(12,.int .i64 xs.length),(4,.bool false),(1,.sl (Kz ys) ys.length cap'),(0,.sl (Kz xs) xs.length cap)]/\L=L') (CutS (b:=ZA _)) ⟨0,rfl,ZI _,rfl,rfl,rfl⟩ ?_;rintro _ _ _ ⟨i,rfl,hi,hti,rfl,rfl⟩;replace hti:=hid hti;by_cases hlt:i<xs.length
 ·have hly:i<ys.length:=by have:=hlen.out;omega
  have h1:(i:Int)<(xs.length:Int):=by omega
  have h1':(i:Int)<(ys.length:Int):=by have:=hlen.out;omega
  have h2:=Zv i (by omega);have g5:(Kz xs).getD i .undef=.int .i64 (xs.getD i 0):=by simp [hlt]
  have g6:(Kz ys).getD i .undef=.int .i64 (ys.getD i 0):=by simp [hly]
  have hsucc:=hid (N4 (l:=xs) (m:=ys) (d:=0) hlt hly);obtain ⟨p,hp⟩:=Zt (xs.getD i 0);obtain ⟨q,hq⟩:=Zt (ys.getD i 0);rw [hp,hq] at hsucc;rw [hp] at g5;rw [hq] at g6;clear hp hq;by_cases hpq:p=q
  ·subst hpq
   repeat' first
    | refine bb ?_
    | (first|refine aU (by kernel_rfl) ?_|refine aA (by kernel_rfl) ?_|refine aD ?_|refine bS ?_|refine bh (fun _=>?_)|refine ay ?_|refine aW ?_)
      refine sm ?_
    | (first|refine aP (by kernel_rfl) ?_|refine aQ ?_|refine aC ?_|refine aV ?_|refine bq (ax ?_))
      refine sl ?_
    | exact bj
    | first|apply bm|apply aR|apply bo|apply aS|apply bp|apply aT
    | refine aG ?_
    | refine aB ?_
    | first|refine aE rfl ?_|refine aF rfl ?_|refine an rfl ?_ ?_|refine aI rfl (fun _=>?_) (fun _=>?_)|refine aH rfl (fun _=>?_) (fun _=>?_)
    | ((first|refine am (fun _=>?_) (fun _=>?_)|refine aw (fun _=>?_) (fun _=>?_))<;>try refine sm ?_)
    | refine And.intro trivial ?_
    | refine And.intro (by omega) ?_
    | refine aM rfl (fun _=>?_) (fun _=>?_)
    | refine And.intro ?_ ?_
   exact aj _ _ _ (by omega) (CutS (b:=ZA _)) ⟨i+1,rfl,hlt,hsucc.out.2 ⟨hti.out,rfl⟩,rfl,rfl⟩
  ·repeat' first
    | refine bb ?_
    | (first|refine aU (by kernel_rfl) ?_|refine aA (by kernel_rfl) ?_|refine aD ?_|refine bS ?_|refine bh (fun _=>?_)|refine ay ?_|refine aW ?_)
      refine sm ?_
    | (first|refine aP (by kernel_rfl) ?_|refine aQ ?_|refine aC ?_|refine aV ?_|refine bq (ax ?_))
      refine sl ?_
    | exact bj
    | first|apply bm|apply aR|apply bo|apply aS|apply bp|apply aT
    | refine aG ?_
    | refine aB ?_
    | first|refine aE rfl ?_|refine aF rfl ?_|refine an rfl ?_ ?_|refine aI rfl (fun _=>?_) (fun _=>?_)|refine aH rfl (fun _=>?_) (fun _=>?_)
    | ((first|refine am (fun _=>?_) (fun _=>?_)|refine aw (fun _=>?_) (fun _=>?_))<;>try refine sm ?_)
    | refine And.intro trivial ?_
    | refine And.intro (by omega) ?_
    | refine aM rfl (fun _=>?_) (fun _=>?_)
    | refine And.intro ?_ ?_
   exact aa (no.out fun e=>hpq (hsucc.out.1 (by rw [e])).2)
 ·have hke:i=xs.length:=by omega
  subst hke;have h1:¬ (xs.length:Int)<(xs.length:Int):=by omega
  have e:=hti.out;rw [ZW,hlen.out,ZW] at e;have h':=h.out;rw [decide_eq_true e] at h';clear e;replace h':=hid h'
  repeat' first
   | refine bb ?_
   | (first|refine aU (by kernel_rfl) ?_|refine aA (by kernel_rfl) ?_|refine aD ?_|refine bS ?_|refine bh (fun _=>?_)|refine ay ?_|refine aW ?_)
     refine sm ?_
   | (first|refine aP (by kernel_rfl) ?_|refine aQ ?_|refine aC ?_|refine aV ?_|refine bq (ax ?_))
     refine sl ?_
   | exact bj
   | first|apply bm|apply aR|apply bo|apply aS|apply bp|apply aT
   | refine aG ?_
   | refine aB ?_
   | first|refine aE rfl ?_|refine aF rfl ?_|refine an rfl ?_ ?_|refine aI rfl (fun _=>?_) (fun _=>?_)|refine aH rfl (fun _=>?_) (fun _=>?_)
   | ((first|refine am (fun _=>?_) (fun _=>?_)|refine aw (fun _=>?_) (fun _=>?_))<;>try refine sm ?_)
   | refine And.intro trivial ?_
   | refine And.intro (by omega) ?_
   | refine aM rfl (fun _=>?_) (fun _=>?_)
   | refine And.intro ?_ ?_
  exact aa h'.out
def IR (b:Nat) (X:List Blk) (v:AV):Prop:=v=.sl [] 0 (some 0)\/∃ j n c,v=.lsl (b+j) 0 n none 1/\X[j]?=some (.cells c)/\n<=c.length/\n<=1000000
theorem IR.app {b:Nat} {X:List Blk} {v:AV} (h:IR b X v) (Y:List Blk):IR b (X++Y) v:=by
 rcases h with rfl|⟨j,n,c,h1,h2,h3⟩
 ·exact .inl rfl
 ·exact .inr ⟨j,n,c,h1,Zu h2,h3⟩
theorem IR.set {b i:Nat} {X:List Blk} {c d:List AV} {v:AV} (h:IR b X v) (hi:X[i]?=some (.cells c)) (hd:d.length=c.length):IR b (X.set i (.cells d)) v:=by
 rcases h with rfl|⟨j,n,e,h1,h2,h3⟩
 ·exact .inl rfl
 ·by_cases hij:i=j
  ·subst hij;rw [hi] at h2;cases h2;exact .inr ⟨i,n,d,h1,by simp [(Zz.1 hi).1],by omega,h3.2⟩
  ·exact .inr ⟨j,n,e,h1,by simp [hij,h2],h3⟩
theorem IR.cell {b:Nat} {X:List Blk} {v:AV} (h:IR b X v):AV.cells? v=some [v]:=by
 rcases h with rfl|⟨j,n,c,rfl,_⟩<;>rfl
theorem Own.row {L X L':List Blk} {m:List Int} {v:AV} (h:Own (L++X) m v L') (hm:m.length<=1000000):∃ Y,L'=L++(X++Y)/\IR L.length (X++Y) v:=by
 rcases h with ⟨rfl,_,rfl⟩|⟨z,rfl,rfl⟩
 ·exact ⟨[],by simp,.inl rfl⟩
 ·exact ⟨[.cells (Kz m++IU z)],by simp,.inr ⟨X.length,m.length,Kz m++IU z,by simp,by simp,by simp,hm⟩⟩
set_option maxRecDepth 1000000
theorem XW {P:Program} {f:FuncId} {b:Bool} (h:af P f [] [] fun v _=>v=.bool b) (hk:K (.bool b) L):af P f [] L K:=fun w0 S0 E w vs hR hv=>by
 have hR0:Rel w ⟨fun _=>False,0⟩ { mem:=E.mem,loc:=fun _=>none,tok:=fun _=>none } [] w:=by
  refine ⟨hR.mem,?_,fun _ _=>rfl,?_,?_,fun _ _=>rfl,?_,?_,?_,fun _ _ _=>rfl,ZA _,rfl,rfl,rfl,hR.glob,hR.gsz⟩
  all_goals intros;simp_all
 have key:∀ {E':Env} {L':List Blk} {w':World},Rel w ⟨fun _=>False,0⟩ E' L' w'->Dd w w':=fun k=>⟨fun b hb=>k.frame b hb (fun x=>x),k.size,k.os,k.tape,k.output⟩
 have hv0:VRL { mem:=E.mem,loc:=fun _=>none,tok:=fun _=>none } [] vs:=by
  simpa only [VRL] using hv
 rcases h w _ _ w vs hR0 hv0 with ⟨h1,h2⟩|⟨E',v,av,L',w',h1,h2,h3,h4,h5⟩
 ·refine .inl ⟨h1,h2.mono fun e w' ⟨E',v,av,L',a,b,c,d,r⟩=>⟨E,v,_,L,a,.refl E,hk,?_,hR.grown (key r)⟩⟩;subst c;simpa only [VR] using d
 ·refine .inr ⟨E,v,_,L,w',h1,.refl E,hk,?_,hR.grown (key h5)⟩;subst h3;simpa only [VR] using h4
abbrev cnS:List UInt8:=[99,110]
abbrev Kt:TMp:=(zY aN [] [cnS]).2
def l19:List bf:=kU 1 [(cnS,[[97,98,99,100]])] (kU 2 [(cnS,[[120,97,98,99]])] [])
theorem Xr:zY aN [] [cnS]=(0,Kt):=by kernel_rfl
theorem YC:On Kt l19 [67,78] [(1,[65,66,67])]=[1,2]:=by kernel_rfl
theorem YB:On Kt l19 cnS [(1,[98,99,100])]=[1]:=by kernel_rfl
theorem RU (b:List UInt8) (h:b.length<=4):Kr [(cnS,[b])]:=⟨by simp,by simp [gr],fun x hx=>by
 rw [ZS.1 hx];exact ⟨by show bd cnS;unfold bd;decide,by simp⟩⟩
theorem V2:cF Kt Kt.length/\∀ e∈Kt,bd e.1:=by
 have h:=Oi (ts:=aN) (ns:=[cnS]) (TmS.nil _) (fun n hn=>by rw [ZS.1 hn];unfold bd;decide);refine ⟨h.ok,fun e he=>?_⟩;obtain ⟨n,_,h2,h3⟩:=h.ty e he;rw [<- h2];unfold bd at h3 ⊢;rw [Jg];exact h3
theorem Ra:Zx 9 [] [] fun v _=>v=.bool true:=by
 obtain ⟨x,hx⟩:=Zt (cy aN);obtain ⟨m,hm⟩:=Zt (aN.length);obtain ⟨y,hy⟩:=Zt (Ma);have kk1:Hid (Ctr Tryz.prog 20 [] (.agg [.sl x m none,.sl y 9 none])):=hid fun q=>Q7 (by rw [hx,hm,hy];exact q)
 have kN:Hid (∀ {L:List Blk} {c:Option Nat} {K:Zy},(∀ L' it B,Hid (IxO L' it Kt [] B)->K (.tup [.ptr it 0,.int .i64 0]) L')->Zx 19 [.agg [.sl x m none,.sl y 9 none],.sl [.str cnS] 1 c] L K):=@hid _ (fun {L c K} q=>by
  rw [<- hx,<- hm];exact Ow (ns:=[cnS]) i6.1 i6.2.1 (by simp) (fun n hn=>by rw [ZS.1 hn];unfold bd;decide) Xr (fun L' e=>absurd rfl e) fun L' it B _ g1 _ _=>q L' it B (hid g1))
 have kP:∀ (id:Int) (l:List bf) (b:List UInt8),b.length<=4->(∀ e∈l,Kr e.2)->Hid (∀ {L:List Blk} {it:Nat} {B:Nat->Prop} {c1 c2:Option Nat} {K:Zy},Hid (IxO L it Kt l B)->(∀ L' B',Hid (IxO L' it Kt (kU id [(cnS,[b])] l) B')->K (.tup []) L')->Zx 21 [.ptr it 0,.int .i64 id,.sl [.str cnS,.sl [.str b] 1 c1] 1 c2] L K):=fun id l b hb hl=>@hid _ (fun {L it B c1 c2 K} ho q=>by
  refine rb ?_;simp only [AV.frzL,AV.frz];exact Ov (a:=[(cnS,[b])]) ho.out ⟨V2.1,V2.2,hl⟩ (RU b hb) fun L' B' g1 _ _=>q L' B' (hid g1))
 have kL:∀ (n t:List UInt8) (r:List Int),n.length<=4->t.length<=4->On Kt l19 n [(1,t)]=r->Hid (∀ {L:List Blk} {it:Nat} {B:Nat->Prop} {c:Option Nat} {K:Zy},Hid (IxO L it Kt l19 B)->K (Gm r) L->Zx 13 [.ptr it 0,.str n,.sl [.int .i64 1,.str t] 1 c] L K):=fun n t r hn ht hr=>@hid _ (fun {L it B c K} ho q =>
  LJ (ps:=[(1,t)]) ho.out ⟨by decide,by decide⟩ (by unfold bd;omega) ⟨by simp,fun p hp=>by rw [ZS.1 hp];simp only;omega⟩ (by rw [hr];exact q))
 have kS:Hid (∀ {l:List Int} {n:Nat} {c:Option Nat} {L:List Blk} {K:Zy},n=l.length->l.length<=10->K (.bool true) L->Zx 22 [.sl (l.map (AV.int .i64)) l.length none,.sl (l.map (AV.int .i64)) n c] L K):=@hid _ (fun {l n c L K} hn hl q=>by
  subst hn;exact O5 (xs:=l) (ys:=l) (by omega) (by simpa using q))
 have kP1:=@kP 2 [] [120,97,98,99] (by decide) (by simp);have kP2:=@kP 1 (kU 2 [(cnS,[[120,97,98,99]])] []) [97,98,99,100] (by decide) (fun e he=>by
  rcases eH.1 he with rfl|⟨h,_⟩
  ·exact RU _ (by decide)
  ·cases h)
 have kL1:=@kL [67,78] [65,66,67] [1,2] (by decide) (by decide) YC;have kL2:=@kL cnS [98,99,100] [1] (by decide) (by decide) YB;clear kP kL;refine Zw JC ?_;refine kN.out fun L1 it B1 h1=>?_
 refine wk ?_;refine kP1.out h1 fun L2 B2 h2=>?_
 clear h1;refine wk ?_;refine kP2.out h2 fun L3 B3 h3=>?_
 clear h2;replace h3:Hid (IxO L3 it Kt l19 B3):=h3;clear kk1;have kk1:Hid (∀ {c:Option Nat} {K:Zy},K (Gm [1,2]) L3->Zx 13 [.ptr it 0,.str [67,78],.sl [.int .i64 1,.str [65,66,67]] 1 c] L3 K):=@hid _ (fun {c K} q=>kL1.out h3 q);have kk2:Hid (∀ {c:Option Nat} {K:Zy},K (Gm [1]) L3->Zx 13 [.ptr it 0,.str [99,110],.sl [.int .i64 1,.str [98,99,100]] 1 c] L3 K):=@hid _ (fun {c K} q=>kL2.out h3 q);have kk3:Hid (∀ {c:Option Nat} {K:Zy},K (.bool true) L3->Zx 22 [.sl [.int .i64 1,.int .i64 2] 2 none,.sl [.int .i64 1,.int .i64 2] 2 c] L3 K):=@hid _ (fun {c K} q=>kS.out (l:=[1,2]) rfl (by decide) q);have kk4:Hid (∀ {c:Option Nat} {K:Zy},K (.bool true) L3->Zx 22 [.sl [.int .i64 1] 1 none,.sl [.int .i64 1] 1 c] L3 K):=@hid _ (fun {c K} q=>kS.out (l:=[1]) rfl (by decide) q);clear h3 kL1 kL2 kP1 kP2 kN kS hx hm hy;refine wk ?_;exact aa rfl
theorem TD (h:K (.bool true) L):Zx 9 [] L K:=XW Ra h
def Wj (a:List Atr):Prop:=(a.length:Int)<=9223372036854775807/\∀ x∈a,bd x.1/\(x.2.length:Int)<=9223372036854775807
structure Rj (l:List bf):Prop where
 len:(l.length:Int)<=9223372036854775807
 at':∀ e∈l,Wj e.2
 id:∀ e∈l,-9223372036854775808<=e.1/\e.1<=9223372036854775807
structure fa (L0 L:List Blk) (it rt:Nat) (tm:TMp) (l:List bf) (B:Nat->Prop):Prop where
 ix:IxO L it tm l B
 doc:Xv L rt [.sl (cy aN) aN.length none,.sl Ma 9 none] tm l
 tms:TmS aN tm
 ents:∀ e∈l,InA aN e.2/\Kr e.2
 ids:∀ e∈l,-9223372036854775808<=e.1/\e.1<=9223372036854775807
 apart:¬ B rt
 bes:bA (fun _=>False) L0 L
 own:∀ i,B i->L0.length<=i
 rtl:L0.length<=rt
theorem TmS.ixg {tm:TMp} {l:List bf} (h:TmS aN tm) (he:∀ e∈l,InA aN e.2/\Kr e.2):IxG tm l:=⟨h.ok,fun e hm=>by
 obtain ⟨n,_,h2,h3⟩:=h.ty e hm;rw [<- h2];unfold bd at h3 ⊢;rw [Jg];exact h3,fun e hm=>(he e hm).2⟩
theorem PA (x:bf):∀ l:List bf,(fL x l).length=l.length+1
 | []=>rfl
 | e::t=>by
   rw [fL];split
   ·rfl
   ·rw [ZN,PA x t,ZN]
theorem UI (id:Int) (a:List Atr) (l:List bf):(kU id a l).length<=l.length+1:=by
 unfold kU;rw [PA];have:(bU id l).length<=l.length:=abt _ _;omega
theorem fa.drop {L0 L L1 L2:List Blk} {it rt:Nat} {tm:TMp} {l l':List bf} {B B':Nat->Prop} (h:fa L0 L it rt tm l B) (h1:IxO L1 it tm l' B') (b1:bA B L L1) (o1:∀ i,B' i->B i\/L.length<=i) (he:∀ e∈l',InA aN e.2/\Kr e.2) (hi:∀ e∈l',-9223372036854775808<=e.1/\e.1<=9223372036854775807) (hd:Xv L2 rt [.sl (cy aN) aN.length none,.sl Ma 9 none] tm l') (b2:bA (fun i=>i=rt) L1 L2):fa L0 L2 it rt tm l' B':=by
 have hrl:rt<L.length:=by
  obtain ⟨k2,hk⟩:=h.doc;exact (Zz.1 hk).1
 have ap:¬ B' rt:=fun e=>by
  rcases o1 rt e with q|q
  ·exact h.apart q
  ·omega
 refine ⟨h1.keep b2 fun i hi e=>ap (by rw [<- e];exact hi),hd,h.tms,he,hi,ap,?_,fun i hi=>?_,h.rtl⟩
 ·refine (h.bes.trans b1 fun i hi e=>?_).trans b2 fun i hi e=>?_
  ·exact absurd (h.own i e) (by omega)
  ·have:=h.rtl;omega
 ·rcases o1 i hi with q|q
  ·exact h.own i q
  ·exact Z0 h.bes.len q
theorem fa.app {L0 L:List Blk} {it rt:Nat} {tm:TMp} {l:List bf} {B:Nat->Prop} (h:fa L0 L it rt tm l B) (X:List Blk):fa L0 (L++X) it rt tm l B:=by
 obtain ⟨k2,hk⟩:=h.doc;exact ⟨h.ix.app X,⟨k2,Zu hk⟩,h.tms,h.ents,h.ids,h.apart,h.bes.app2 X,h.own,h.rtl⟩
theorem fa.base {L0 L0' L:List Blk} {it rt:Nat} {tm:TMp} {l:List bf} {B:Nat->Prop} (h:fa L0' L it rt tm l B) (hb:bA (fun _=>False) L0 L0'):fa L0 L it rt tm l B :=
 ⟨h.ix,h.doc,h.tms,h.ents,h.ids,h.apart,hb.trans h.bes (fun _ _ e=>e),fun i hi=>Z0 hb.len (h.own i hi),Z0 hb.len h.rtl⟩
theorem W0 {l:List Atr} (hl:OE l=true) (hz:(qJ aN [] l).2=0):InA aN (qJ aN [] l).1/\Kr (qJ aN [] l).1:=by
 obtain ⟨f1,f2⟩:=RM hl;have hi:=RC (Yc aN) hz;obtain ⟨b1,b2⟩:=U8 (ts:=aN) (B:=60) (l:=l) (out:=[]) (i:=0) (by simp) (by simp) (fun a ha=>(f2 a ha).1);refine ⟨hi,by omega,hi.1,fun x hx=>⟨?_,?_⟩⟩
 ·obtain ⟨ty,h1,h2,_⟩:=hi.2 x hx;rw [<- h2];exact i6.2.1 ty (ab6 h1)
 ·have h1:=b2 x hx;have:60 * (0+l.length)<=60 * 60:=Nat.mul_le_mul_left _ (by omega);omega
theorem U9 {ns:List (List UInt8)} {acts:List bf} {cap capA:Option Nat} (hn:∀ n∈ns,bd n) (hnl:ns.length<=1000) (ha:Rj acts) {L:List Blk} {K:Zy}
  (h0:∀ L' b,bA (fun _=>False) L L'->K (.tup [.nilptr,.nilptr,.bool b]) L')
  (h1:∀ L' it rt tm l B,zY aN [] ns=(0,tm)->fa L L' it rt tm l B->l.length<=40->K (.tup [.ptr it 0,.ptr rt 0,.bool true]) L') :
  Zx 10 [.sl (ns.map AV.str) ns.length cap,.sl (cj acts) acts.length capA] L K:=by
 obtain ⟨R,hR⟩:=Zt (zY aN [] ns);have hts:=Oi (ts:=aN) (ns:=ns) (TmS.nil _) hn;rw [hR] at hts;obtain ⟨x,hx⟩:=Zt (cy aN);obtain ⟨m,hm⟩:=Zt (aN.length);obtain ⟨y,hy⟩:=Zt (Ma);have kk1:Hid (Ctr Tryz.prog 20 [] (.agg [.sl x m none,.sl y 9 none])):=hid fun q=>Q7 (by rw [hx,hm,hy];exact q)
 have hyf:AV.frzL y=y:=by rw [<- hy];rfl
 have hxf:AV.frzL x=x:=by rw [<- hx];exact n8 _
 have kM:∀ l:List Atr,OE l=true->Wj l->Hid (Ctr Tryz.prog 34 [.agg [.sl x m none,.sl y 9 none],.sl (be l) l.length none] (.tup [.sl (be (qJ aN [] l).1) (qJ aN [] l).1.length none,.int .i64 (qJ aN [] l).2])):=fun l hl hr=>@hid _ (fun {L K} q=>by
  obtain ⟨f1,f2⟩:=RM hl;rw [<- hx,<- hm];exact WQ i6 (by omega) (fun a ha=>⟨(hr.2 a ha).1,by have:=(f2 a ha).1;omega⟩) rfl q)
 have kF:∀ l:List Atr,Wj l->Hid (Ctr Tryz.prog 33 [.sl (be l) l.length none] (.bool (OE l))):=fun l hr=>@hid _ (fun {L K} q=>Y4 hr.1 (fun a ha=>(hr.2 a ha).2) q)
 have kN:Hid (∀ {L:List Blk} {K:Zy},(∀ L',R.1≠0->bA (fun _=>False) L L'->K (.tup [.nilptr,.int .i64 R.1]) L')->(∀ L' it B,R.1=0->Hid (IxO L' it R.2 [] B/\bA (fun _=>False) L L'/\∀ i,B i->L.length<=i)->K (.tup [.ptr it 0,.int .i64 0]) L')->Zx 19 [.agg [.sl x m none,.sl y 9 none],.sl (ns.map AV.str) ns.length cap] L K):=@hid _ (fun {L K} q0 q1=>by
  rw [<- hx,<- hm];exact Ow i6.1 i6.2.1 (by omega) hn hR q0 fun L' it B e g1 g2 g3=>q1 L' it B e (hid ⟨g1,g2,g3⟩))
 have kR:Hid (∀ {L:List Blk} {K:Zy},(∀ L',R.1≠0->bA (fun _=>False) L L'->K (.tup [.nilptr,.int .i64 R.1]) L')->(∀ L' rt,R.1=0->Hid (Xv L' rt [.sl (cy aN) aN.length none,.sl Ma 9 none] R.2 []/\bA (fun _=>False) L L'/\L.length<=rt)->K (.tup [.ptr rt 0,.int .i64 0]) L')->Zx 32 [.agg [.sl x m none,.sl y 9 none],.sl (ns.map AV.str) ns.length cap] L K):=@hid _ (fun {L K} q0 q1=>by
  rw [<- hx,<- hm];exact Uw i6.1 i6.2.1 hyf (by omega) hn hR q0 fun L' rt e g1 g2 g3=>q1 L' rt e (hid ⟨by rw [hy];exact g1,g2,g3⟩))
 have hel:=Dw acts;have hat:=hid (fun k (q:k<acts.length)=>CK q);obtain ⟨ES,hES⟩:=Zt (cj acts);rw [hES] at hel hat ⊢;replace h0:=hid h0;replace h1:=hid h1;replace ha:=hid ha;replace hts:=hid hts;obtain ⟨z,tm⟩:=R;simp only at kN kR hts;have hcl:=hid hR;clear hR hn hnl hES;by_cases hz:z=0;rotate_left
 ·have hz1:¬ (z:Int)=0:=hz;refine Zw vT ?_;refine kN.out (fun L1 _ u1=>?_) (fun _ _ _ e=>absurd e hz);have hb1:Hid (bA (fun _=>False) L L1/\L1[L.length]?=some (.cells [.sl x m none,.sl y 9 none])):=hid ⟨(bA.app (B:=fun _=>False) L _).trans u1 (fun _ _ e=>e),u1.get (by simp) (fun e=>e)⟩;clear u1;have hx7:=hb1.out.2;refine wk ?_;refine kR.out (fun L2 _ u2=>?_) (fun _ _ e=>absurd e hz);have hb2:Hid (bA (fun _=>False) L L2/\L2[L.length]?=some (.cells [.sl x m none,.sl y 9 none])):=hid ⟨hb1.out.1.trans u2 (fun _ _ e=>e),u2.get hx7 (fun e=>e)⟩;clear u2 hb1 hx7 kN kR L1;refine wk ?_;refine ak (fun n T' L'=>∃ j:Nat,n=acts.length - j/\j<=acts.length/\Hid (bA (fun _=>False) L L'/\L'[L.length]?=some (.cells [.sl x m none,.sl y 9 none]))/\Hid (L2.length<=L'.length)/\T'=[(41,.int .i64 (j:Int)),(40,.int .i64 acts.length),(39,.sl ES acts.length capA),(1,.sl ES acts.length capA),(10,.nilptr),(8,.nilptr),(7,.ptr L.length 0)]) (CutS (b:=ZA _)) ⟨0,rfl,ZI _,hb2,hid (ZA _),rfl⟩ ?_;clear hb2;rintro _ _ L' ⟨j,rfl,hj,hb,hle,rfl⟩;have hx7:=hb.out.2;by_cases hjl:j<acts.length
  ·have hal:=ha.out.len;have j1:(j:Int)<(acts.length:Int):=by omega
   have j2:=Zv j (by omega);have e3:=hat.out j hjl;have e4:j * 2+2<=ES.length:=by rw [hel];omega
   obtain ⟨⟨id,av⟩,he⟩:∃ e,acts.getD j (0,[])=e:=⟨_,rfl⟩;have hmem:(id,av)∈acts:=by rw [<- he];simp [hjl]
   have hrd:=ha.out.at' _ hmem;rw [he] at e3;simp only [KA] at e3;have kF1:=@kF av hrd;have aX:∀ X,(L'++X)[L.length]?=some (.cells [.sl x m none,.sl y 9 none]):=fun X=>Zu hx7
   have hbb:=hid (fun X=>hb.out.1.app2 X);have h0':=hid (fun b X=>h0.out (L'++X) b (hbb.out X));have hle2:=hle.out;have hnx:Hid (bA (fun _=>False) L (L'++[Blk.cells [.int .i64 id,atV av]])/\(L'++[Blk.cells [.int .i64 id,atV av]])[L.length]?=some (.cells [.sl x m none,.sl y 9 none])):=hid ⟨hbb.out _,aX _⟩;have hnl:Hid (L2.length<=(L'++[Blk.cells [.int .i64 id,atV av]]).length):=hid (by simp;omega);by_cases h40:40<acts.length
   ·have g1:(acts.length:Int) > 40:=by omega
    have g2:(40:Int)<(acts.length:Int):=by omega
    clear hal he hmem hrd kF1 kM kF hnx hnl;refine wk ?_;exact aa (h0'.out _ _)
   have g1:¬ (acts.length:Int) > 40:=by omega
   have g2:¬ (40:Int)<(acts.length:Int):=by omega
   cases hfw:OE av with
   | false =>
     have kk2:Hid (Ctr Tryz.prog 33 [.sl (be av) av.length none] (.bool false)):=@hid _ (fun {L K} q=>kF1.out (by rw [hfw];exact q));clear hal he hmem hrd kF1 kM kF hnx hnl hfw;refine wk ?_;exact aa (h0'.out _ _)
   | true =>
     have kk2:Hid (Ctr Tryz.prog 33 [.sl (be av) av.length none] (.bool true)):=@hid _ (fun {L K} q=>kF1.out (by rw [hfw];exact q));have kM1:=@kM av hfw hrd;obtain ⟨⟨R1,z1⟩,hR1⟩:∃ R,qJ aN [] av=R:=⟨_,rfl⟩;rw [hR1] at kM1;have kk3:Hid (Ctr Tryz.prog 34 [.agg [.sl x m none,.sl y 9 none],.sl (be av) av.length none] (.tup [.sl (be R1) R1.length none,.int .i64 z1])):=@hid _ (fun {L K} q=>kM1.out q);clear hal he hmem hrd kF1 kM kF hfw kM1 hR1;by_cases hz2:z1=0
     all_goals
      refine wk ?_;exact aj _ _ _ (by omega) (CutL (b:=hnl.out)) ⟨j+1,rfl,hjl,hnx,hnl,rfl⟩
  ·have hje:j=acts.length:=by omega
   subst hje;have j1:¬ (acts.length:Int)<(acts.length:Int):=by omega
   refine wk ?_;exact aa (h0.out _ _ hb.out.1)
 ·subst hz;obtain ⟨L0,hL0⟩:=Zt (L++[Blk.cells [.sl x m none,.sl y 9 none]]);have hb0:=hid (show bA (fun _=>False) L L0 by rw [<- hL0];exact bA.app _ _);have hx0:L0[L.length]?=some (.cells [.sl x m none,.sl y 9 none]):=by rw [<- hL0];simp
  replace hL0:=hid hL0;refine Zw vT ?_;rw [hL0.out];refine kN.out (fun _ e _=>absurd rfl e) (fun L1 it B _ u1=>?_);have hx1:L1[L.length]?=some (.cells [.sl x m none,.sl y 9 none]):=u1.out.2.1.get hx0 (fun e=>e);refine wk ?_;refine kR.out (fun _ e _=>absurd rfl e) (fun L2 rt _ u2=>?_);have hM0:Hid (fa L0 L2 it rt tm [] B):=hid (by
   obtain ⟨v1,v2,v3⟩:=u1.out;obtain ⟨w1,w2,w3⟩:=u2.out;refine ⟨v1.keep w2 (fun _ _ e=>e),w1,hts.out,fun e he=>(by cases he),fun e he=>(by cases he),fun e=>?_,v2.trans w2 (fun _ _ e=>e),v3,Z0 v2.len w3⟩;have:=v1.lt e;omega)
  have hx2:L2[L.length]?=some (.cells [.sl x m none,.sl y 9 none]):=u2.out.2.1.get hx1 (fun e=>e);clear u1 u2 hx1 kN kR hts;refine wk ?_;refine ak (fun n T' L'=>∃ (j:Nat) (l:List bf) (B:Nat->Prop),n=acts.length - j/\j<=acts.length/\Hid (fa L0 L' it rt tm l B/\l.length<=j/\l.length<=40)/\Hid (L2.length<=L'.length)/\T'=[(41,.int .i64 (j:Int)),(40,.int .i64 acts.length),(39,.sl ES acts.length capA),(1,.sl ES acts.length capA),(10,.ptr rt 0),(8,.ptr it 0),(7,.ptr L.length 0)]) (CutS (b:=ZA _)) ⟨0,[],B,rfl,ZI _,hid ⟨hM0.out,by simp,by simp⟩,hid (ZA _),rfl⟩ ?_;clear hM0 hx2;rintro _ _ L' ⟨j,l,B,rfl,hj,hM,hle,rfl⟩;have hx7:L'[L.length]?=some (.cells [.sl x m none,.sl y 9 none]):=hM.out.1.bes.get hx0 (fun e=>e);by_cases hjl:j<acts.length
  ·have hal:=ha.out.len;have j1:(j:Int)<(acts.length:Int):=by omega
   have j2:=Zv j (by omega);have e3:=hat.out j hjl;have e4:j * 2+2<=ES.length:=by rw [hel];omega
   obtain ⟨⟨id,av⟩,he⟩:∃ e,acts.getD j (0,[])=e:=⟨_,rfl⟩;have hmem:(id,av)∈acts:=by rw [<- he];simp [hjl]
   have hrd:=ha.out.at' _ hmem;have hidr:=ha.out.id _ hmem;simp only at hidr;rw [he] at e3;simp only [KA] at e3;have kF1:=@kF av hrd;have aX:∀ X,(L'++X)[L.length]?=some (.cells [.sl x m none,.sl y 9 none]):=fun X=>Zu hx7
   have hle2:=hle.out;by_cases h40:40<acts.length
   ·have g1:(acts.length:Int) > 40:=by omega
    have g2:(40:Int)<(acts.length:Int):=by omega
    have h0':=hid (fun b X=>h0.out (L'++X) b ((hb0.out.trans hM.out.1.bes (fun _ _ e=>e)).app2 X));clear hal he hmem hrd kF1 kM kF hM;refine wk ?_;exact aa (h0'.out _ _)
   have g1:¬ (acts.length:Int) > 40:=by omega
   have g2:¬ (40:Int)<(acts.length:Int):=by omega
   cases hfw:OE av with
   | false =>
     have kk2:Hid (Ctr Tryz.prog 33 [.sl (be av) av.length none] (.bool false)):=@hid _ (fun {L K} q=>kF1.out (by rw [hfw];exact q));have h0':=hid (fun b X=>h0.out (L'++X) b ((hb0.out.trans hM.out.1.bes (fun _ _ e=>e)).app2 X));clear hal he hmem hrd kF1 kM kF hfw hM;refine wk ?_;exact aa (h0'.out _ _)
   | true =>
     have kk2:Hid (Ctr Tryz.prog 33 [.sl (be av) av.length none] (.bool true)):=@hid _ (fun {L K} q=>kF1.out (by rw [hfw];exact q));have kM1:=@kM av hfw hrd;have hmk:=hid (fun hz=>W0 hfw hz);obtain ⟨⟨R1,z1⟩,hR1⟩:∃ R,qJ aN [] av=R:=⟨_,rfl⟩;rw [hR1] at kM1 hmk;simp only at hmk;have kk3:Hid (Ctr Tryz.prog 34 [.agg [.sl x m none,.sl y 9 none],.sl (be av) av.length none] (.tup [.sl (be R1) R1.length none,.int .i64 z1])):=@hid _ (fun {L K} q=>kM1.out q);have hMA:=hid (hM.out.1.app [.cells [.int .i64 id,atV av]]);have hM3:=hid (fun i (hi:B i)=>hM.out.1.ix.lt hi);have hln:=hid hM.out.2;replace hidr:=hid hidr;have hj40:j<40:=by omega
     clear he hmem hrd kF1 kM kF hfw kM1 hR1 hM;by_cases hz2:z1=0;rotate_left
     ·have hnl:Hid (L2.length<=(L'++[Blk.cells [.int .i64 id,atV av]]).length):=hid (by simp;omega);have hnx:Hid (fa L0 (L'++[Blk.cells [.int .i64 id,atV av]]) it rt tm l B/\l.length<=j+1/\l.length<=40):=hid ⟨hMA.out,by have:=hln.out;omega,hln.out.2⟩;clear hMA hln hmk;refine wk ?_;exact aj _ _ _ (by omega) (CutL (b:=hnl.out)) ⟨j+1,l,B,rfl,hjl,hnx,hnl,rfl⟩
     subst hz2;have hz0:(0:Int)=0:=rfl;by_cases hav:av=[]
     ·have hv1:(av.length:Int)=0:=by rw [hav];rfl
      replace hav:=hid hav;refine wk ?_;refine Pw hMA.out.ix (hMA.out.tms.ixg hMA.out.ents) fun L3 B3 g3 g4 g5=>?_
      obtain ⟨k2,hk⟩:=hMA.out.doc;have hk3:=hid (g4.get hk hMA.out.apart);have hD3:=hid (show _/\_/\_ from ⟨g3,g4,g5⟩);clear g3 g4 g5 hk;have hbx:L3[L'.length]?=some (.cells [.int .i64 id,atV av]):=hD3.out.2.1.get (by simp) fun e=>by have:=hM3.out _ e;omega
      refine wk ?_;refine Nl (by have:=hln.out;omega) hk3.out (by simp only [AV.frz,n8]) (by simp only [AV.frz];rfl) (by simp only [AV.frz,dD]) fun L4 k q1 q2=>?_
      have hnx:Hid (fa L0 L4 it rt tm (bU id l) B3/\(bU id l).length<=j+1/\(bU id l).length<=40):=hid ⟨hMA.out.drop hD3.out.1 hD3.out.2.1 hD3.out.2.2 (fun e he=>hMA.out.ents e (dQ.1 he).1) (fun e he=>hMA.out.ids e (dQ.1 he).1) ⟨_,q1⟩ q2,by
       have:=abt (fun e:bf=>decide (e.1≠id)) l;have h2:=hln.out;unfold bU;omega⟩
      have hnl:Hid (L2.length<=L4.length):=hid (by
       have h3:=hD3.out.2.1.len;have h4:=q2.len;simp at h3;omega)
      clear hMA hD3 hk3 q1 q2 hmk hln;refine wk ?_;exact aj _ _ _ (by omega) (CutL (b:=hnl.out)) ⟨j+1,_,_,rfl,hjl,hnx,hnl,rfl⟩
     ·have hv1:¬ (av.length:Int)=0:=fun e=>hav (aaj.1 (by omega))
      obtain ⟨hRi,hRo⟩:=hmk.out rfl;replace hRi:=hid hRi;replace hRo:=hid hRo;refine wk ?_;refine Ov hMA.out.ix (hMA.out.tms.ixg hMA.out.ents) hRo.out fun L3 B3 g3 g4 g5=>?_
      obtain ⟨k2,hk⟩:=hMA.out.doc;have hk3:=hid (g4.get hk hMA.out.apart);have hD3:=hid (show _/\_/\_ from ⟨g3,g4,g5⟩);clear g3 g4 g5 hk;have hbx:L3[L'.length]?=some (.cells [.int .i64 id,atV av]):=hD3.out.2.1.get (by simp) fun e=>by have:=hM3.out _ e;omega
      refine wk ?_;refine Us (by have:=hln.out;omega) hk3.out (by simp only [AV.frz,n8]) (by simp only [AV.frz];rfl) (by simp only [AV.frz,dD]) hRo.out.len (fun a ha=>(hRo.out.sz a ha).2) fun L4 k q1 q2=>?_
      have hnx:Hid (fa L0 L4 it rt tm (kU id R1 l) B3/\(kU id R1 l).length<=j+1/\(kU id R1 l).length<=40):=hid ⟨hMA.out.drop hD3.out.1 hD3.out.2.1 hD3.out.2.2 (fun e he=>by
        rcases eH.1 he with rfl|⟨h,_⟩
        ·exact ⟨hRi.out,hRo.out⟩
        ·exact hMA.out.ents e h) (fun e he=>by
        rcases eH.1 he with rfl|⟨h,_⟩
        ·exact hidr.out
        ·exact hMA.out.ids e h) ⟨_,q1⟩ q2,by
       have:=UI id R1 l;have h2:=hln.out;omega⟩
      have hnl:Hid (L2.length<=L4.length):=hid (by
       have h3:=hD3.out.2.1.len;have h4:=q2.len;simp at h3;omega)
      clear hMA hD3 hk3 q1 q2 hmk hln hRi hRo;refine wk ?_;exact aj _ _ _ (by omega) (CutL (b:=hnl.out)) ⟨j+1,_,_,rfl,hjl,hnx,hnl,rfl⟩
  ·have hje:j=acts.length:=by omega
   subst hje;have j1:¬ (acts.length:Int)<(acts.length:Int):=by omega
   have hfin:=hid (h1.out _ _ _ _ _ _ hcl.out (hM.out.1.base hb0.out) hM.out.2.2);clear hM;refine wk ?_;exact aa hfin.out
def Gk (v:List UInt8) (ps:List Pc):Bool:=(ps.all fun p=>decide (ps.length<=20) && decide (p.2.length<=300)) && decide (v.length<=5000)
theorem Up {v:List UInt8} {ps:List Pc} (h:Gk v ps=true):(ps.length<=1000/\∀ p∈ps,p.2.length<=100000)/\v.length<=5000:=by
 simp only [Gk,ZE,ZJ,decide_eq_true_eq] at h;refine ⟨⟨?_,fun p hp=>by have:=(h.1 p hp).2;omega⟩,h.2⟩;cases ps with
 | nil=>simp
 | cons p t=>have:=(h.1 p (by simp)).1;omega
theorem Sn {n v:List UInt8} {ps:List Pc} {cap:Option Nat} (hn:(ps.length:Int)<=9223372036854775807) (h:K (.bool (Gk v ps)) L) :
  Zx 8 [.agg [.str n,.str v,.sl (Ky ps) ps.length cap]] L K:=by
 obtain ⟨sh,hsh⟩:=Zt (Gk v ps);rw [hsh] at h;replace h:=hid h;replace hsh:=hid hsh;have hpl:=Pg ps;have hat:=hid (fun k (q:k<ps.length)=>Od q);obtain ⟨PS,hPS⟩:=Zt (Ky ps);rw [hPS] at hat hpl ⊢;clear hPS;refine Zw CX ?_;refine ak (fun m T' L'=>∃ (i:Nat) (X:List Blk),m=ps.length - i/\i<=ps.length/\Hid (∀ p∈ps.take i,ps.length<=20/\p.2.length<=300)/\T'=[(8,.int .i64 (i:Int)),(7,.int .i64 ps.length),(6,.sl PS ps.length cap),(1,.ptr L.length 0)]/\L'=L++(.cells [.str n,.str v,.sl PS ps.length cap]::X)) (CutS (b:=by simp)) ⟨0,[],rfl,ZI _,hid (by simp),rfl,rfl⟩ ?_;rintro _ _ _ ⟨i,X,rfl,hi,hI,rfl,rfl⟩;by_cases hlt:i<ps.length
 ·have j1:(i:Int)<(ps.length:Int):=by omega
  have j2:=Zv i (by omega);have e3:=hat.out i hlt;have e4:i * 2+2<=PS.length:=by rw [hpl];omega
  obtain ⟨⟨k,t⟩,hp⟩:∃ p,ps.getD i (0,[])=p:=⟨_,rfl⟩;have hmem:(k,t)∈ps:=by rw [<- hp];simp [hlt]
  rw [hp] at e3;simp only [pcA] at e3;have htk:ps.take (i+1)=ps.take i++[(k,t)]:=by rw [ZY hlt,<- hp];simp [hlt]
  have hbad:¬ (ps.length<=20/\t.length<=300)->sh=false:=fun e=>by
   rw [<- hsh.out];unfold Gk;have:(ps.all fun p=>decide (ps.length<=20) && decide (p.2.length<=300))=false:=by
    rw [acg];exact ⟨_,hmem,by simpa using e⟩
   rw [this];rfl
  by_cases h20:20<ps.length
  ·have g1:(ps.length:Int) > 20:=by omega
   have g2:(20:Int)<(ps.length:Int):=by omega
   have hf:=hbad (by omega);subst hf;clear hp hmem htk hbad hsh;refine wk ?_;exact ae rfl h.out
  have g1:¬ (ps.length:Int) > 20:=by omega
  have g2:¬ (20:Int)<(ps.length:Int):=by omega
  by_cases h300:300<t.length
  ·have g3:(t.length:Int) > 300:=by omega
   have g4:(300:Int)<(t.length:Int):=by omega
   have hf:=hbad (by omega);subst hf;clear hp hmem htk hbad hsh;refine wk ?_;exact ae rfl h.out
  ·have g3:¬ (t.length:Int) > 300:=by omega
   have g4:¬ (300:Int)<(t.length:Int):=by omega
   have hI2:Hid (∀ p∈ps.take (i+1),ps.length<=20/\p.2.length<=300):=hid (fun p hp2=>by
    rw [htk] at hp2;rcases ZD.1 hp2 with q|q
    ·exact hI.out p q
    ·rw [ZS.1 q];exact ⟨by omega,by simp only;omega⟩)
   clear hp hmem htk hbad hI;refine wk ?_;exact aj _ _ _ (by omega) (CutL (b:=by simp)) ⟨i+1,_,rfl,hlt,hI2,rfl,rfl⟩
 ·have hie:i=ps.length:=by omega
  subst hie;have j1:¬ (ps.length:Int)<(ps.length:Int):=by omega
  have hI2:=hI.out;rw [ZW] at hI2;have hall:(ps.all fun p=>decide (ps.length<=20) && decide (p.2.length<=300))=true:=by
   rw [ZJ];exact fun p hp=>by have:=hI2 p hp;simpa using this
  have hs2:decide ((v.length:Int)<=5000)=sh:=by
   rw [<- hsh.out];unfold Gk;rw [hall,aaw];exact decide_eq_decide.2 (by omega)
  clear hI hI2 hall hsh;refine wk ?_;exact ae rfl h.out
theorem TmS.typ {tm:TMp} (h:TmS aN tm) {n:List UInt8} {ty:Typ} (hg:cH tm (ab n)=some ty):eD aN n=some ty:=by
 obtain ⟨c,hc⟩:=fh hg;obtain ⟨m,h1,h2,_⟩:=h.ty _ hc;simp only at h1 h2;rw [<- h1];unfold eD;rw [h2]
structure XM (n v:List UInt8) (ps:List Pc):Prop where
 n:bd n
 len:(ps.length:Int)<=9223372036854775807
end Go.Proofs.YtcmfcpjnhephaaaGreatDoor.Av
