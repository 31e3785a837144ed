/- Joined texts of the walk, made small by a program. -/
import Derived.Test.YtcmfcpjnhephaaaGreatDoorFk14
import Derived.Test.YtcmfcpjnhephaaaGreatDoorFk15
import Derived.Test.YtcmfcpjnhephaaaGreatDoorFk12
import Derived.Test.YtcmfcpjnhephaaaGreatDoorFk17
import Derived.Test.YtcmfcpjnhephaaaGreatDoorFk11
import Derived.Test.YtcmfcpjnhephaaaGreatDoorFk16
set_option linter.unusedSimpArgs false
set_option linter.unusedVariables false
namespace Go.Proofs.YtcmfcpjnhephaaaGreatDoor.Av
open Go
set_option maxHeartbeats 8000000
set_option maxRecDepth 100000
theorem Rp (v:List UInt8) (rest:List UInt8) (hr:rest=[]\/∃ c t,rest=c::t/\(c=44\/c=43)):∀ (s b:List UInt8) (bl:Bool),b++s=v->(s=[]->bl=false)->eG b bl (wrL v.length b.length s++rest)=some (v,rest,true)
 | [],b,bl,e,h=>by
   rw [aah] at e;subst e;simp only [wrL,aab];rw [h rfl];rcases hr with rfl|⟨c,t,rfl,hc⟩
   ·exact i8
   ·exact l5 hc
 | c::s,b,bl,e,h=>by
   have ih:=fun bl' (h':s=[]->bl'=false)=>Rp v rest hr s (b++[c]) bl' (by rw [<- e];simp) h'
   have hbl:(b++[c]).length=b.length+1:=by simp
   rw [hbl] at ih;have hvl:v.length=b.length+s.length+1:=by rw [<- e];simp;omega
   rw [wrL,ZO];unfold wrB;split
   ·rename_i hc
    subst hc;show eG b bl (92::48::48::(wrL v.length (b.length+1) s++rest))=_
    rw [v8 (by decide)];exact ih false (fun _=>rfl)
   ·rename_i hc
    split
    ·rename_i h2
     show eG b bl (92::c::(wrL v.length (b.length+1) s++rest))=_
     rw [nZ]
     ·exact ih false (fun _=>rfl)
     ·rcases h2 with ⟨_,rfl|rfl⟩|⟨_,rfl⟩|h2
      ·decide
      ·decide
      ·decide
      ·simp only [ZF,abj,or_false] at h2 ⊢;rcases h2 with rfl|rfl|rfl|rfl|rfl|rfl|rfl<;>decide
    ·rename_i h2
     show eG b bl (c::(wrL v.length (b.length+1) s++rest))=_
     have h5:¬ c∈([34,43,44,59,60,62,92]:List UInt8):=fun q=>h2 (.inr (.inr q))
     simp only [ZF,abj,or_false,not_or] at h5;rw [iL (fun q=>q.elim (fun q=>h5.2.2.1 q) (fun q=>h5.2.1 q)) (fun q=>h5.2.2.2.2.2.2 q)];rw [if_neg]
     ·refine ih _ (fun hs=>?_);rw [decide_eq_false_iff_not];intro q;refine h2 (.inr (.inl ⟨?_,q⟩));rw [hvl,hs];simp
     ·rintro (q|q|⟨q1,q2⟩)
      ·exact hc q
      ·simp only [ZF,abj,or_false] at q;rcases q with q|q|q|q
       ·exact h5.1 q
       ·exact h5.2.2.2.1 q
       ·exact h5.2.2.2.2.1 q
       ·exact h5.2.2.2.2.2.1 q
      ·exact h2 (.inl ⟨by rw [q1];rfl,q2⟩)
theorem Gh (v:List UInt8) {rest:List UInt8} (hr:rest=[]\/∃ c t,rest=c::t/\(c=44\/c=43)):eG [] false (dS v++rest)=some (v,rest,true) :=
 Rp v rest hr v [] false rfl (fun _=>rfl)
theorem PU:∀ (t r:List UInt8),(∀ c∈t,c≠61)->gi (t++61::r)=some (t,r)
 | [],r,_=>by simp [gi]
 | c::t,r,h=>by
   rw [aaf,gi,if_neg (h c (by simp)),PU t r (fun x hx=>h x (by simp [hx]))]
theorem Ug {t:List UInt8} (h:fq t=true):∀ c∈t,c≠61:=by
 intro c hc e;simp only [fq,ZE,ZJ] at h;have:=h.2 c hc;rw [e] at this;exact absurd this (by decide)
theorem LH (x sep:List UInt8) (xs:List (List UInt8)):Lib.join (x::xs) sep=x++xs.flatMap (fun y=>sep++y):=by
 induction xs generalizing x with
 | nil=>simp [Lib.join,List.intercalate]
 | cons y l ih =>
   have e:Lib.join (x::y::l) sep=x++(sep++Lib.join (y::l) sep):=by simp [Lib.join,List.intercalate]
   rw [e,ih];simp
def iT (t:Rdn):List UInt8:=t.flatMap fun a=>43::avT false a
def iN (d:List Rdn):List UInt8:=d.flatMap fun r=>44::c8 false r
theorem Nf (a:Ava) (t:Rdn):c8 false (a::t)=avT false a++iT t:=by
 simp only [c8,ZP,if_false,ZK,LH,iT];simp [List.flatMap_map]
theorem Se (r:Rdn) (d:List Rdn):dJ false (r::d)=c8 false r++iN d:=by
 simp only [dJ,ZK,LH,iN];simp [List.flatMap_map]
theorem Lw:∀ (f:Nat) (out:List Rdn) (now:Rdn) (a:Ava) (t:Rdn) (d:List Rdn),(avT false a++(iT t++iN d)).length<f->out.length<32->dw now (a::t)=0->gx (out.length+1) d=0 ->
  mK f out now (avT false a++(iT t++iN d))=(out++[now++a::t]++d,0)
 | 0,_,_,_,_,_,h,_,_,_=>by omega
 | f+1,out,now,(ty,v),t,d,hf,ho,hc,hd=>by
   unfold dw at hc;split at hc
   ·cases hc
   rename_i hn8
   split at hc
   ·cases hc
   rename_i hty
   split at hc
   ·cases hc
   rename_i hha
   simp only [Bool.not_eq_false] at hty;have e1:avT false (ty,v)++(iT t++iN d)=ty++61::(dS v++(iT t++iN d)):=by simp [avT]
   rw [e1] at hf ⊢;rw [mK,if_neg (by omega),PU _ _ (Ug hty)];simp only;rw [if_neg (by simp [hty]),if_neg hha];rcases t with _|⟨a2,t⟩
   ·rcases d with _|⟨r,d⟩
    ·rw [show iT []++iN []=([]:List UInt8) from rfl];rw [Gh v (.inl rfl)];simp
    ·rw [show iT []++iN (r::d)=44::(c8 false r++iN d) by simp [iT,iN]] at hf ⊢;rw [Gh v (.inr ⟨44,_,rfl,.inl rfl⟩)];simp only [aaF,if_false,if_true];unfold gx at hd;split at hd
     ·cases hd
     rename_i h32
     split at hd
     ·cases hd
     rename_i hr0
     split at hd
     ·rename_i h5;exact absurd hd h5
     rename_i h5
     simp only [ne_eq,abL] at h5;rcases r with _|⟨a2,t⟩
     ·exact absurd rfl hr0
     have ih:=Lw f (out++[now++[(ty,v)]]) [] a2 t d;rw [Nf,ZO] at hf ⊢;rw [ih (by simp only [ZQ,ZN] at hf ⊢;omega) (by simp;omega) h5 (by simpa using hd)];simp
   ·rw [show iT (a2::t)++iN d=43::(avT false a2++(iT t++iN d)) by simp [iT]] at hf ⊢;rw [Gh v (.inr ⟨43,_,rfl,.inr rfl⟩)];simp only [aaF,if_false,show ¬ ((43:UInt8)=44) by decide];have ih:=Lw f out (now++[(ty,v)]) a2 t d;rw [ih (by simp only [ZQ,ZN] at hf ⊢;omega) ho hc hd];simp
theorem US {d:List Rdn} (h:gx 0 d=0) (hl:(dJ false d).length<=4096):qF (dJ false d)=(d,0):=by
 unfold qF;rw [if_neg (by omega)];rcases d with _|⟨r,d⟩
 ·simp [dJ,Lib.join]
 unfold gx at h;split at h
 ·cases h
 split at h
 ·cases h
 rename_i hr0
 split at h
 ·rename_i h5;exact absurd h h5
 rename_i h5
 simp only [ne_eq,abL] at h5;rcases r with _|⟨a,t⟩
 ·exact absurd rfl hr0
 rw [Se,Nf,ZO];rw [if_neg (by simp [avT])];have:=Lw ((avT false a++(iT t++iN d)).length+1) [] [] a t d (by omega) (by simp) h5 h;rw [this];simp
theorem dV (c:UInt8):(dA c).toNat=if 65<=c.toNat/\c.toNat<=90 then c.toNat+32 else c.toNat:=by
 by_cases h:65<=c.toNat/\c.toNat<=90
 ·have:=Om h.1 h.2;rw [if_pos h];omega
 ·rw [qK h,if_neg h]
theorem ND (c:UInt8):dA (dA c)=dA c:=by
 refine qK ?_;rw [dV];split<;>omega
theorem LT (s:List UInt8):ab (ab s)=ab s:=by
 unfold ab;rw [Z4];exact aa6 fun c _=>ND c
theorem Lo (s:List UInt8) (c:UInt8):bF (s++[c])=aJ (bF s) c:=by simp [bF]
theorem Lp (s:List UInt8):(bF s).length<=s.length:=by
 have:=l6 s s.length
 rwa [ZW] at this
theorem Ob {b:List UInt8} (c:UInt8) (h:bF b=b):bF (aJ b c)=aJ b c:=by
 by_cases hc:c=32/\qV b=true
 ·simp only [aJ,if_pos hc];exact h
 ·simp only [aJ,if_neg hc];rw [Lo,h,aJ,if_neg hc]
theorem PN:∀ (s b:List UInt8),bF b=b->bF (s.foldl aJ b)=s.foldl aJ b
 | [],_,h=>h
 | c::s,b,h=>PN s (aJ b c) (Ob c h)
theorem IZ (s:List UInt8):bF (bF s)=bF s:=PN s [] rfl
theorem Xc {b:List UInt8} {c:UInt8} (h:bF (b++[c])=b++[c]):bF b=b/\¬ (c=32/\qV b=true):=by
 rw [Lo] at h;unfold aJ at h;split at h
 ·have:=Lp b;rw [h] at this;simp at this;omega
 ·rename_i hc
  have:=List.append_cancel_right h;rw [this] at hc;exact ⟨this,hc⟩
theorem IV {b:List UInt8} (h:bF b=b):bF (cZ b)=cZ b/\cZ (cZ b)=cZ b:=by
 rcases abp b with rfl|⟨d,c,rfl⟩
 ·simp [cZ,bF]
 ·rw [abN] at h ⊢;obtain ⟨h1,h2⟩:=Xc h;rw [eN];split
  ·rename_i hc
   refine ⟨h1,?_⟩;have h3:qV d=false:=by simpa [hc] using h2
   unfold cZ;rw [if_neg];intro e;simp [qV,e] at h3
  ·rename_i hc
   exact ⟨h,by rw [eN,if_neg hc]⟩
theorem Ol {b:List UInt8} {c x:UInt8} (h:x∈aJ b c):x∈b\/x=c:=by
 unfold aJ at h;split at h
 ·exact .inl h
 ·simpa using h
theorem Pn:∀ (s b:List UInt8) {x:UInt8},x∈s.foldl aJ b->x∈b\/x∈s
 | [],_,_,h=>.inl h
 | c::s,b,x,h=>by
   rcases Pn s (aJ b c) h with h1|h1
   ·rcases Ol h1 with h2|h2
    ·exact .inl h2
    ·exact .inr (by simp [h2])
   ·exact .inr (by simp [h1])
theorem SR {b:List UInt8} {x:UInt8} (h:x∈cZ b):x∈b:=by
 unfold cZ at h;split at h
 ·exact (List.dropLast_sublist b).subset h
 ·exact h
theorem NA {s:List UInt8} {x:UInt8} (h:x∈bD s):∃ c∈s,x=dA c:=by
 rcases Pn _ _ (SR h) with h1|h1
 ·cases h1
 ·obtain ⟨c,hc,rfl⟩:=ZC.1 h1;exact ⟨c,hc,rfl⟩
theorem PO (s:List UInt8):ab (bD s)=bD s:=by
 unfold ab;rw [aa6 (g:=id) (fun x hx=>?_),List.map_id];obtain ⟨c,_,rfl⟩:=NA hx;exact ND c
theorem Gr (s:List UInt8):bD (bD s)=bD s:=by
 have h1:bD (bD s)=cZ (bF (bD s)):=by
  show cZ (bF (ab (bD s)))=_
  rw [PO]
 rw [h1];have h2:=IV (IZ (ab s));show cZ (bF (cZ (bF (ab s))))=cZ (bF (ab s))
 rw [h2.1,h2.2]
def Chr (q:List UInt8):Prop:=q≠[]/\(∀ s,Lib.validD (q++s)=Lib.validD s)/\((∃ c:UInt8,q=[c]/\c.toNat<128)\/∀ c∈q,128<=c.toNat)
inductive Seg:List UInt8->Prop
 | nil:Seg []
 | cons {q s:List UInt8}:Chr q->Seg s->Seg (q++s)
theorem i7 (b:UInt8) (t:List UInt8):Lib.validD (b::t)=if fO (t.length+1) b.toNat (t.getD 0 0).toNat (t.getD 1 0).toNat (t.getD 2 0).toNat=0 then false else Lib.validD ((b::t).drop (fO (t.length+1) b.toNat (t.getD 0 0).toNat (t.getD 1 0).toNat (t.getD 2 0).toNat)):=by
 rw [<- Dl (t.length+1) (b::t) (by simp),OZ];split
 ·rfl
 ·rename_i hn
  refine Dl _ _ ?_;rw [abC,ZN];omega
theorem Seg.valid {s:List UInt8} (h:Seg s):Lib.validD s=true:=by
 induction h with
 | nil=>exact Lib.validD_nil
 | cons hq _ ih=>rw [hq.2.1];exact ih
theorem Seg.app {a b:List UInt8} (h:Seg a) (hb:Seg b):Seg (a++b):=by
 induction h with
 | nil=>exact hb
 | cons hq _ ih=>rw [ZO];exact .cons hq ih
theorem OL {c:UInt8} (h:c.toNat<128):Chr [c]:=by
 refine ⟨by simp,fun s=>?_,.inl ⟨c,rfl,h⟩⟩;rw [acb,i7];rw [show fO (s.length+1) c.toNat (s.getD 0 0).toNat (s.getD 1 0).toNat (s.getD 2 0).toNat=1 by rw [fO,if_pos h]];simp
theorem XZ {n b0 b1 b2 b3:Nat} (h:n<2) (hb:¬ b0<128):fO n b0 b1 b2 b3=0:=by
 rw [fO,if_neg hb,if_pos (show Dc n b0 b1 from .inl h),if_pos (show IP n b0 b1 b2 from .inl (by omega)),if_pos (show DH n b0 b1 b2 b3 from .inl (by omega))];simp
theorem XY {n b0 b1 b2 b3:Nat} (h:n<3) (hb:¬ b0<224):fO n b0 b1 b2 b3=0:=by
 rw [fO,if_neg (show ¬ b0<128 by omega),if_neg hb,if_pos (show IP n b0 b1 b2 from .inl h),if_pos (show DH n b0 b1 b2 b3 from .inl (by omega))];simp
theorem XX {n b0 b1 b2 b3:Nat} (h:n<4) (hb:¬ b0<240):fO n b0 b1 b2 b3=0:=by
 rw [fO,if_neg (show ¬ b0<128 by omega),if_neg (show ¬ b0<224 by omega),if_neg hb,if_pos (show DH n b0 b1 b2 b3 from .inl h)];simp
theorem La:∀ (n:Nat) (s:List UInt8),s.length<=n->Lib.validD s=true->Seg s
 | _,[],_,_=>.nil
 | 0,_::_,h,_=>by simp at h
 | n+1,b::t,h,hv=>by
   rw [i7] at hv;split at hv
   ·cases hv
   rename_i hz
   by_cases h1:b.toNat<128
   ·rw [show fO (t.length+1) b.toNat (t.getD 0 0).toNat (t.getD 1 0).toNat (t.getD 2 0).toNat=1 by rw [fO,if_pos h1]] at hv;exact Seg.cons (q:=[b]) (OL h1) (La n t (by simpa using h) (by simpa using hv))
   have hbb:=b.toNat_lt;obtain ⟨k,hk⟩:=Zt (fO (t.length+1) b.toNat (t.getD 0 0).toNat (t.getD 1 0).toNat (t.getD 2 0).toNat);rw [hk] at hv hz;rcases t with _|⟨x,t⟩
   ·exfalso;rw [XZ (by simp) (by assumption)] at hk;exact hz hk.symm
   by_cases h2:b.toNat<224
   ·have hA:128<=b.toNat/\Cn x.toNat/\128<=(b.toNat - 192) * 64+x.toNat - 128/\¬ b.toNat<192/\k=2:=by
     simp only [fO,if_neg h1,if_pos h2,aaB,Dc] at hk
     repeat' split at hk
     all_goals first|(exfalso;omega)|(unfold Cn;rename_i h5 h6;unfold Cn at h6;omega)
    obtain ⟨a1,a2,a3,a4,rfl⟩:=hA;refine Seg.cons (q:=[b,x]) ⟨by simp,fun s=>?_,.inr (abd.2 ⟨a1,abd.2 ⟨a2.1,fun _ h=>nomatch h⟩⟩)⟩ (La n t (by simp at h;omega) (by simpa using hv));show Lib.validD (b::x::s)=_
    rw [i7];rw [show fO ((x::s).length+1) b.toNat ((x::s).getD 0 0).toNat ((x::s).getD 1 0).toNat ((x::s).getD 2 0).toNat=2 by
     rw [fO,if_neg h1,if_neg a4,if_pos h2,if_neg];simp only [Dc,aaB,ZN];rintro (e|e|e)
     ·omega
     ·exact e a2
     ·omega]
    simp
   rcases t with _|⟨y,t⟩
   ·exfalso;rw [XY (by simp) (by assumption)] at hk;exact hz hk.symm
   by_cases h3:b.toNat<240
   ·have hA:Cn x.toNat/\Cn y.toNat/\¬ IP (t.length+3) b.toNat x.toNat y.toNat/\k=3:=by
     simp only [fO,if_neg h1,if_neg h2,if_neg (show ¬ b.toNat<192 by omega),if_pos h3,aaB,aba,ZN] at hk;split at hk
     ·exfalso;omega
     ·rename_i h6
      refine ⟨?_,?_,h6,hk.symm⟩
      ·by_cases e:Cn x.toNat
       ·exact e
       ·exact absurd (.inr (.inl e)) h6
      ·by_cases e:Cn y.toNat
       ·exact e
       ·exact absurd (.inr (.inr (.inl e))) h6
    obtain ⟨a1,a2,a3,rfl⟩:=hA;refine Seg.cons (q:=[b,x,y]) ⟨by simp,fun s=>?_,.inr (abd.2 ⟨(by omega),abd.2 ⟨a1.1,abd.2 ⟨a2.1,fun _ h=>nomatch h⟩⟩⟩)⟩ (La n t (by simp at h;omega) (by simpa using hv));show Lib.validD (b::x::y::s)=_
    rw [i7];rw [show fO ((x::y::s).length+1) b.toNat ((x::y::s).getD 0 0).toNat ((x::y::s).getD 1 0).toNat ((x::y::s).getD 2 0).toNat=3 by
     rw [fO,if_neg h1,if_neg (show ¬ b.toNat<192 by omega),if_neg h2,if_pos h3,if_neg];simp only [aaB,aba,ZN];intro e;apply a3;rcases e with e|e
     ·omega
     ·exact .inr e]
    simp
   rcases t with _|⟨z,t⟩
   ·exfalso;rw [XX (by simp) (by assumption)] at hk;exact hz hk.symm
   have hA:Cn x.toNat/\Cn y.toNat/\Cn z.toNat/\¬ DH (t.length+4) b.toNat x.toNat y.toNat z.toNat/\k=4:=by
    simp only [fO,if_neg h1,if_neg h2,if_neg (show ¬ b.toNat<192 by omega),if_neg h3,aaB,aba,ZN] at hk;split at hk
    ·exfalso;omega
    ·rename_i h6
     refine ⟨?_,?_,?_,h6,hk.symm⟩
     ·by_cases e:Cn x.toNat
      ·exact e
      ·exact absurd (.inr (.inl e)) h6
     ·by_cases e:Cn y.toNat
      ·exact e
      ·exact absurd (.inr (.inr (.inl e))) h6
     ·by_cases e:Cn z.toNat
      ·exact e
      ·exact absurd (.inr (.inr (.inr (.inl e)))) h6
   obtain ⟨a1,a2,a4,a3,rfl⟩:=hA;refine Seg.cons (q:=[b,x,y,z]) ⟨by simp,fun s=>?_,.inr (abd.2 ⟨(by omega),abd.2 ⟨a1.1,abd.2 ⟨a2.1,abd.2 ⟨a4.1,fun _ h=>nomatch h⟩⟩⟩⟩)⟩ (La n t (by simp at h;omega) (by simpa using hv));show Lib.validD (b::x::y::z::s)=_
   rw [i7];rw [show fO ((x::y::z::s).length+1) b.toNat ((x::y::z::s).getD 0 0).toNat ((x::y::z::s).getD 1 0).toNat ((x::y::z::s).getD 2 0).toNat=4 by
    rw [fO,if_neg h1,if_neg (show ¬ b.toNat<192 by omega),if_neg h2,if_neg h3,if_neg];simp only [aaB,aba,ZN];intro e;apply a3;rcases e with e|e
    ·omega
    ·exact .inr e]
   simp
theorem Seg.last {s:List UInt8} (h:Seg s):∀ d:List UInt8,s=d++[32]->Seg d:=by
 induction h with
 | nil=>intro d e;simp at e
 | @cons q s hq hs ih =>
   intro d e;rcases abp s with rfl|⟨s',c,rfl⟩
   ·rw [aah] at e;subst e;rcases hq.2.2 with ⟨c,e2,_⟩|h2
    ·have:d=[]:=by
      have:=congrArg List.length e2;simp at this;exact this
     subst this;exact .nil
    ·have:=h2 32 (by simp);exact absurd this (by decide)
   ·rw [abN] at *;rw [<- ZO] at e;obtain ⟨e1,e2⟩:=List.append_inj' e rfl;subst e1;rw [e2] at ih hs;exact .cons hq (ih s' rfl)
theorem VD {q:List UInt8} (hq:∀ c∈q,128<=c.toNat):∀ b,q.foldl aJ b=b++q:=by
 induction q with
 | nil=>simp
 | cons c q ih =>
   intro b;have hc:=hq c (by simp);have h32:¬ (c=32/\qV b=true):=by rintro ⟨rfl,_⟩;exact absurd hc (by decide)
   rw [aat,aJ,if_neg h32,ih (fun c hc=>hq c (by simp [hc]))];simp
theorem Xg {q:List UInt8} (hq:Chr q):Chr (ab q)/\((∃ c:UInt8,ab q=[c]/\c.toNat<128)\/∀ c∈ab q,128<=c.toNat):=by
 have h:Chr (ab q):=by
  rcases hq.2.2 with ⟨c,rfl,hc⟩|h2
  ·refine OL (c:=dA c) ?_;rw [dV];split<;>omega
  ·have:ab q=q:=by
    unfold ab;rw [aa6 (g:=id) (fun x hx=>?_),List.map_id];refine qK ?_;have:=h2 x hx;omega
   rw [this];exact hq
 exact ⟨h,h.2.2⟩
theorem Uq {s:List UInt8} (h:Seg s):∀ b,Seg b->Seg ((ab s).foldl aJ b):=by
 induction h with
 | nil=>exact fun b hb=>hb
 | @cons q s hq hs ih =>
   intro b hb;rw [show ab (q++s)=ab q++ab s by simp [ab],abo];refine ih _ ?_;obtain ⟨h1,⟨c,e,hc⟩|h2⟩:=Xg hq
   ·rw [e];simp only [aat,abq,aJ];split
    ·exact hb
    ·exact hb.app (.cons (s:=[]) (OL hc) .nil)
   ·rw [VD h2];refine hb.app ?_;have:=Seg.cons h1 .nil
    rwa [aah] at this
theorem OY {s:List UInt8} (h:Lib.validD s=true):Lib.validD (bD s)=true:=by
 have h1:=Uq (La _ s (ZA _) h) [] .nil;refine Seg.valid ?_;show Seg (cZ (bF (ab s)))
 unfold bF;obtain ⟨b,hb⟩:=Zt ((ab s).foldl aJ []);rw [hb] at h1 ⊢;rcases abp b with rfl|⟨d,c,rfl⟩
 ·exact .nil
 ·rw [abN] at h1 ⊢;rw [eN];split
  ·rename_i hc
   subst hc;exact h1.last d rfl
  ·exact h1
def Dif (a b:Ava):Prop:=ab a.1≠ab b.1
theorem RK {r:Rdn} {t:List UInt8}:gw r t=false↔∀ a∈r,ab a.1≠ab t:=by simp [gw]
theorem Mb:∀ (t done:Rdn),done.length<=8->(dw done t=0↔done.length+t.length<=8/\(∀ a∈t,fq a.1=true)/\(∀ a∈done,∀ b∈t,Dif a b)/\t.Pairwise Dif)
 | [],done,h=>by simp [dw,h]
 | a::t,done,h=>by
   unfold dw;by_cases h8:done.length=8
   ·rw [if_pos h8];simp only [ZN];constructor
    ·intro e;cases e
    ·intro e;omega
   rw [if_neg h8];by_cases hty:fq a.1=false
   ·rw [if_pos hty];constructor
    ·intro e;cases e
    ·intro e;have:=e.2.1 a (by simp);rw [hty] at this;cases this
   rw [if_neg hty];by_cases hh:gw done a.1=true
   ·rw [if_pos hh];constructor
    ·intro e;cases e
    ·intro e;have:gw done a.1=false:=RK.2 fun b hb=>e.2.2.1 b hb a (by simp)
     rw [hh] at this;cases this
   rw [if_neg hh,Mb t (done++[a]) (by simp;omega)];simp only [Bool.not_eq_false] at hty;have hh2:=RK.1 (by simpa using hh);simp only [ZQ,ZN,aav,ZD,ZS,ZF,abj,or_false,forall_eq_or_imp,aap];constructor
   ·rintro ⟨e1,e2,e3,e4⟩;refine ⟨by omega,⟨hty,e2⟩,fun x hx=>⟨hh2 x hx,fun b hb=>e3 x (.inl hx) b hb⟩,fun b hb=>e3 a (.inr rfl) b hb,e4⟩
   ·rintro ⟨e1,⟨_,e2⟩,e3,e4,e5⟩;refine ⟨by omega,e2,?_,e5⟩;rintro x (hx|rfl) b hb
    ·exact (e3 x hx).2 b hb
    ·exact e4 b hb
theorem Sd {t:List UInt8} (h:fq t=true):fq (ab t)=true:=by
 simp only [fq,ZE,ZJ,decide_eq_true_eq] at h ⊢;obtain ⟨⟨⟨h1,h2⟩,h3⟩,h4⟩:=h;have hlet:∀ c:UInt8,kJ (c.toNat:Int)=true->kJ ((dA c).toNat:Int)=true:=by
  intro c hc;have:=dV c;split at this
  ·rw [this];simp only [kJ,aaa,ZE,decide_eq_true_eq] at hc ⊢;omega
  ·rw [this];exact hc
 refine ⟨⟨⟨by simpa [ab] using h1,by simpa [ab] using h2⟩,?_⟩,?_⟩
 ·rcases t with _|⟨c,t⟩
  ·simp at h1
  ·simpa [ab] using hlet c (by simpa using h3)
 ·intro c hc;obtain ⟨x,hx,rfl⟩:=ZC.1 hc;have:=h4 x hx;simp only [G4,aaa] at this ⊢;rcases this with (e|e)|e
  ·exact .inl (.inl (hlet x e))
  ·refine .inl (.inr ?_);simp only [ZE,decide_eq_true_eq] at e ⊢;rw [dV,if_neg (by omega)];exact e
  ·refine .inr ?_;simp only [decide_eq_true_eq] at e ⊢;rw [dV,if_neg (by omega)];exact e
theorem Lr (r:Rdn):(ez r).Perm (r.map nI):=by
 have:=(ID r [] List.Pairwise.nil).2
 rwa [aab] at this
theorem SJ (a:Ava):nI (nI a)=nI a:=by simp [nI,LT,Gr]
theorem OM {r:Rdn} (h:dw [] r=0):dw [] (ez r)=0:=by
 rw [Mb _ _ (by simp)] at h ⊢;obtain ⟨h1,h2,_,h4⟩:=h;have hp:=Lr r;refine ⟨by simpa [rm] using h1,fun a ha=>?_,fun a ha=>(by cases ha),?_⟩
 ·obtain ⟨b,hb,rfl⟩:=ZC.1 (hp.mem_iff.1 ha);exact Sd (h2 b hb)
 ·refine (hp.pairwise_iff (fun {a b} e=>Ne.symm e)).2 ?_;rw [acj];refine h4.imp fun {a b} e=>?_
  simpa [Dif,nI,LT] using e
theorem Mc:∀ (d:List Rdn) (i:Nat),gx i d=0->gx i (gc d)=0
 | [],_,h=>h
 | r::d,i,h=>by
   unfold gx at h;show gx i (ez r::gc d)=0
   unfold gx;split at h
   ·cases h
   rename_i h32
   split at h
   ·cases h
   rename_i hr
   split at h
   ·rename_i h5;exact absurd h h5
   rename_i h5
   simp only [ne_eq,abL] at h5;rw [if_neg h32,if_neg,if_neg (by simpa using OM h5),Mc d _ h];intro e;have:=congrArg List.length e;rw [rm] at this;exact hr (aaj.1 this)
def wtB (c:UInt8):Nat:=if c=0 then 3 else if c∈([34,43,44,59,60,62,92]:List UInt8) then 2 else 1
def wtS (s:List UInt8):Nat:=(s.map wtB).sum
theorem Rn (a b:List UInt8):wtS (a++b)=wtS a+wtS b:=by simp [wtS]
theorem XN:∀ c:UInt8,wtB (dA c)=wtB c:=by
 intro c;by_cases h:65<=c.toNat/\c.toNat<=90
 ·have h2:=dV c;rw [if_pos h] at h2;have g:∀ x:UInt8,65<=x.toNat->x.toNat≠92->wtB x=1:=by
   intro x hx hn;unfold wtB;rw [if_neg (by rintro rfl;exact absurd hx (by decide)),if_neg];simp only [ZF,abj,or_false];rintro (rfl|rfl|rfl|rfl|rfl|rfl|rfl)
   all_goals first|exact absurd hx (by decide)|exact absurd rfl hn
  rw [g c (by omega) (by omega),g _ (by omega) (by omega)]
 ·rw [qK h]
theorem OW (s:List UInt8):wtS (ab s)=wtS s:=by
 simp only [wtS,ab,Z4];rw [show (wtB ∘ dA)=wtB from funext XN]
theorem XR (i n:Nat) (c:UInt8):wtB c<=(wrB i n c).length:=by
 unfold wtB wrB;by_cases h0:c=0
 ·rw [if_pos h0,if_pos h0];simp
 ·rw [if_neg h0,if_neg h0];by_cases h7:c∈([34,43,44,59,60,62,92]:List UInt8)
  ·rw [if_pos h7,if_pos (.inr (.inr h7))];simp
  ·rw [if_neg h7];split<;>simp
theorem Qc (n:Nat):∀ (s:List UInt8) (i:Nat),wtS s<=(wrL n i s).length
 | [],_=>by simp [wtS]
 | c::s,i=>by
   have h1:=Qc n s (i+1);have h2:=XR i n c;simp only [wrL,ZQ,wtS,ZK,aaT] at h1 ⊢;omega
theorem XT {i n:Nat} {c:UInt8} (hi:i≠0) (hc:c≠32):(wrB i n c).length=wtB c:=by
 unfold wtB wrB;by_cases h0:c=0
 ·rw [if_pos h0,if_pos h0];simp
 ·rw [if_neg h0,if_neg h0];by_cases h7:c∈([34,43,44,59,60,62,92]:List UInt8)
  ·rw [if_pos h7,if_pos (.inr (.inr h7))];simp
  ·rw [if_neg h7,if_neg];· simp
   rintro (e|e|e)
   ·exact hi e.1
   ·exact hc e.2
   ·exact h7 e
theorem XS {i n:Nat} (hi:i≠0) (hn:i+1≠n):(wrB i n 32).length=wtB 32:=by
 have e:wrB i n 32=[32]:=by
  unfold wrB;rw [if_neg (by decide),if_neg];rintro (e|e|e)
  ·exact hi e.1
  ·exact hn e.1
  ·exact absurd e (by decide)
 rw [e];decide
theorem T7 (n:Nat):∀ (s:List UInt8) (i:Nat),i≠0->n=i+s.length->s.getLast?≠some 32->(wrL n i s).length=wtS s
 | [],_,_,_,_=>by simp [wrL,wtS]
 | c::s,i,hi,hn,hl=>by
   have h1:s.getLast?≠some 32:=by
    rcases s with _|⟨x,s⟩
    ·simp
    ·rwa [List.getLast?_cons_cons] at hl
   have ih:=T7 n s (i+1) (by omega) (by simp at hn;omega) h1;have h2:(wrB i n c).length=wtB c:=by
    by_cases hc:c=32
    ·subst hc;refine XS hi fun e=>?_
     have:s=[]:=aaj.1 (by simp at hn;omega);subst this;exact hl rfl
    ·exact XT hi hc
   rw [wrL,ZQ,ih,h2];simp [wtS]
theorem T6 (s:List UInt8):wtS s<=(dS s).length:=Qc _ _ _
theorem Qb (s:List UInt8):wtS (35::s)+1<=(dS (35::s)).length:=by
 have h1:=Qc (s.length+1) s 1;have e:wrB 0 (s.length+1) 35=[92,35]:=by
  unfold wrB;rw [if_neg (by decide),if_pos (.inl ⟨rfl,.inr rfl⟩)]
 show _<=(wrB 0 (s.length+1) 35++wrL (s.length+1) 1 s).length
 rw [e];have:wtB 35=1:=by decide
 simp only [wtS,ZK,aaT,ZQ,ZN,aav] at h1 ⊢;omega
theorem T5 {c:UInt8} {s:List UInt8} (h1:c≠32) (h2:(c::s).getLast?≠some 32):(dS (c::s)).length=wtS (c::s)+(if c=35 then 1 else 0):=by
 have hs:s.getLast?≠some 32:=by
  rcases s with _|⟨x,s⟩
  ·simp
  ·rwa [List.getLast?_cons_cons] at h2
 have h3:=T7 (s.length+1) s 1 (by omega) (by omega) hs;show (wrB 0 (s.length+1) c++wrL (s.length+1) 1 s).length=_
 rw [ZQ,h3];have h4:(wrB 0 (s.length+1) c).length=wtB c+(if c=35 then 1 else 0):=by
  unfold wtB wrB;by_cases h0:c=0
  ·subst h0;rfl
  ·rw [if_neg h0,if_neg h0];by_cases h7:c∈([34,43,44,59,60,62,92]:List UInt8)
   ·rw [if_pos h7,if_pos (.inr (.inr h7)),if_neg]
    ·rfl
    ·rintro rfl;exact absurd h7 (by decide)
   ·rw [if_neg h7];by_cases h35:c=35
    ·rw [if_pos h35,if_pos (.inl ⟨rfl,.inr h35⟩)];rfl
    ·rw [if_neg h35,if_neg];· rfl
     rintro (e|e|e)
     ·rcases e.2 with e|e
      ·exact h1 e
      ·exact h35 e
     ·exact h1 e.2
     ·exact h7 e
 rw [h4];simp [wtS];omega
theorem Ws (b:List UInt8) (c:UInt8):wtS (aJ b c)<=wtS b+wtB c:=by
 unfold aJ;split
 ·omega
 ·rw [Rn];simp [wtS]
theorem N1:∀ (s b:List UInt8),wtS (s.foldl aJ b)<=wtS b+wtS s
 | [],b=>by simp [wtS]
 | c::s,b=>by
   have h1:=N1 s (aJ b c);have h2:=Ws b c;simp only [aat,wtS,ZK,aaT] at h1 h2 ⊢;omega
theorem Rm (b:List UInt8):wtS (cZ b)<=wtS b:=by
 rcases abp b with rfl|⟨d,c,rfl⟩
 ·simp [cZ]
 ·rw [abN,eN];split
  ·rw [Rn];omega
  ·omega
theorem Je:∀ (s:List UInt8) (x:UInt8) (b:List UInt8),∃ t,s.foldl aJ (x::b)=x::t
 | [],x,b=>⟨b,rfl⟩
 | c::s,x,b=>by
   rw [aat,aJ];split
   ·exact Je s x b
   ·exact Je s x (b++[c])
theorem Wt (c:UInt8):1<=wtB c:=by
 unfold wtB;split
 ·omega
 ·split<;>omega
theorem QI (s:List UInt8):(bD s).getLast?≠some 32:=by
 have h:=IV (IZ (ab s));have e:cZ (bD s)=bD s:=h.2;intro hl;rcases abp (bD s) with q|⟨d,c,q⟩
 ·rw [q] at hl;cases hl
 ·rw [q,abN] at e hl;rw [eN,if_pos (by simpa using hl)] at e;have:=congrArg List.length e;simp at this
theorem QP {s:List UInt8} {c:UInt8} {t:List UInt8} (h:bD s=c::t):c≠32:=by
 have e:bF (bD s)=bD s:=(IV (IZ (ab s))).1;rw [h] at e;rintro rfl;have:=Lp t;have e2:bF (32::t)=t.foldl aJ []:=rfl;rw [e2] at e;have:=congrArg List.length e;have h3:(t.foldl aJ []).length<=t.length:=Lp t;simp at this;omega
theorem R6 (s:List UInt8):(dS (bD s)).length<=(dS s).length:=by
 have hge:=T6 s;have hw:wtS (bD s)<=wtS s:=by
  have h1:=Rm (bF (ab s));have h2:=N1 (ab s) [];have h3:=OW s;have h4:wtS (bF (ab s))=wtS ((ab s).foldl aJ []):=rfl;have h5:wtS ([]:List UInt8)=0:=rfl;show wtS (cZ (bF (ab s)))<=_
  omega
 rcases hp:bD s with _|⟨c,t⟩
 ·simp [dS,wrL]
 have hl:=QI s;rw [hp] at hl hw;rw [T5 (QP hp) hl];split
 ·rename_i h35
  subst h35;rcases s with _|⟨x,s⟩
  ·have:bD []=[]:=rfl;rw [this] at hp;cases hp
  ·by_cases hx:x=35
   ·subst hx;have:=Qb s;omega
   ·by_cases hx2:x=32
    ·subst hx2;have e:bD (32::s)=bD s:=rfl;have h1:=Rm (bF (ab s));have h2:=N1 (ab s) [];have h3:=OW s;have h4:wtS (bF (ab s))=wtS ((ab s).foldl aJ []):=rfl;have h5:wtS ([]:List UInt8)=0:=rfl;have h6:wtS (bD s)=wtS (cZ (bF (ab s))):=rfl;rw [e] at hp;rw [hp] at h6;have h7:wtS (32::s)=wtB 32+wtS s:=by simp [wtS]
     have h8:=Wt 32;omega
    ·exfalso;have hlx:¬ (dA x=32):=by
      intro q;have:=dV x;rw [q] at this;apply hx2;have:x.toNat=32:=by
       split at this
       ·have h9:(32:UInt8).toNat=32:=rfl;omega
       ·exact this.symm
      exact UInt8.toNat.inj this
     have hlx5:¬ (dA x=35):=by
      intro q;have:=dV x;rw [q] at this;apply hx;have:x.toNat=35:=by
       split at this
       ·have h9:(35:UInt8).toNat=35:=rfl;omega
       ·exact this.symm
      exact UInt8.toNat.inj this
     have e1:ab (x::s)=dA x::ab s:=rfl;obtain ⟨u,hu⟩:=Je (ab s) (dA x) [];have e2:bF (ab (x::s))=dA x::u:=by
      rw [e1,<- hu];show (ab s).foldl aJ (aJ [] (dA x))=_
      rw [aJ,if_neg (fun q=>hlx q.1)];rfl
     have e3:cZ (dA x::u)=35::t:=by
      rw [<- e2];exact hp
     rcases abp u with rfl|⟨d,y,rfl⟩
     ·have:cZ ([]++[dA x])=[]++[dA x]:=by rw [eN,if_neg hlx]
      rw [show [dA x]=[]++[dA x] from rfl,this] at e3;exact hlx5 (by simpa using congrArg List.head? e3)
     ·rw [abN,<- aaf,eN] at e3;split at e3
      ·exact hlx5 (by simpa using congrArg List.head? e3)
      ·exact hlx5 (by simpa using congrArg List.head? e3)
 ·omega
theorem Iz (xs:List (List UInt8)) (c:UInt8):(Lib.join xs [c]).length+1=(xs.map List.length).sum+xs.length+(if xs=[] then 1 else 0):=by
 rcases xs with _|⟨x,xs⟩
 ·simp [Lib.join]
 ·rw [LH,if_neg (by simp)];have:(xs.flatMap fun y=>[c]++y).length=(xs.map List.length).sum+xs.length:=by
   induction xs with
   | nil=>rfl
   | cons y l ih=>simp only [aaO,ZQ,ih,ZK,aaT,ZN,aav];omega
  simp only [ZQ,this,ZK,aaT,ZN];omega
theorem Qk {α:Type} {f g:α->Nat}:∀ l:List α,(∀ a∈l,f a<=g a)->(l.map f).sum<=(l.map g).sum
 | [],_=>ZA _
 | a::l,h=>by
   have h1:=Qk l fun x hx=>h x (by simp [hx])
   have h2:=h a (by simp);simp only [ZK,aaT];omega
theorem UO {l m:List Nat} (h:l.Perm m):l.sum=m.sum:=by
 induction h with
 | nil=>rfl
 | cons _ _ ih=>simp only [aaT,ih]
 | swap a b l=>simp only [aaT];omega
 | trans _ _ a b=>exact a.trans b
theorem O8 (r:Rdn):(c8 true r).length<=(c8 false r).length:=by
 have hs:(du (r.map (avT true))).Perm (r.map (avT true)):=abJ _ _;have h1:=Iz (du (r.map (avT true))) 43;have h2:=Iz (r.map (avT false)) 43;have h3:((du (r.map (avT true))).map List.length).sum=((r.map (avT true)).map List.length).sum:=UO (hs.map _);have h4:(du (r.map (avT true))).length=r.length:=by rw [hs.length_eq];simp
 have h5:((r.map (avT true)).map List.length).sum<=((r.map (avT false)).map List.length).sum:=by
  rw [Z4,Z4];refine Qk r fun a _=>?_
  have:=R6 a.2;simp only [acp,avT,if_true,ZP,if_false,ZQ,ZN,aav];simp only [ab,Z9];omega
 have h6:(if du (r.map (avT true))=[] then 1 else 0)=(if r.map (avT false)=[] then 1 else 0):=by
  have:du (r.map (avT true))=[]↔r.map (avT false)=[]:=by
   rw [<- aaj,<- aaj,h4];simp
  simp only [this]
 simp only [c8,if_true,ZP,if_false];rw [h3,h4,h6] at h1;simp only [Z9] at h2;omega
theorem O2 (d:List Rdn):(dJ true d).length<=(dJ false d).length:=by
 have h1:=Iz (d.map (c8 true)) 44;have h2:=Iz (d.map (c8 false)) 44;have h3:((d.map (c8 true)).map List.length).sum<=((d.map (c8 false)).map List.length).sum:=by
  rw [Z4,Z4];exact Qk d fun r _=>O8 r
 have h6:(if d.map (c8 true)=[] then 1 else 0)=(if d.map (c8 false)=[] then 1 else 0):=by
  simp only [acA]
 rw [h6] at h1;simp only [Z9] at h1 h2;unfold dJ;omega
theorem Si {xs ys:List (List UInt8)} (h:xs.Perm ys):du xs=du ys:=by
 have hs:∀ zs:List (List UInt8),(du zs).Pairwise fun x y=>x<=y:=fun zs=>by
  have:=acz (le:=fun x y:List UInt8=>decide (x<=y)) (fun a b c h1 h2=>by
   simp only [decide_eq_true_eq] at *;exact List.le_trans h1 h2) (fun a b=>by
   simp only [aaa,decide_eq_true_eq];exact List.le_total a b) zs
  exact this.imp fun h=>by simpa using h
 refine acy (le:=fun x y=>x<=y) (fun a b _ _=>ack) (hs xs) (hs ys) ?_;exact (abJ _ _).trans (h.trans (abJ _ _).symm)
theorem Qm (r:Rdn):c8 true (ez r)=c8 true r:=by
 simp only [c8,if_true]
 congr 1
 refine Si ?_;refine ((Lr r).map _).trans ?_;rw [Z4];rw [show (avT true ∘ nI)=avT true from funext fun a=>by simp only [acp,RQ,SJ]]
theorem Qi (d:List Rdn):dJ true (gc d)=dJ true d:=by
 unfold dJ gc;rw [Z4];rw [show (c8 true ∘ ez)=c8 true from funext Qm]
theorem QJ {s:List UInt8} (h:(CD s).2=0):CD (CD s).1=CD s/\(CD s).1.length<=4096:=by
 unfold CD at h;split at h
 ·rename_i h1;exact absurd h h1
 rename_i h1
 have hk:CD s=Ly (qF s).1:=by rw [CD,if_neg h1]
 rw [hk];obtain ⟨d,hd⟩:=Zt ((qF s).1);rw [hd] at h ⊢;unfold Ly at h;split at h
 ·rename_i h2;exact absurd h h2
 rename_i h2
 have hn:Ly d=(dJ true d,0):=by rw [Ly,if_neg h2]
 rw [hn];simp only [ne_eq,abL] at h2;have hp:gx 0 d=0/\(dJ false d).length<=4096:=by
  unfold prS at h2;split at h2
  ·rename_i h3;exact absurd h2 h3
  rename_i h3
  split at h2
  ·cases h2
  split at h2
  ·cases h2
  exact ⟨by simpa using h3,by omega⟩
 have hl:=O2 d;have ht:=Lq d;have hc:=Mc d 0 hp.1;have hl2:(dJ false (gc d)).length<=4096:=by rw [ht];omega
 refine ⟨?_,by simp only;omega⟩;simp only;rw [<- ht];unfold CD;rw [US hc hl2];simp only;rw [if_neg (by simp)];unfold Ly;have hpr:prS (gc d)=(dJ false (gc d),0):=by
  unfold prS;rw [if_neg (by simpa using hc),Ps (O4 (Z0 (Rr _) hl2)),if_neg (by simp),if_neg (by omega)]
 rw [hpr];simp only;rw [if_neg (by simp),Qi,ht]
theorem TG {v:List UInt8} (h:DI v=true):DI (bD v)=true:=by
 simp only [DI,ZJ,decide_eq_true_eq] at h ⊢;intro x hx;obtain ⟨c,hc,rfl⟩:=NA hx;have:=h c hc;have h2:=dV c;split at h2<;>omega
theorem QA {syn:Int} {v n:List UInt8} (h:cW syn v=some n) (hx:¬ (n=[]/\syn=1)):cW syn n=some n:=by
 unfold cW at h;split at h
 ·cases h
 rename_i hl
 have hpl:=qE v;unfold vQ at h;split at h
 ·rename_i hs
  split at h
  ·cases h
  split at h
  ·rename_i hv
   cases h;unfold cW vQ;rw [if_neg (by omega),if_pos hs,if_neg (fun e=>hx ⟨e,hs⟩),if_pos (OY hv),Gr]
  ·cases h
 split at h
 ·rename_i h1 hs
  split at h
  ·cases h
  rename_i h0
  split at h
  ·rename_i hv
   cases h;unfold cW vQ;rw [if_neg hl,if_neg h1,if_pos hs,if_neg h0,if_pos hv]
  ·cases h
 split at h
 ·rename_i h1 h2 hs
  split at h
  ·rename_i ha
   cases h;unfold cW vQ;rw [if_neg (by omega),if_neg h1,if_neg h2,if_pos hs,if_pos (TG ha),Gr]
  ·cases h
 split at h
 ·rename_i h1 h2 h3 hs
  split at h
  ·rename_i ha
   cases h;unfold cW vQ;rw [if_neg hl,if_neg h1,if_neg h2,if_neg h3,if_pos hs,if_pos ha]
  ·cases h
 split at h
 ·rename_i h1 h2 h3 h4 hs
  split at h
  ·rename_i ha
   cases h;unfold cW vQ;rw [if_neg hl,if_neg h1,if_neg h2,if_neg h3,if_neg h4,if_pos hs,if_pos ha]
  ·cases h
 split at h
 ·rename_i h1 h2 h3 h4 h5 hs
  split at h
  ·rename_i ha
   cases h;have hk:=QJ ha;unfold cW vQ;rw [if_neg (by omega),if_neg h1,if_neg h2,if_neg h3,if_neg h4,if_neg h5,if_pos hs,hk.1,if_pos ha]
  ·cases h
 split at h
 ·rename_i h1 h2 h3 h4 h5 h6 hs
  cases h;unfold cW vQ;rw [if_neg hl,if_neg h1,if_neg h2,if_neg h3,if_neg h4,if_neg h5,if_neg h6,if_pos hs]
 split at h
 ·rename_i h1 h2 h3 h4 h5 h6 h7 hs
  split at h
  ·rename_i ha
   cases h;unfold cW vQ;rw [if_neg hl,if_neg h1,if_neg h2,if_neg h3,if_neg h4,if_neg h5,if_neg h6,if_neg h7,if_pos hs,if_pos ha]
  ·cases h
 ·cases h
variable {L:List Blk} {K:Zy}
theorem mz (s:List UInt8):(dv s).length=s.length - 2:=by simp [dv]
theorem S8 {s:List UInt8} {i:Nat} (h:i+3<=s.length):(dv s).take (i+1)=(dv s).take i++[(s.drop i).take 3]:=by
 have hi:i<(dv s).length:=by rw [mz];omega
 rw [ZY hi];simp [dv]
theorem UZ {syn:Int} {v n:List UInt8} (h:cW syn v=some n):n.length<=4096:=by
 by_cases c:n=[]/\syn=1
 ·rw [c.1];simp
 ·exact SP (QA h c)
theorem RL {s:List UInt8} (hs:s.length<=100000) (h:K (G9 (dv s)) L):Zx 41 [.str s] L K:=by
 replace h:=hid h;refine Zw JD ?_;refine cG (l:=[]) (n:=0) 3 1 rfl (aae 1).symm ?_;refine ak (fun m T' L'=>∃ (k:Nat) (C:List AV) (X:List Blk),m=s.length - k/\k<=s.length - 2/\C=((dv s).take k).map AV.str/\T'=[(4,.int .i64 (k:Int)),(3,.gsl C k L.length 1),(0,.str s)]/\L'=L++(.spare k 1::X)) (CutS (b:=by simp)) ⟨0,[],[],rfl,ZI _,rfl,rfl,rfl⟩ ?_;rintro _ _ _ ⟨k,C,X,rfl,hk,hC,rfl,rfl⟩;by_cases hlt:k+3<=s.length
 ·have g2:IntKind.i64.wrap ((k:Int)+3)=(k:Int)+3:=ac (by omega) (by omega);have g3:=Zv k (by omega);have g1:(k:Int)+3<=(s.length:Int):=by omega
  have htk:=S8 hlt;replace htk:=hid htk;replace hC:=hid hC;have e3:((k:Int)+3).toNat - k=3:=by omega
  refine wk ?_;exact aj _ _ _ (by omega) (CutL (b:=by simp)) ⟨k+1,_,X,rfl,by omega,by rw [htk.out,Z7,hC.out];rfl,rfl,rfl⟩
 ·have g2:IntKind.i64.wrap ((k:Int)+3)=(k:Int)+3:=ac (by omega) (by omega);have g1:¬ (k:Int)+3<=(s.length:Int):=by omega
  have hke:k=s.length - 2:=by omega
  have htk:((dv s).take k)=dv s:=aaR (by rw [mz];omega);rw [htk] at hC;subst hC;have hl:=hid (show k=(dv s).length by rw [mz];exact hke);clear hke htk hk;refine wk ?_;refine bv ?_;simp only [AV.frz,dD];rw [hl.out];exact ae (by simp only [AV.refs,fA]) h.out
theorem Ts (a b:List (List UInt8×Int)) (l:List Atr):ek (a++b) l=ek a l++ek b l:=by unfold ek;rw [abO]
theorem Uf (a b:TMp):gu (a++b)=gu a++gu b:=by unfold gu;rw [Z7]
theorem Tr (f:List UInt8) (s:Int) (l:List Atr):ek [(f,s)] l=(dz l f).flatMap (CL f s):=by unfold ek;simp
theorem NL {t:List (List UInt8×Int)} {l:List Atr} {k:aZ}:k∈ek t l↔∃ p∈t,k∈(dz l p.1).flatMap (CL p.1 p.2):=by unfold ek;rw [List.mem_flatMap]
theorem Ro {B:Nat} (n:List UInt8):∀ {l:List Atr},(∀ x∈l,x.2.length<=B)->(dz l n).length<=B
 | [],_=>by simp [dz]
 | a::l,h=>by
   rw [dz];split
   ·exact h a (by simp)
   ·exact Ro n fun x hx=>h x (by simp [hx])
theorem VI {f:FuncId} {caps:List AV} {it im ie ip ii:Nat} {tm:TMp} {J:List aZ->(Nat->Prop)->List Blk->Prop} (hd:DoK Tryz.prog f caps it im ie ip ii tm J) {a:List Atr} (hal:a.length<=1100000) (har:gr dC a) (haz:∀ x∈a,bd x.1/\x.2.length<=1100000) (hm:cF tm tm.length) (hf:∀ e∈tm,bd e.1) {B0:Nat->Prop} {L:List Blk} (h0:J [] B0 L) {cap:Option Nat} {K:Zy}
  (h:∀ L',EaI J B0 L [] (fun k=>k∈ek (gu tm) a) L'->K (.tup []) L') :
  Zx 53 [.ptr it 0,.sl (be a) a.length cap,.func f caps] L K:=by
 have hE0:=hid ((EaI.start h0).app hd (.miter (some im) tm.length [] tm.length));obtain ⟨st,ty⟩:=(EaI.start h0).st hd;replace h:=hid h;replace hm:=hid hm;replace hf:=hid hf;replace hd:=hid hd;have hvl:Hid (∀ n,(dz a n).length<=1100000):=hid (fun n=>Ro n fun x hx=>(haz x hx).2);have kG:Hid (∀ {n:List UInt8},bd n->∀ {L:List Blk} {K:Zy},K (G9 (dz a n)) L->Zx 52 [.sl (be a) a.length cap,.str n] L K):=@hid _ (fun {n} hn {L K} q=>VH hal har haz hn q);clear hal har haz h0;refine Zw v6 ?_;refine ak (fun n T' L'=>∃ (seen:List Nat) (ps:TMp),n=(tm.filter fun r => !seen.contains r.2.2).length/\Hid (ra tm ps seen)/\Hid (EaI J B0 L [(L.length,.miter (some im) tm.length seen tm.length)] (fun k=>k∈ek (gu ps) a) L')/\T'=[(18,.ptr L.length 0),(0,.ptr it 0),(1,.sl (be a) a.length cap),(2,.func f caps)]) (CutS (b:=by simp)) ⟨[],[],rfl,hid ra.nil,hid (hE0.out.iff fun k=>by simp [ek,gu]),rfl⟩ ?_;clear hE0 st ty;rintro _ _ L' ⟨seen,ps,rfl,hcm,hE,rfl⟩;have hat:=hE.out.at (i:=L.length) (ZS.2 rfl);obtain ⟨hst,hty⟩:=hE.out.st hd.out;have hnl:(L++[Blk.miter (some im) tm.length [] tm.length]).length<=L'.length:=by
  have:=(Zz.1 hat).1;simp;omega
 refine bb ?_;refine K2 (i:=L.length) (j:=im) (es:=aY AV.str tyV tm) (by kernel_rfl) rfl hat hty (fun e he=>?_) (ZA _) (fun hall=>?_) (fun e he hs=>?_)
 ·obtain ⟨p,hp,rfl⟩:=ZC.1 he;exact hm.out.lt p hp
 ·have hall2:=hcm.out.all hm.out fun x hx=>hall (rA AV.str tyV x) (ZC.2 ⟨x,hx,rfl⟩)
  have hfin:=hid (h.out L' ((hE.out.iff fun k=>by
   rw [NL,NL];unfold gu;simp only [ZC];constructor
   ·rintro ⟨q,⟨e,h1,h2⟩,h3⟩;exact ⟨q,⟨e,(hall2 e).1 h1,h2⟩,h3⟩
   ·rintro ⟨q,⟨e,h1,h2⟩,h3⟩;exact ⟨q,⟨e,(hall2 e).2 h1,h2⟩,h3⟩).sub (F':=[]) (by simp)))
  clear hall hall2 hE hcm h kG hd hm hf;refine sk ?_;refine wk ?_;exact dG rfl trivial (aa hfin.out)
 ·obtain ⟨p,hp,rfl⟩:=ZC.1 he;clear he;have hs':seen.contains p.2.2=false:=hs;have hlt:=hid (XU hp hs');have hcm':=hid (hcm.out.next hp);have hmat:=U7 (ka:=AV.str) (va:=tyV) (ck:=tm.length) (seen:=seen) hm.out.born hp;have hfr:=hf.out p hp;have hE2:=hid (hE.out.turn hd.out (.miter (some im) tm.length (seen++[p.2.2]) tm.length) (by simp));obtain ⟨fn,⟨t1,t2,t3,t4⟩,bn⟩:=p;simp only [rA] at *;clear hs hs' hcm hE hat hst hty hp;obtain ⟨L2,hL2⟩:=Zt (L'.set L.length (Blk.miter (some im) tm.length (seen++[bn]) tm.length));have hl2:L'.length=L2.length:=by rw [<- hL2];simp
  rw [hL2] at hE2 ⊢;clear hL2;have hat:=hE2.out.at (i:=L.length) (ZS.2 rfl);obtain ⟨hst,hty⟩:=hE2.out.st hd.out;have kk1:Hid (Ctr Tryz.prog 52 [.sl (be a) a.length cap,.str fn] (G9 (dz a fn))):=@hid _ (fun {L K} q=>kG.out hfr q);obtain ⟨vs,hvs⟩:=Zt (dz a fn);rw [hvs] at kk1;replace hvs:=hid hvs;have hE3:=hid (hE2.out.app hd.out (.cells [.str t1,.int .i64 t2,.bool t3,.bool t4]));have hvn:=hid (show vs.length<=1100000 by rw [<- hvs.out];exact hvl.out fn);clear hE2 hfr;refine sk ?_;refine wk ?_;refine ak (fun m T' L3=>∃ i:Nat,m=vs.length - i/\i<=vs.length/\Hid (EaI J B0 L [(L2.length,.cells [.str t1,.int .i64 t2,.bool t3,.bool t4]),(L.length,.miter (some im) tm.length (seen++[bn]) tm.length)] (fun k=>k∈ek (gu ps) a\/k∈(vs.take i).flatMap (CL fn t2)) L3)/\T'=[(28,.int .i64 (i:Int)),(27,.int .i64 vs.length),(26,.sl (vs.map AV.str) vs.length none),(6,.str fn),(7,.ptr L2.length 0),(18,.ptr L.length 0),(0,.ptr it 0),(1,.sl (be a) a.length cap),(2,.func f caps)]) (CutS (b:=by simp)) ⟨0,rfl,ZI _,hid (hE3.out.iff fun k=>by simp),rfl⟩ ?_;clear hE3 kk1 hat hst hty hmat;rintro _ _ L3 ⟨i,rfl,hi,hE,rfl⟩;have hat:=hE.out.at (i:=L2.length) abz;have hl3:L2.length+1<=L3.length:=(Zz.1 hat).1;have hvn':=hvn.out;by_cases hiv:i<vs.length
  ·have j1:(i:Int)<(vs.length:Int):=by omega
   have j2:=Zv i (by omega);have j3:(vs.map AV.str).getD i .undef=.str (vs.getD i []):=by simp [hiv]
   have j4:i<(vs.map AV.str).length:=by simpa using hiv
   obtain ⟨v,hv⟩:=Zt (vs.getD i []);have htk:vs.take (i+1)=vs.take i++[v]:=by rw [ZY hiv,<- hv];simp [hiv]
   rw [hv] at j3;replace htk:=hid htk;obtain ⟨VS,hVS⟩:=Zt (vs.map AV.str);rw [hVS] at j3 j4 ⊢;clear hv hvn';rcases hno:cW t2 v with _|n
   ·have kk1:Hid (Ctr Tryz.prog 48 [.int .i64 t2,.str v] (.tup [.str [],.bool false])):=@hid _ (fun {L K} q=>Gs (by rw [hno];exact q));have hE5:=hid (hE.out.iff (M':=fun k=>k∈ek (gu ps) a\/k∈(vs.take (i+1)).flatMap (CL fn t2)) fun k=>by
     rw [htk.out,abO,ZD];simp [CL,hno])
    clear hE hno htk;refine wk ?_;rw [<- hVS];exact aj _ _ _ (by omega) (CutL (b:=hl3)) ⟨i+1,rfl,hiv,hE5,rfl⟩
   ·have kk1:Hid (Ctr Tryz.prog 48 [.int .i64 t2,.str v] (.tup [.str n,.bool true])):=@hid _ (fun {L K} q=>Gs (by rw [hno];exact q));have hnl2:=UZ hno;have kk2:Hid (Ctr Tryz.prog 41 [.str n] (G9 (dv n))):=@hid _ (fun {L K} q=>RL (by omega) q);have hgl:=mz n;obtain ⟨gs,hgs⟩:=Zt (dv n);rw [hgs] at kk2 hgl;have hgb:gs.length<=100000:=by omega
    clear hgl;replace hgb:=hid hgb;have hev:Hid (CL fn t2 v=(fn,false,n)::gs.map fun g=>(fn,true,g)):=hid (by unfold CL;rw [hno];simp only [hgs]);clear hno hgs;refine wk ?_;refine hE.out.go hd.out (k:=(fn,false,n)) fun L4 hE4 hl4=>?_
    replace hE4:=hid hE4;replace hl4:=hid (Z0 hl3 hl4);clear hE hat hl3;refine wk ?_;refine ak (fun m T' L5=>∃ j:Nat,m=gs.length - j/\j<=gs.length/\Hid (L4.length<=L5.length)/\Hid (EaI J B0 L [(L2.length,.cells [.str t1,.int .i64 t2,.bool t3,.bool t4]),(L.length,.miter (some im) tm.length (seen++[bn]) tm.length)] (fun k=>(k∈ek (gu ps) a\/k∈(vs.take i).flatMap (CL fn t2))\/k=(fn,false,n)\/k∈(gs.take j).map fun g=>(fn,true,g)) L5)/\T'=[(49,.int .i64 (j:Int)),(48,.int .i64 gs.length),(47,.sl (gs.map AV.str) gs.length none),(28,.int .i64 (i:Int)),(27,.int .i64 vs.length),(26,.sl VS vs.length none),(6,.str fn),(7,.ptr L2.length 0),(18,.ptr L.length 0),(0,.ptr it 0),(1,.sl (be a) a.length cap),(2,.func f caps)]) (CutS (b:=ZA _)) ⟨0,rfl,ZI _,hid (ZA _),hid (hE4.out.iff fun k=>by simp [or_assoc]),rfl⟩ ?_;clear hE4 kk1 kk2 j3 j4;rintro _ _ L5 ⟨j,rfl,hj,hl5,hE,rfl⟩;have hat:=hE.out.at (i:=L2.length) abz;have hgb2:=hgb.out;by_cases hjg:j<gs.length
    ·have g1:(j:Int)<(gs.length:Int):=by omega
     have g2:=Zv j (by omega);clear hgb2;have g3:(gs.map AV.str).getD j .undef=.str (gs.getD j []):=by simp [hjg]
     have g4:j<(gs.map AV.str).length:=by simpa using hjg
     obtain ⟨g,hg⟩:=Zt (gs.getD j []);have htj:gs.take (j+1)=gs.take j++[g]:=by rw [ZY hjg,<- hg];simp [hjg]
     rw [hg] at g3;replace htj:=hid htj;obtain ⟨GS,hGS⟩:=Zt (gs.map AV.str);rw [hGS] at g3 g4 ⊢;clear hg;refine wk ?_;refine hE.out.go hd.out (k:=(fn,true,g)) fun L6 hE6 hl6=>?_
     have hE7:=hid (hE6.iff (M':=fun k=>(k∈ek (gu ps) a\/k∈(vs.take i).flatMap (CL fn t2))\/k=(fn,false,n)\/k∈(gs.take (j+1)).map fun g=>(fn,true,g)) fun k=>by
      rw [htj.out];simp [or_assoc])
     replace hl6:=hid (Z0 hl5.out hl6);clear hE hE6 hat;refine wk ?_;rw [<- hGS];exact aj _ _ _ (by omega) (CutL (b:=hl6.out)) ⟨j+1,rfl,hjg,hl6,hE7,rfl⟩
    ·have hje:j=gs.length:=by omega
     subst hje;have g1:¬ (gs.length:Int)<(gs.length:Int):=by omega
     have hE5:=hid (hE.out.iff (M':=fun k=>k∈ek (gu ps) a\/k∈(vs.take (i+1)).flatMap (CL fn t2)) fun k=>by
      rw [htk.out,abO,ZD,ZW];simp [hev.out,or_assoc])
     have hl7:=Z0 hl4.out hl5.out;clear hE hat;refine wk ?_;rw [<- hVS];exact aj _ _ _ (by omega) (CutL (b:=hl7)) ⟨i+1,rfl,hiv,hE5,rfl⟩
  ·have hie:i=vs.length:=by omega
   subst hie;have j1:¬ (vs.length:Int)<(vs.length:Int):=by omega
   have hE5:=hid ((hE.out.sub (F':=[(L.length,.miter (some im) tm.length (seen++[bn]) tm.length)]) (by simp)).iff (M':=fun k=>k∈ek (gu (ps++[(fn,(t1,t2,t3,t4),bn)])) a) fun k=>by
    rw [ZW,Uf,Ts,ZD];show _↔_\/k∈ek [(fn,t2)] a
    rw [Tr,hvs.out])
   have hl7:L.length+1<=L3.length:=by rw [ZQ] at hnl;simp only [ZN,aav] at hnl;omega
   clear hE hat;refine wk ?_;exact aj _ _ _ hlt.out (CutL (b:=hl7)) ⟨_,_,rfl,hcm',hE5,rfl⟩
end Go.Proofs.YtcmfcpjnhephaaaGreatDoor.Av
