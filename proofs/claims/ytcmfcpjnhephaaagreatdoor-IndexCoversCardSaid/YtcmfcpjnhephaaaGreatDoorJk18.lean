/- Joined texts of the walk, made small by a program. -/
import Derived.Test.YtcmfcpjnhephaaaGreatDoorJk17
import Derived.Test.YtcmfcpjnhephaaaGreatDoorJk6
import Derived.Test.YtcmfcpjnhephaaaGreatDoorJk14
import Derived.Test.YtcmfcpjnhephaaaGreatDoorJk15
import Derived.Test.YtcmfcpjnhephaaaGreatDoorJk12
import Derived.Test.YtcmfcpjnhephaaaGreatDoorJk11
import Derived.Test.YtcmfcpjnhephaaaGreatDoorJk16
set_option linter.unusedSimpArgs false
set_option linter.unusedVariables false
namespace Go.Proofs.YtcmfcpjnhephaaaGreatDoor.Av
open Go
section
variable {κ υ:Type}
structure rY (xs ps:List (bb κ υ)) (seen:List Nat):Prop where
 sub:∀ x∈ps,x∈xs
 eq:seen=ps.map (·.2.2)
theorem rY.nil {xs:List (bb κ υ)}:rY xs [] []:=⟨fun _ h=>(by cases h),rfl⟩
theorem rY.next {xs ps:List (bb κ υ)} {seen:List Nat} (h:rY xs ps seen) {x:bb κ υ} (hx:x∈xs):rY xs (ps++[x]) (seen++[x.2.2]):=by
 refine ⟨fun y hy=>?_,by rw [h.eq];simp⟩;rcases abH.1 hy with hy|hy
 ·exact h.sub y hy
 ·rw [abZ.1 hy];exact hx
theorem WR {α β:Type} {f:α->β}:∀ {l:List α},(l.map f).Nodup->∀ {a b:α},a∈l->b∈l->f a=f b->a=b
 | x::l,h,a,b,ha,hb,e=>by
   rw [abS,acz] at h;rcases abJ.1 ha with h1|h1
   ·rcases abJ.1 hb with h2|h2
    ·rw [h1,h2]
    ·exact absurd (abI.2 ⟨b,h2,by rw [<- e,h1]⟩) h.1
   ·rcases abJ.1 hb with h2|h2
    ·exact absurd (abI.2 ⟨a,h1,by rw [e,h2]⟩) h.1
    ·exact WR h.2 h1 h2 e
theorem rY.all {xs ps:List (bb κ υ)} {seen:List Nat} {ck:Nat} (h:rY xs ps seen) (hx:cG xs ck) (ha:∀ x∈xs,seen.contains x.2.2=true) (x:bb κ υ):x∈ps↔x∈xs:=by
 refine ⟨h.sub x,fun hm=>?_⟩;have:=ha x hm;rw [acx,h.eq] at this;obtain ⟨y,hy,e⟩:=abI.1 this;rw [<- WR (f:=fun x:bb κ υ=>x.2.2) hx.born (h.sub y hy) hm e];exact hy
theorem ZX {xs:List (bb κ υ)} {seen:List Nat} {x:bb κ υ} (hx:x∈xs) (hs:seen.contains x.2.2=false):(xs.filter fun r => !(seen++[x.2.2]).contains r.2.2).length<(xs.filter fun r => !seen.contains r.2.2).length:=by
 have e:(xs.filter fun r => !(seen++[x.2.2]).contains r.2.2)=(xs.filter fun r => !seen.contains r.2.2).filter (fun r=>decide (r.2.2≠x.2.2)):=by
  rw [List.filter_filter];refine ad5 fun r _=>?_
  by_cases h:r.2.2=x.2.2<;>simp [h]
 rw [e];refine aeF.2 ⟨x,acl.2 ⟨hx,by rw [hs];rfl⟩,by simp⟩
end
theorem bD.weak {B C:Nat->Prop} {L L':List Blk} (h:bD B L L') (hb:∀ i,i<L.length->B i->C i):bD C L L':=⟨h.len,fun i hi hn=>h.eq i hi fun e=>hn (hb i hi e)⟩
structure DoK (P:Program) (f:FuncId) (caps:List AV) (it im ie ip ii:Nat) (tm:TMp) (J:List aY->(Nat->Prop)->List Blk->Prop):Prop where
 st:∀ ks B L,J ks B L->L[it]?=some (.cells [.lmap im,.lmap ie,.lmap ip,.lmap ii])
 ty:∀ ks B L,J ks B L->L[im]?=some (R6 tm tm.length)
 lt:∀ ks B L,J ks B L->∀ i,B i->i<L.length
 keep:∀ ks B L L',J ks B L->bD (fun i=>¬ B i) L L'->J ks B L'
 go:∀ ks B L k (K:AV->List Blk->Prop),J ks B L->(∀ L' B',J (ks++[k]) B' L'->bD B L L'->(∀ i,B' i->B i\/L.length<=i)->K (.tup []) L')->af P f (lh k::caps) L K
def EaI (J:List aY->(Nat->Prop)->List Blk->Prop) (B0:Nat->Prop) (L0:List Blk) (F:List (Nat×Blk)) (M:aY->Prop) (L1:List Blk):Prop :=
 ∃ ks B',J ks B' L1/\(∀ k,k∈ks↔M k)/\bD B0 L0 L1/\(∀ i,B' i->B0 i\/L0.length<=i)/\∀ p∈F,¬ B' p.1/\L1[p.1]?=some p.2/\L0.length<=p.1
section
variable {P:Program} {f:FuncId} {caps:List AV} {it im ie ip ii:Nat} {tm:TMp} {J:List aY->(Nat->Prop)->List Blk->Prop} {B0:Nat->Prop} {L0 L1:List Blk} {F:List (Nat×Blk)} {M:aY->Prop}
theorem EaI.iff {M':aY->Prop} (h:EaI J B0 L0 F M L1) (e:∀ k,M k↔M' k):EaI J B0 L0 F M' L1:=by
 obtain ⟨ks,B',h1,h2,h3⟩:=h;exact ⟨ks,B',h1,fun k=>(h2 k).trans (e k),h3⟩
theorem EaI.sub {F':List (Nat×Blk)} (h:EaI J B0 L0 F M L1) (e:∀ p∈F',p∈F):EaI J B0 L0 F' M L1:=by
 obtain ⟨ks,B',h1,h2,h3,h4,h5⟩:=h;exact ⟨ks,B',h1,h2,h3,h4,fun p hp=>h5 p (e p hp)⟩
theorem EaI.at (h:EaI J B0 L0 F M L1) {i:Nat} {b:Blk} (e:(i,b)∈F):L1[i]?=some b:=by
 obtain ⟨ks,B',h1,h2,h3,h4,h5⟩:=h;exact (h5 _ e).2.1
theorem EaI.len (h:EaI J B0 L0 F M L1):L0.length<=L1.length:=by
 obtain ⟨ks,B',h1,h2,h3,h4,h5⟩:=h;exact h3.len
theorem EaI.start {L0:List Blk} {B0:Nat->Prop} (h:J [] B0 L0):EaI J B0 L0 [] (fun _=>False) L0 :=
 ⟨[],B0,h,fun k=>by simp,.refl _,fun i hi=>.inl hi,fun p hp=>by cases hp⟩
theorem EaI.app (hd:DoK P f caps it im ie ip ii tm J) (h:EaI J B0 L0 F M L1) (b:Blk):EaI J B0 L0 ((L1.length,b)::F) M (L1++[b]):=by
 obtain ⟨ks,B',h1,h2,h3,h4,h5⟩:=h;refine ⟨ks,B',hd.keep _ _ _ _ h1 (bD.app _ _),h2,h3.trans (bD.app (B:=fun _=>False) _ _) (fun i _ e=>e.elim),h4,fun p hp=>?_⟩;rcases abJ.1 hp with rfl|hp
 ·exact ⟨fun e=>absurd (hd.lt _ _ _ h1 _ e) (by simp),by simp,h3.len⟩
 ·obtain ⟨g1,g2,g3⟩:=h5 p hp;exact ⟨g1,abz g2,g3⟩
theorem EaI.turn (hd:DoK P f caps it im ie ip ii tm J) {i:Nat} {b:Blk} (h:EaI J B0 L0 ((i,b)::F) M L1) (b':Blk) (hF:∀ p∈F,p.1≠i):EaI J B0 L0 ((i,b')::F) M (L1.set i b'):=by
 obtain ⟨ks,B',h1,h2,h3,h4,h5⟩:=h;obtain ⟨q1,q2,q3⟩:=h5 (i,b) (by simp);simp only at q1 q2 q3;refine ⟨ks,B',hd.keep _ _ _ _ h1 (bD.set _ (.inl q1) _),h2,h3.trans (bD.set (B:=fun j=>j=i) L1 (.inl rfl) b') (fun j hj e=>absurd hj (by omega)),h4,fun p hp=>?_⟩;rcases abJ.1 hp with rfl|hp
 ·exact ⟨q1,act (abE.1 q2).1,q3⟩
 ·obtain ⟨g1,g2,g3⟩:=h5 p (by simp [hp]);exact ⟨g1,by rw [ab0 (fun e=>hF p hp e.symm)];exact g2,g3⟩
theorem EaI.st (hd:DoK P f caps it im ie ip ii tm J) (h:EaI J B0 L0 F M L1):L1[it]?=some (.cells [.lmap im,.lmap ie,.lmap ip,.lmap ii])/\L1[im]?=some (R6 tm tm.length):=by
 obtain ⟨ks,B',h1,_⟩:=h;exact ⟨hd.st _ _ _ h1,hd.ty _ _ _ h1⟩
theorem EaI.go (hd:DoK P f caps it im ie ip ii tm J) (h:EaI J B0 L0 F M L1) {k:aY} {K:abD} (hk:∀ L2,EaI J B0 L0 F (fun x=>M x\/x=k) L2->L1.length<=L2.length->K (.tup []) L2):af P f (lh k::caps) L1 K:=by
 obtain ⟨ks,B',h1,h2,h3,h4,h5⟩:=h;refine hd.go ks B' L1 k K h1 fun L2 B2 g1 g2 g3=>hk L2 ⟨ks++[k],B2,g1,fun x=>by simp [h2],h3.trans g2 (fun i hi e=>(h4 i e).resolve_right (by omega)),fun i hi=>?_,fun p hp=>?_⟩ g2.len
 ·rcases g3 i hi with e|e
  ·exact h4 i e
  ·exact .inr (ab7 h3.len e)
 ·obtain ⟨q1,q2,q3⟩:=h5 p hp;have hl:=(abE.1 q2).1;refine ⟨fun e=>?_,g2.get q2 q1,q3⟩;rcases g3 _ e with e|e
  ·exact q1 e
  ·omega
end
set_option maxHeartbeats 8000000
set_option maxRecDepth 100000
theorem Tp (v:List UInt8) (rest:List UInt8) (hr:rest=[]\/∃ c t,rest=c::t/\(c=44\/c=43)):∀ (s b:List UInt8) (bl:Bool),b++s=v->(s=[]->bl=false)->eH b bl (wrL v.length b.length s++rest)=some (v,rest,true)
 | [],b,bl,e,h=>by
   rw [acj] at e;subst e;simp only [wrL,aci];rw [h rfl];rcases hr with rfl|⟨c,t,rfl,hc⟩
   ·exact jv
   ·exact me hc
 | c::s,b,bl,e,h=>by
   have ih:=fun bl' (h':s=[]->bl'=false)=>Tp v rest hr s (b++[c]) bl' (by rw [<- e];simp) h'
   have hbl:(b++[c]).length=b.length+1:=by simp
   rw [hbl] at ih;have hvl:v.length=b.length+s.length+1:=by rw [<- e];simp;omega
   rw [wrL,abT];unfold wrB;split
   ·rename_i hc
    subst hc;show eH b bl (92::48::48::(wrL v.length (b.length+1) s++rest))=_
    rw [xw (by decide)];exact ih false (fun _=>rfl)
   ·rename_i hc
    split
    ·rename_i h2
     show eH b bl (92::c::(wrL v.length (b.length+1) s++rest))=_
     rw [oz]
     ·exact ih false (fun _=>rfl)
     ·rcases h2 with ⟨_,rfl|rfl⟩|⟨_,rfl⟩|h2
      ·decide
      ·decide
      ·decide
      ·simp only [abJ,adu,or_false] at h2 ⊢;rcases h2 with rfl|rfl|rfl|rfl|rfl|rfl|rfl<;>decide
    ·rename_i h2
     show eH b bl (c::(wrL v.length (b.length+1) s++rest))=_
     have h5:¬ c∈([34,43,44,59,60,62,92]:List UInt8):=fun q=>h2 (.inr (.inr q))
     simp only [abJ,adu,or_false,not_or] at h5;rw [jc (fun q=>q.elim (fun q=>h5.2.2.1 q) (fun q=>h5.2.1 q)) (fun q=>h5.2.2.2.2.2.2 q)];rw [if_neg]
     ·refine ih _ (fun hs=>?_);rw [decide_eq_false_iff_not];intro q;refine h2 (.inr (.inl ⟨?_,q⟩));rw [hvl,hs];simp
     ·rintro (q|q|⟨q1,q2⟩)
      ·exact hc q
      ·simp only [abJ,adu,or_false] at q;rcases q with q|q|q|q
       ·exact h5.1 q
       ·exact h5.2.2.2.1 q
       ·exact h5.2.2.2.2.1 q
       ·exact h5.2.2.2.2.2.1 q
      ·exact h2 (.inl ⟨by rw [q1];rfl,q2⟩)
theorem HP (v:List UInt8) {rest:List UInt8} (hr:rest=[]\/∃ c t,rest=c::t/\(c=44\/c=43)):eH [] false (dU v++rest)=some (v,rest,true) :=
 Tp v rest hr v [] false rfl (fun _=>rfl)
theorem RG:∀ (t r:List UInt8),(∀ c∈t,c≠61)->gJ (t++61::r)=some (t,r)
 | [],r,_=>by simp [gJ]
 | c::t,r,h=>by
   rw [acn,gJ,if_neg (h c (by simp)),RG t r (fun x hx=>h x (by simp [hx]))]
theorem V4 {t:List UInt8} (h:fc t=true):∀ c∈t,c≠61:=by
 intro c hc e;simp only [fc,abK,abO] at h;have:=h.2 c hc;rw [e] at this;exact absurd this (by decide)
theorem Nm (x sep:List UInt8) (xs:List (List UInt8)):Lib.join (x::xs) sep=x++xs.flatMap (fun y=>sep++y):=by
 induction xs generalizing x with
 | nil=>simp [Lib.join,List.intercalate]
 | cons y l ih =>
   have e:Lib.join (x::y::l) sep=x++(sep++Lib.join (y::l) sep):=by simp [Lib.join,List.intercalate]
   rw [e,ih];simp
def jk (t:Rdn):List UInt8:=t.flatMap fun a=>43::avT false a
def je (d:List Rdn):List UInt8:=d.flatMap fun r=>44::da false r
theorem OR (a:Ava) (t:Rdn):da false (a::t)=avT false a++jk t:=by
 simp only [da,abU,if_false,abS,Nm,jk];simp [List.flatMap_map]
theorem Uk (r:Rdn) (d:List Rdn):dK false (r::d)=da false r++je d:=by
 simp only [dK,abS,Nm,je];simp [List.flatMap_map]
theorem Na:∀ (f:Nat) (out:List Rdn) (now:Rdn) (a:Ava) (t:Rdn) (d:List Rdn),(avT false a++(jk t++je d)).length<f->out.length<32->dy now (a::t)=0->gU (out.length+1) d=0 ->
  mX f out now (avT false a++(jk t++je d))=(out++[now++a::t]++d,0)
 | 0,_,_,_,_,_,h,_,_,_=>by omega
 | f+1,out,now,(ty,v),t,d,hf,ho,hc,hd=>by
   unfold dy at hc;split at hc
   ·cases hc
   rename_i hn8
   split at hc
   ·cases hc
   rename_i hty
   split at hc
   ·cases hc
   rename_i hha
   simp only [Bool.not_eq_false] at hty;have e1:avT false (ty,v)++(jk t++je d)=ty++61::(dU v++(jk t++je d)):=by simp [avT]
   rw [e1] at hf ⊢;rw [mX,if_neg (by omega),RG _ _ (V4 hty)];simp only;rw [if_neg (by simp [hty]),if_neg hha];rcases t with _|⟨a2,t⟩
   ·rcases d with _|⟨r,d⟩
    ·rw [show jk []++je []=([]:List UInt8) from rfl];rw [HP v (.inl rfl)];simp
    ·rw [show jk []++je (r::d)=44::(da false r++je d) by simp [jk,je]] at hf ⊢;rw [HP v (.inr ⟨44,_,rfl,.inl rfl⟩)];simp only [acK,if_false,if_true];unfold gU at hd;split at hd
     ·cases hd
     rename_i h32
     split at hd
     ·cases hd
     rename_i hr0
     split at hd
     ·rename_i h5;exact absurd hd h5
     rename_i h5
     simp only [ne_eq,adE] at h5;rcases r with _|⟨a2,t⟩
     ·exact absurd rfl hr0
     have ih:=Na f (out++[now++[(ty,v)]]) [] a2 t d;rw [OR,abT] at hf ⊢;rw [ih (by simp only [abW,abR] at hf ⊢;omega) (by simp;omega) h5 (by simpa using hd)];simp
   ·rw [show jk (a2::t)++je d=43::(avT false a2++(jk t++je d)) by simp [jk]] at hf ⊢;rw [HP v (.inr ⟨43,_,rfl,.inr rfl⟩)];simp only [acK,if_false,show ¬ ((43:UInt8)=44) by decide];have ih:=Na f out (now++[(ty,v)]) a2 t d;rw [ih (by simp only [abW,abR] at hf ⊢;omega) ho hc hd];simp
theorem WJ {d:List Rdn} (h:gU 0 d=0) (hl:(dK false d).length<=4096):rC (dK false d)=(d,0):=by
 unfold rC;rw [if_neg (by omega)];rcases d with _|⟨r,d⟩
 ·simp [dK,Lib.join]
 unfold gU at h;split at h
 ·cases h
 split at h
 ·cases h
 rename_i hr0
 split at h
 ·rename_i h5;exact absurd h h5
 rename_i h5
 simp only [ne_eq,adE] at h5;rcases r with _|⟨a,t⟩
 ·exact absurd rfl hr0
 rw [Uk,OR,abT];rw [if_neg (by simp [avT])];have:=Na ((avT false a++(jk t++je d)).length+1) [] [] a t d (by omega) (by simp) h5 h;rw [this];simp
theorem dX (c:UInt8):(dp c).toNat=if 65<=c.toNat/\c.toNat<=90 then c.toNat+32 else c.toNat:=by
 by_cases h:65<=c.toNat/\c.toNat<=90
 ·have:=P6 h.1 h.2;rw [if_pos h];omega
 ·rw [rI h,if_neg h]
theorem Pl (c:UInt8):dp (dp c)=dp c:=by
 refine rI ?_;rw [dX];split<;>omega
theorem NA (s:List UInt8):ab (ab s)=ab s:=by
 unfold ab;rw [ab9];exact adc fun c _=>Pl c
theorem M2 (s:List UInt8) (c:UInt8):bG (s++[c])=aK (bG s) c:=by simp [bG]
theorem M3 (s:List UInt8):(bG s).length<=s.length:=by
 have:=mh s s.length
 rwa [abY] at this
theorem PW {b:List UInt8} (c:UInt8) (h:bG b=b):bG (aK b c)=aK b c:=by
 by_cases hc:c=32/\rR b=true
 ·simp only [aK,if_pos hc];exact h
 ·simp only [aK,if_neg hc];rw [M2,h,aK,if_neg hc]
theorem Ry:∀ (s b:List UInt8),bG b=b->bG (s.foldl aK b)=s.foldl aK b
 | [],_,h=>h
 | c::s,b,h=>Ry s (aK b c) (PW c h)
theorem KJ (s:List UInt8):bG (bG s)=bG s:=Ry s [] rfl
theorem Zc {b:List UInt8} {c:UInt8} (h:bG (b++[c])=b++[c]):bG b=b/\¬ (c=32/\rR b=true):=by
 rw [M2] at h;unfold aK at h;split at h
 ·have:=M3 b;rw [h] at this;simp at this;omega
 ·rename_i hc
  have:=List.append_cancel_right h;rw [this] at hc;exact ⟨this,hc⟩
theorem KE {b:List UInt8} (h:bG b=b):bG (c7 b)=c7 b/\c7 (c7 b)=c7 b:=by
 rcases adw b with rfl|⟨d,c,rfl⟩
 ·simp [c7,bG]
 ·rw [adQ] at h ⊢;obtain ⟨h1,h2⟩:=Zc h;rw [eN];split
  ·rename_i hc
   refine ⟨h1,?_⟩;have h3:rR d=false:=by simpa [hc] using h2
   unfold c7;rw [if_neg];intro e;simp [rR,e] at h3
  ·rename_i hc
   exact ⟨h,by rw [eN,if_neg hc]⟩
theorem P5 {b:List UInt8} {c x:UInt8} (h:x∈aK b c):x∈b\/x=c:=by
 unfold aK at h;split at h
 ·exact .inl h
 ·simpa using h
theorem Q2:∀ (s b:List UInt8) {x:UInt8},x∈s.foldl aK b->x∈b\/x∈s
 | [],_,_,h=>.inl h
 | c::s,b,x,h=>by
   rcases Q2 s (aK b c) h with h1|h1
   ·rcases P5 h1 with h2|h2
    ·exact .inl h2
    ·exact .inr (by simp [h2])
   ·exact .inr (by simp [h1])
theorem UR {b:List UInt8} {x:UInt8} (h:x∈c7 b):x∈b:=by
 unfold c7 at h;split at h
 ·exact (List.dropLast_sublist b).subset h
 ·exact h
theorem Pi {s:List UInt8} {x:UInt8} (h:x∈bE s):∃ c∈s,x=dp c:=by
 rcases Q2 _ _ (UR h) with h1|h1
 ·cases h1
 ·obtain ⟨c,hc,rfl⟩:=abI.1 h1;exact ⟨c,hc,rfl⟩
theorem Rz (s:List UInt8):ab (bE s)=bE s:=by
 unfold ab;rw [adc (g:=id) (fun x hx=>?_),List.map_id];obtain ⟨c,_,rfl⟩:=Pi hx;exact Pl c
theorem HX (s:List UInt8):bE (bE s)=bE s:=by
 have h1:bE (bE s)=c7 (bG (bE s)):=by
  show c7 (bG (ab (bE s)))=_
  rw [Rz]
 rw [h1];have h2:=KE (KJ (ab s));show c7 (bG (c7 (bG (ab s))))=c7 (bG (ab s))
 rw [h2.1,h2.2]
def Chr (q:List UInt8):Prop:=q≠[]/\(∀ s,Lib.validD (q++s)=Lib.validD s)/\((∃ c:UInt8,q=[c]/\c.toNat<128)\/∀ c∈q,128<=c.toNat)
inductive Seg:List UInt8->Prop
 | nil:Seg []
 | cons {q s:List UInt8}:Chr q->Seg s->Seg (q++s)
theorem ju (b:UInt8) (t:List UInt8):Lib.validD (b::t)=if fL (t.length+1) b.toNat (t.getD 0 0).toNat (t.getD 1 0).toNat (t.getD 2 0).toNat=0 then false else Lib.validD ((b::t).drop (fL (t.length+1) b.toNat (t.getD 0 0).toNat (t.getD 1 0).toNat (t.getD 2 0).toNat)):=by
 rw [<- EP (t.length+1) (b::t) (by simp),QE];split
 ·rfl
 ·rename_i hn
  refine EP _ _ ?_;rw [acY,abR];omega
theorem Seg.valid {s:List UInt8} (h:Seg s):Lib.validD s=true:=by
 induction h with
 | nil=>exact Lib.validD_nil
 | cons hq _ ih=>rw [hq.2.1];exact ih
theorem Seg.app {a b:List UInt8} (h:Seg a) (hb:Seg b):Seg (a++b):=by
 induction h with
 | nil=>exact hb
 | cons hq _ ih=>rw [abT];exact .cons hq ih
theorem Qp {c:UInt8} (h:c.toNat<128):Chr [c]:=by
 refine ⟨by simp,fun s=>?_,.inl ⟨c,rfl,h⟩⟩;rw [aef,ju];rw [show fL (s.length+1) c.toNat (s.getD 0 0).toNat (s.getD 1 0).toNat (s.getD 2 0).toNat=1 by rw [fL,if_pos h]];simp
theorem Z3 {n b0 b1 b2 b3:Nat} (h:n<2) (hb:¬ b0<128):fL n b0 b1 b2 b3=0:=by
 rw [fL,if_neg hb,if_pos (show EG n b0 b1 from .inl h),if_pos (show Kx n b0 b1 b2 from .inl (by omega)),if_pos (show Fj n b0 b1 b2 b3 from .inl (by omega))];simp
theorem Z2 {n b0 b1 b2 b3:Nat} (h:n<3) (hb:¬ b0<224):fL n b0 b1 b2 b3=0:=by
 rw [fL,if_neg (show ¬ b0<128 by omega),if_neg hb,if_pos (show Kx n b0 b1 b2 from .inl h),if_pos (show Fj n b0 b1 b2 b3 from .inl (by omega))];simp
theorem Z0 {n b0 b1 b2 b3:Nat} (h:n<4) (hb:¬ b0<240):fL n b0 b1 b2 b3=0:=by
 rw [fL,if_neg (show ¬ b0<128 by omega),if_neg (show ¬ b0<224 by omega),if_neg hb,if_pos (show Fj n b0 b1 b2 b3 from .inl h)];simp
theorem MO:∀ (n:Nat) (s:List UInt8),s.length<=n->Lib.validD s=true->Seg s
 | _,[],_,_=>.nil
 | 0,_::_,h,_=>by simp at h
 | n+1,b::t,h,hv=>by
   rw [ju] at hv;split at hv
   ·cases hv
   rename_i hz
   by_cases h1:b.toNat<128
   ·rw [show fL (t.length+1) b.toNat (t.getD 0 0).toNat (t.getD 1 0).toNat (t.getD 2 0).toNat=1 by rw [fL,if_pos h1]] at hv;exact Seg.cons (q:=[b]) (Qp h1) (MO n t (by simpa using h) (by simpa using hv))
   have hbb:=b.toNat_lt;obtain ⟨k,hk⟩:=aby (fL (t.length+1) b.toNat (t.getD 0 0).toNat (t.getD 1 0).toNat (t.getD 2 0).toNat);rw [hk] at hv hz;rcases t with _|⟨x,t⟩
   ·exfalso;rw [Z3 (by simp) (by assumption)] at hk;exact hz hk.symm
   by_cases h2:b.toNat<224
   ·have hA:128<=b.toNat/\Cn x.toNat/\128<=(b.toNat - 192) * 64+x.toNat - 128/\¬ b.toNat<192/\k=2:=by
     simp only [fL,if_neg h1,if_pos h2,acG,EG] at hk
     repeat' split at hk
     all_goals first|(exfalso;omega)|(unfold Cn;rename_i h5 h6;unfold Cn at h6;omega)
    obtain ⟨a1,a2,a3,a4,rfl⟩:=hA;refine Seg.cons (q:=[b,x]) ⟨by simp,fun s=>?_,.inr (adp.2 ⟨a1,adp.2 ⟨a2.1,fun _ h=>nomatch h⟩⟩)⟩ (MO n t (by simp at h;omega) (by simpa using hv));show Lib.validD (b::x::s)=_
    rw [ju];rw [show fL ((x::s).length+1) b.toNat ((x::s).getD 0 0).toNat ((x::s).getD 1 0).toNat ((x::s).getD 2 0).toNat=2 by
     rw [fL,if_neg h1,if_neg a4,if_pos h2,if_neg];simp only [EG,acG,abR];rintro (e|e|e)
     ·omega
     ·exact e a2
     ·omega]
    simp
   rcases t with _|⟨y,t⟩
   ·exfalso;rw [Z2 (by simp) (by assumption)] at hk;exact hz hk.symm
   by_cases h3:b.toNat<240
   ·have hA:Cn x.toNat/\Cn y.toNat/\¬ Kx (t.length+3) b.toNat x.toNat y.toNat/\k=3:=by
     simp only [fL,if_neg h1,if_neg h2,if_neg (show ¬ b.toNat<192 by omega),if_pos h3,acG,adi,abR] at hk;split at hk
     ·exfalso;omega
     ·rename_i h6
      refine ⟨?_,?_,h6,hk.symm⟩
      ·by_cases e:Cn x.toNat
       ·exact e
       ·exact absurd (.inr (.inl e)) h6
      ·by_cases e:Cn y.toNat
       ·exact e
       ·exact absurd (.inr (.inr (.inl e))) h6
    obtain ⟨a1,a2,a3,rfl⟩:=hA;refine Seg.cons (q:=[b,x,y]) ⟨by simp,fun s=>?_,.inr (adp.2 ⟨(by omega),adp.2 ⟨a1.1,adp.2 ⟨a2.1,fun _ h=>nomatch h⟩⟩⟩)⟩ (MO n t (by simp at h;omega) (by simpa using hv));show Lib.validD (b::x::y::s)=_
    rw [ju];rw [show fL ((x::y::s).length+1) b.toNat ((x::y::s).getD 0 0).toNat ((x::y::s).getD 1 0).toNat ((x::y::s).getD 2 0).toNat=3 by
     rw [fL,if_neg h1,if_neg (show ¬ b.toNat<192 by omega),if_neg h2,if_pos h3,if_neg];simp only [acG,adi,abR];intro e;apply a3;rcases e with e|e
     ·omega
     ·exact .inr e]
    simp
   rcases t with _|⟨z,t⟩
   ·exfalso;rw [Z0 (by simp) (by assumption)] at hk;exact hz hk.symm
   have hA:Cn x.toNat/\Cn y.toNat/\Cn z.toNat/\¬ Fj (t.length+4) b.toNat x.toNat y.toNat z.toNat/\k=4:=by
    simp only [fL,if_neg h1,if_neg h2,if_neg (show ¬ b.toNat<192 by omega),if_neg h3,acG,adi,abR] at hk;split at hk
    ·exfalso;omega
    ·rename_i h6
     refine ⟨?_,?_,?_,h6,hk.symm⟩
     ·by_cases e:Cn x.toNat
      ·exact e
      ·exact absurd (.inr (.inl e)) h6
     ·by_cases e:Cn y.toNat
      ·exact e
      ·exact absurd (.inr (.inr (.inl e))) h6
     ·by_cases e:Cn z.toNat
      ·exact e
      ·exact absurd (.inr (.inr (.inr (.inl e)))) h6
   obtain ⟨a1,a2,a4,a3,rfl⟩:=hA;refine Seg.cons (q:=[b,x,y,z]) ⟨by simp,fun s=>?_,.inr (adp.2 ⟨(by omega),adp.2 ⟨a1.1,adp.2 ⟨a2.1,adp.2 ⟨a4.1,fun _ h=>nomatch h⟩⟩⟩⟩)⟩ (MO n t (by simp at h;omega) (by simpa using hv));show Lib.validD (b::x::y::z::s)=_
   rw [ju];rw [show fL ((x::y::z::s).length+1) b.toNat ((x::y::z::s).getD 0 0).toNat ((x::y::z::s).getD 1 0).toNat ((x::y::z::s).getD 2 0).toNat=4 by
    rw [fL,if_neg h1,if_neg (show ¬ b.toNat<192 by omega),if_neg h2,if_neg h3,if_neg];simp only [acG,adi,abR];intro e;apply a3;rcases e with e|e
    ·omega
    ·exact .inr e]
   simp
theorem Seg.last {s:List UInt8} (h:Seg s):∀ d:List UInt8,s=d++[32]->Seg d:=by
 induction h with
 | nil=>intro d e;simp at e
 | @cons q s hq hs ih =>
   intro d e;rcases adw s with rfl|⟨s',c,rfl⟩
   ·rw [acj] at e;subst e;rcases hq.2.2 with ⟨c,e2,_⟩|h2
    ·have:d=[]:=by
      have:=congrArg List.length e2;simp at this;exact this
     subst this;exact .nil
    ·have:=h2 32 (by simp);exact absurd this (by decide)
   ·rw [adQ] at *;rw [<- abT] at e;obtain ⟨e1,e2⟩:=List.append_inj' e rfl;subst e1;rw [e2] at ih hs;exact .cons hq (ih s' rfl)
theorem Xw {q:List UInt8} (hq:∀ c∈q,128<=c.toNat):∀ b,q.foldl aK b=b++q:=by
 induction q with
 | nil=>simp
 | cons c q ih =>
   intro b;have hc:=hq c (by simp);have h32:¬ (c=32/\rR b=true):=by rintro ⟨rfl,_⟩;exact absurd hc (by decide)
   rw [acC,aK,if_neg h32,ih (fun c hc=>hq c (by simp [hc]))];simp
theorem Zj {q:List UInt8} (hq:Chr q):Chr (ab q)/\((∃ c:UInt8,ab q=[c]/\c.toNat<128)\/∀ c∈ab q,128<=c.toNat):=by
 have h:Chr (ab q):=by
  rcases hq.2.2 with ⟨c,rfl,hc⟩|h2
  ·refine Qp (c:=dp c) ?_;rw [dX];split<;>omega
  ·have:ab q=q:=by
    unfold ab;rw [adc (g:=id) (fun x hx=>?_),List.map_id];refine rI ?_;have:=h2 x hx;omega
   rw [this];exact hq
 exact ⟨h,h.2.2⟩
theorem We {s:List UInt8} (h:Seg s):∀ b,Seg b->Seg ((ab s).foldl aK b):=by
 induction h with
 | nil=>exact fun b hb=>hb
 | @cons q s hq hs ih =>
   intro b hb;rw [show ab (q++s)=ab q++ab s by simp [ab],adM];refine ih _ ?_;obtain ⟨h1,⟨c,e,hc⟩|h2⟩:=Zj hq
   ·rw [e];simp only [acC,adF,aK];split
    ·exact hb
    ·exact hb.app (.cons (s:=[]) (Qp hc) .nil)
   ·rw [Xw h2];refine hb.app ?_;have:=Seg.cons h1 .nil
    rwa [acj] at this
theorem QC {s:List UInt8} (h:Lib.validD s=true):Lib.validD (bE s)=true:=by
 have h1:=We (MO _ s (abF _) h) [] .nil;refine Seg.valid ?_;show Seg (c7 (bG (ab s)))
 unfold bG;obtain ⟨b,hb⟩:=aby ((ab s).foldl aK []);rw [hb] at h1 ⊢;rcases adw b with rfl|⟨d,c,rfl⟩
 ·exact .nil
 ·rw [adQ] at h1 ⊢;rw [eN];split
  ·rename_i hc
   subst hc;exact h1.last d rfl
  ·exact h1
def Dif (a b:Ava):Prop:=ab a.1≠ab b.1
theorem TM {r:Rdn} {t:List UInt8}:gT r t=false↔∀ a∈r,ab a.1≠ab t:=by simp [gT]
theorem NN:∀ (t done:Rdn),done.length<=8->(dy done t=0↔done.length+t.length<=8/\(∀ a∈t,fc a.1=true)/\(∀ a∈done,∀ b∈t,Dif a b)/\t.Pairwise Dif)
 | [],done,h=>by simp [dy,h]
 | a::t,done,h=>by
   unfold dy;by_cases h8:done.length=8
   ·rw [if_pos h8];simp only [abR];constructor
    ·intro e;cases e
    ·intro e;omega
   rw [if_neg h8];by_cases hty:fc a.1=false
   ·rw [if_pos hty];constructor
    ·intro e;cases e
    ·intro e;have:=e.2.1 a (by simp);rw [hty] at this;cases this
   rw [if_neg hty];by_cases hh:gT done a.1=true
   ·rw [if_pos hh];constructor
    ·intro e;cases e
    ·intro e;have:gT done a.1=false:=TM.2 fun b hb=>e.2.2.1 b hb a (by simp)
     rw [hh] at this;cases this
   rw [if_neg hh,NN t (done++[a]) (by simp;omega)];simp only [Bool.not_eq_false] at hty;have hh2:=TM.1 (by simpa using hh);simp only [abW,abR,acD,abH,abZ,abJ,adu,or_false,forall_eq_or_imp,acA];constructor
   ·rintro ⟨e1,e2,e3,e4⟩;refine ⟨by omega,⟨hty,e2⟩,fun x hx=>⟨hh2 x hx,fun b hb=>e3 x (.inl hx) b hb⟩,fun b hb=>e3 a (.inr rfl) b hb,e4⟩
   ·rintro ⟨e1,⟨_,e2⟩,e3,e4,e5⟩;refine ⟨by omega,e2,?_,e5⟩;rintro x (hx|rfl) b hb
    ·exact (e3 x hx).2 b hb
    ·exact e4 b hb
theorem Uj {t:List UInt8} (h:fc t=true):fc (ab t)=true:=by
 simp only [fc,abK,abO,decide_eq_true_eq] at h ⊢;obtain ⟨⟨⟨h1,h2⟩,h3⟩,h4⟩:=h;have hlet:∀ c:UInt8,kZ (c.toNat:Int)=true->kZ ((dp c).toNat:Int)=true:=by
  intro c hc;have:=dX c;split at this
  ·rw [this];simp only [kZ,ace,abK,decide_eq_true_eq] at hc ⊢;omega
  ·rw [this];exact hc
 refine ⟨⟨⟨by simpa [ab] using h1,by simpa [ab] using h2⟩,?_⟩,?_⟩
 ·rcases t with _|⟨c,t⟩
  ·simp at h1
  ·simpa [ab] using hlet c (by simpa using h3)
 ·intro c hc;obtain ⟨x,hx,rfl⟩:=abI.1 hc;have:=h4 x hx;simp only [Iy,ace] at this ⊢;rcases this with (e|e)|e
  ·exact .inl (.inl (hlet x e))
  ·refine .inl (.inr ?_);simp only [abK,decide_eq_true_eq] at e ⊢;rw [dX,if_neg (by omega)];exact e
  ·refine .inr ?_;simp only [decide_eq_true_eq] at e ⊢;rw [dX,if_neg (by omega)];exact e
theorem M5 (r:Rdn):(eB r).Perm (r.map n8):=by
 have:=(Kh r [] List.Pairwise.nil).2
 rwa [aci] at this
theorem UM (a:Ava):n8 (n8 a)=n8 a:=by simp [n8,NA,HX]
theorem Qq {r:Rdn} (h:dy [] r=0):dy [] (eB r)=0:=by
 rw [NN _ _ (by simp)] at h ⊢;obtain ⟨h1,h2,_,h4⟩:=h;have hp:=M5 r;refine ⟨by simpa [sn] using h1,fun a ha=>?_,fun a ha=>(by cases ha),?_⟩
 ·obtain ⟨b,hb,rfl⟩:=abI.1 (hp.mem_iff.1 ha);exact Uj (h2 b hb)
 ·refine (hp.pairwise_iff (fun {a b} e=>Ne.symm e)).2 ?_;rw [aem];refine h4.imp fun {a b} e=>?_
  simpa [Dif,n8,NA] using e
theorem NO:∀ (d:List Rdn) (i:Nat),gU i d=0->gU i (gD d)=0
 | [],_,h=>h
 | r::d,i,h=>by
   unfold gU at h;show gU i (eB r::gD d)=0
   unfold gU;split at h
   ·cases h
   rename_i h32
   split at h
   ·cases h
   rename_i hr
   split at h
   ·rename_i h5;exact absurd h h5
   rename_i h5
   simp only [ne_eq,adE] at h5;rw [if_neg h32,if_neg,if_neg (by simpa using Qq h5),NO d _ h];intro e;have:=congrArg List.length e;rw [sn] at this;exact hr (ack.1 this)
def wtB (c:UInt8):Nat:=if c=0 then 3 else if c∈([34,43,44,59,60,62,92]:List UInt8) then 2 else 1
def wtS (s:List UInt8):Nat:=(s.map wtB).sum
theorem Tn (a b:List UInt8):wtS (a++b)=wtS a+wtS b:=by simp [wtS]
theorem ZQ:∀ c:UInt8,wtB (dp c)=wtB c:=by
 intro c;by_cases h:65<=c.toNat/\c.toNat<=90
 ·have h2:=dX c;rw [if_pos h] at h2;have g:∀ x:UInt8,65<=x.toNat->x.toNat≠92->wtB x=1:=by
   intro x hx hn;unfold wtB;rw [if_neg (by rintro rfl;exact absurd hx (by decide)),if_neg];simp only [abJ,adu,or_false];rintro (rfl|rfl|rfl|rfl|rfl|rfl|rfl)
   all_goals first|exact absurd hx (by decide)|exact absurd rfl hn
  rw [g c (by omega) (by omega),g _ (by omega) (by omega)]
 ·rw [rI h]
theorem QA (s:List UInt8):wtS (ab s)=wtS s:=by
 simp only [wtS,ab,ab9];rw [show (wtB ∘ dp)=wtB from funext ZQ]
theorem ZU (i n:Nat) (c:UInt8):wtB c<=(wrB i n c).length:=by
 unfold wtB wrB;by_cases h0:c=0
 ·rw [if_pos h0,if_pos h0];simp
 ·rw [if_neg h0,if_neg h0];by_cases h7:c∈([34,43,44,59,60,62,92]:List UInt8)
  ·rw [if_pos h7,if_pos (.inr (.inr h7))];simp
  ·rw [if_neg h7];split<;>simp
theorem RZ (n:Nat):∀ (s:List UInt8) (i:Nat),wtS s<=(wrL n i s).length
 | [],_=>by simp [wtS]
 | c::s,i=>by
   have h1:=RZ n s (i+1);have h2:=ZU i n c;simp only [wrL,abW,wtS,abS,acZ] at h1 ⊢;omega
theorem ZW {i n:Nat} {c:UInt8} (hi:i≠0) (hc:c≠32):(wrB i n c).length=wtB c:=by
 unfold wtB wrB;by_cases h0:c=0
 ·rw [if_pos h0,if_pos h0];simp
 ·rw [if_neg h0,if_neg h0];by_cases h7:c∈([34,43,44,59,60,62,92]:List UInt8)
  ·rw [if_pos h7,if_pos (.inr (.inr h7))];simp
  ·rw [if_neg h7,if_neg];· simp
   rintro (e|e|e)
   ·exact hi e.1
   ·exact hc e.2
   ·exact h7 e
theorem ZV {i n:Nat} (hi:i≠0) (hn:i+1≠n):(wrB i n 32).length=wtB 32:=by
 have e:wrB i n 32=[32]:=by
  unfold wrB;rw [if_neg (by decide),if_neg];rintro (e|e|e)
  ·exact hi e.1
  ·exact hn e.1
  ·exact absurd e (by decide)
 rw [e];decide
theorem VU (n:Nat):∀ (s:List UInt8) (i:Nat),i≠0->n=i+s.length->s.getLast?≠some 32->(wrL n i s).length=wtS s
 | [],_,_,_,_=>by simp [wrL,wtS]
 | c::s,i,hi,hn,hl=>by
   have h1:s.getLast?≠some 32:=by
    rcases s with _|⟨x,s⟩
    ·simp
    ·rwa [List.getLast?_cons_cons] at hl
   have ih:=VU n s (i+1) (by omega) (by simp at hn;omega) h1;have h2:(wrB i n c).length=wtB c:=by
    by_cases hc:c=32
    ·subst hc;refine ZV hi fun e=>?_
     have:s=[]:=ack.1 (by simp at hn;omega);subst this;exact hl rfl
    ·exact ZW hi hc
   rw [wrL,abW,ih,h2];simp [wtS]
theorem VT (s:List UInt8):wtS s<=(dU s).length:=RZ _ _ _
theorem RY (s:List UInt8):wtS (35::s)+1<=(dU (35::s)).length:=by
 have h1:=RZ (s.length+1) s 1;have e:wrB 0 (s.length+1) 35=[92,35]:=by
  unfold wrB;rw [if_neg (by decide),if_pos (.inl ⟨rfl,.inr rfl⟩)]
 show _<=(wrB 0 (s.length+1) 35++wrL (s.length+1) 1 s).length
 rw [e];have:wtB 35=1:=by decide
 simp only [wtS,abS,acZ,abW,abR,acD] at h1 ⊢;omega
theorem VQ {c:UInt8} {s:List UInt8} (h1:c≠32) (h2:(c::s).getLast?≠some 32):(dU (c::s)).length=wtS (c::s)+(if c=35 then 1 else 0):=by
 have hs:s.getLast?≠some 32:=by
  rcases s with _|⟨x,s⟩
  ·simp
  ·rwa [List.getLast?_cons_cons] at h2
 have h3:=VU (s.length+1) s 1 (by omega) (by omega) hs;show (wrB 0 (s.length+1) c++wrL (s.length+1) 1 s).length=_
 rw [abW,h3];have h4:(wrB 0 (s.length+1) c).length=wtB c+(if c=35 then 1 else 0):=by
  unfold wtB wrB;by_cases h0:c=0
  ·subst h0;rfl
  ·rw [if_neg h0,if_neg h0];by_cases h7:c∈([34,43,44,59,60,62,92]:List UInt8)
   ·rw [if_pos h7,if_pos (.inr (.inr h7)),if_neg]
    ·rfl
    ·rintro rfl;exact absurd h7 (by decide)
   ·rw [if_neg h7];by_cases h35:c=35
    ·rw [if_pos h35,if_pos (.inl ⟨rfl,.inr h35⟩)];rfl
    ·rw [if_neg h35,if_neg];· rfl
     rintro (e|e|e)
     ·rcases e.2 with e|e
      ·exact h1 e
      ·exact h35 e
     ·exact h1 e.2
     ·exact h7 e
 rw [h4];simp [wtS];omega
theorem Yp (b:List UInt8) (c:UInt8):wtS (aK b c)<=wtS b+wtB c:=by
 unfold aK;split
 ·omega
 ·rw [Tn];simp [wtS]
theorem PI:∀ (s b:List UInt8),wtS (s.foldl aK b)<=wtS b+wtS s
 | [],b=>by simp [wtS]
 | c::s,b=>by
   have h1:=PI s (aK b c);have h2:=Yp b c;simp only [acC,wtS,abS,acZ] at h1 h2 ⊢;omega
theorem Tl (b:List UInt8):wtS (c7 b)<=wtS b:=by
 rcases adw b with rfl|⟨d,c,rfl⟩
 ·simp [c7]
 ·rw [adQ,eN];split
  ·rw [Tn];omega
  ·omega
theorem KU:∀ (s:List UInt8) (x:UInt8) (b:List UInt8),∃ t,s.foldl aK (x::b)=x::t
 | [],x,b=>⟨b,rfl⟩
 | c::s,x,b=>by
   rw [acC,aK];split
   ·exact KU s x b
   ·exact KU s x (b++[c])
theorem Yq (c:UInt8):1<=wtB c:=by
 unfold wtB;split
 ·omega
 ·split<;>omega
theorem Sz (s:List UInt8):(bE s).getLast?≠some 32:=by
 have h:=KE (KJ (ab s));have e:c7 (bE s)=bE s:=h.2;intro hl;rcases adw (bE s) with q|⟨d,c,q⟩
 ·rw [q] at hl;cases hl
 ·rw [q,adQ] at e hl;rw [eN,if_pos (by simpa using hl)] at e;have:=congrArg List.length e;simp at this
theorem SI {s:List UInt8} {c:UInt8} {t:List UInt8} (h:bE s=c::t):c≠32:=by
 have e:bG (bE s)=bE s:=(KE (KJ (ab s))).1;rw [h] at e;rintro rfl;have:=M3 t;have e2:bG (32::t)=t.foldl aK []:=rfl;rw [e2] at e;have:=congrArg List.length e;have h3:(t.foldl aK []).length<=t.length:=M3 t;simp at this;omega
theorem Ub (s:List UInt8):(dU (bE s)).length<=(dU s).length:=by
 have hge:=VT s;have hw:wtS (bE s)<=wtS s:=by
  have h1:=Tl (bG (ab s));have h2:=PI (ab s) [];have h3:=QA s;have h4:wtS (bG (ab s))=wtS ((ab s).foldl aK []):=rfl;have h5:wtS ([]:List UInt8)=0:=rfl;show wtS (c7 (bG (ab s)))<=_
  omega
 rcases hp:bE s with _|⟨c,t⟩
 ·simp [dU,wrL]
 have hl:=Sz s;rw [hp] at hl hw;rw [VQ (SI hp) hl];split
 ·rename_i h35
  subst h35;rcases s with _|⟨x,s⟩
  ·have:bE []=[]:=rfl;rw [this] at hp;cases hp
  ·by_cases hx:x=35
   ·subst hx;have:=RY s;omega
   ·by_cases hx2:x=32
    ·subst hx2;have e:bE (32::s)=bE s:=rfl;have h1:=Tl (bG (ab s));have h2:=PI (ab s) [];have h3:=QA s;have h4:wtS (bG (ab s))=wtS ((ab s).foldl aK []):=rfl;have h5:wtS ([]:List UInt8)=0:=rfl;have h6:wtS (bE s)=wtS (c7 (bG (ab s))):=rfl;rw [e] at hp;rw [hp] at h6;have h7:wtS (32::s)=wtB 32+wtS s:=by simp [wtS]
     have h8:=Yq 32;omega
    ·exfalso;have hlx:¬ (dp x=32):=by
      intro q;have:=dX x;rw [q] at this;apply hx2;have:x.toNat=32:=by
       split at this
       ·have h9:(32:UInt8).toNat=32:=rfl;omega
       ·exact this.symm
      exact UInt8.toNat.inj this
     have hlx5:¬ (dp x=35):=by
      intro q;have:=dX x;rw [q] at this;apply hx;have:x.toNat=35:=by
       split at this
       ·have h9:(35:UInt8).toNat=35:=rfl;omega
       ·exact this.symm
      exact UInt8.toNat.inj this
     have e1:ab (x::s)=dp x::ab s:=rfl;obtain ⟨u,hu⟩:=KU (ab s) (dp x) [];have e2:bG (ab (x::s))=dp x::u:=by
      rw [e1,<- hu];show (ab s).foldl aK (aK [] (dp x))=_
      rw [aK,if_neg (fun q=>hlx q.1)];rfl
     have e3:c7 (dp x::u)=35::t:=by
      rw [<- e2];exact hp
     rcases adw u with rfl|⟨d,y,rfl⟩
     ·have:c7 ([]++[dp x])=[]++[dp x]:=by rw [eN,if_neg hlx]
      rw [show [dp x]=[]++[dp x] from rfl,this] at e3;exact hlx5 (by simpa using congrArg List.head? e3)
     ·rw [adQ,<- acn,eN] at e3;split at e3
      ·exact hlx5 (by simpa using congrArg List.head? e3)
      ·exact hlx5 (by simpa using congrArg List.head? e3)
 ·omega
theorem Kc (xs:List (List UInt8)) (c:UInt8):(Lib.join xs [c]).length+1=(xs.map List.length).sum+xs.length+(if xs=[] then 1 else 0):=by
 rcases xs with _|⟨x,xs⟩
 ·simp [Lib.join]
 ·rw [Nm,if_neg (by simp)];have:(xs.flatMap fun y=>[c]++y).length=(xs.map List.length).sum+xs.length:=by
   induction xs with
   | nil=>rfl
   | cons y l ih=>simp only [acU,abW,ih,abS,acZ,abR,acD];omega
  simp only [abW,this,abS,acZ,abR];omega
theorem R9 {α:Type} {f g:α->Nat}:∀ l:List α,(∀ a∈l,f a<=g a)->(l.map f).sum<=(l.map g).sum
 | [],_=>abF _
 | a::l,h=>by
   have h1:=R9 l fun x hx=>h x (by simp [hx])
   have h2:=h a (by simp);simp only [abS,acZ];omega
theorem WE {l m:List Nat} (h:l.Perm m):l.sum=m.sum:=by
 induction h with
 | nil=>rfl
 | cons _ _ ih=>simp only [acZ,ih]
 | swap a b l=>simp only [acZ];omega
 | trans _ _ a b=>exact a.trans b
theorem QM (r:Rdn):(da true r).length<=(da false r).length:=by
 have hs:(dx (r.map (avT true))).Perm (r.map (avT true)):=adN _ _;have h1:=Kc (dx (r.map (avT true))) 43;have h2:=Kc (r.map (avT false)) 43;have h3:((dx (r.map (avT true))).map List.length).sum=((r.map (avT true)).map List.length).sum:=WE (hs.map _);have h4:(dx (r.map (avT true))).length=r.length:=by rw [hs.length_eq];simp
 have h5:((r.map (avT true)).map List.length).sum<=((r.map (avT false)).map List.length).sum:=by
  rw [ab9,ab9];refine R9 r fun a _=>?_
  have:=Ub a.2;simp only [aet,avT,if_true,abU,if_false,abW,abR,acD];simp only [ab,aco];omega
 have h6:(if dx (r.map (avT true))=[] then 1 else 0)=(if r.map (avT false)=[] then 1 else 0):=by
  have:dx (r.map (avT true))=[]↔r.map (avT false)=[]:=by
   rw [<- ack,<- ack,h4];simp
  simp only [this]
 simp only [da,if_true,abU,if_false];rw [h3,h4,h6] at h1;simp only [aco] at h2;omega
theorem QH (d:List Rdn):(dK true d).length<=(dK false d).length:=by
 have h1:=Kc (d.map (da true)) 44;have h2:=Kc (d.map (da false)) 44;have h3:((d.map (da true)).map List.length).sum<=((d.map (da false)).map List.length).sum:=by
  rw [ab9,ab9];exact R9 d fun r _=>QM r
 have h6:(if d.map (da true)=[] then 1 else 0)=(if d.map (da false)=[] then 1 else 0):=by
  simp only [aeE]
 rw [h6] at h1;simp only [aco] at h1 h2;unfold dK;omega
theorem Uo {xs ys:List (List UInt8)} (h:xs.Perm ys):dx xs=dx ys:=by
 have hs:∀ zs:List (List UInt8),(dx zs).Pairwise fun x y=>x<=y:=fun zs=>by
  have:=aeD (le:=fun x y:List UInt8=>decide (x<=y)) (fun a b c h1 h2=>by
   simp only [decide_eq_true_eq] at *;exact List.le_trans h1 h2) (fun a b=>by
   simp only [ace,decide_eq_true_eq];exact List.le_total a b) zs
  exact this.imp fun h=>by simpa using h
 refine aeC (le:=fun x y=>x<=y) (fun a b _ _=>aen) (hs xs) (hs ys) ?_;exact (adN _ _).trans (h.trans (adN _ _).symm)
theorem Sb (r:Rdn):da true (eB r)=da true r:=by
 simp only [da,if_true]
 congr 1
 refine Uo ?_;refine ((M5 r).map _).trans ?_;rw [ab9];rw [show (avT true ∘ n8)=avT true from funext fun a=>by simp only [aet,TU,UM]]
theorem R7 (d:List Rdn):dK true (gD d)=dK true d:=by
 unfold dK gD;rw [ab9];rw [show (da true ∘ eB)=da true from funext Sb]
theorem SA {s:List UInt8} (h:(Eh s).2=0):Eh (Eh s).1=Eh s/\(Eh s).1.length<=4096:=by
 unfold Eh at h;split at h
 ·rename_i h1;exact absurd h h1
 rename_i h1
 have hk:Eh s=Nc (rC s).1:=by rw [Eh,if_neg h1]
 rw [hk];obtain ⟨d,hd⟩:=aby ((rC s).1);rw [hd] at h ⊢;unfold Nc at h;split at h
 ·rename_i h2;exact absurd h h2
 rename_i h2
 have hn:Nc d=(dK true d,0):=by rw [Nc,if_neg h2]
 rw [hn];simp only [ne_eq,adE] at h2;have hp:gU 0 d=0/\(dK false d).length<=4096:=by
  unfold prS at h2;split at h2
  ·rename_i h3;exact absurd h2 h3
  rename_i h3
  split at h2
  ·cases h2
  split at h2
  ·cases h2
  exact ⟨by simpa using h3,by omega⟩
 have hl:=QH d;have ht:=M4 d;have hc:=NO d 0 hp.1;have hl2:(dK false (gD d)).length<=4096:=by rw [ht];omega
 refine ⟨?_,by simp only;omega⟩;simp only;rw [<- ht];unfold Eh;rw [WJ hc hl2];simp only;rw [if_neg (by simp)];unfold Nc;have hpr:prS (gD d)=(dK false (gD d),0):=by
  unfold prS;rw [if_neg (by simpa using hc),Q7 (QJ (ab7 (Tr _) hl2)),if_neg (by simp),if_neg (by omega)]
 rw [hpr];simp only;rw [if_neg (by simp),R7,ht]
theorem VA {v:List UInt8} (h:Fk v=true):Fk (bE v)=true:=by
 simp only [Fk,abO,decide_eq_true_eq] at h ⊢;intro x hx;obtain ⟨c,hc,rfl⟩:=Pi hx;have:=h c hc;have h2:=dX c;split at h2<;>omega
theorem Sq {syn:Int} {v n:List UInt8} (h:bY syn v=some n) (hx:¬ (n=[]/\syn=1)):bY syn n=some n:=by
 unfold bY at h;split at h
 ·cases h
 rename_i hl
 have hpl:=mg v;unfold rF at h;split at h
 ·rename_i hs
  split at h
  ·cases h
  split at h
  ·rename_i hv
   cases h;unfold bY rF;rw [if_neg (by omega),if_pos hs,if_neg (fun e=>hx ⟨e,hs⟩),if_pos (QC hv),HX]
  ·cases h
 split at h
 ·rename_i h1 hs
  split at h
  ·cases h
  rename_i h0
  split at h
  ·rename_i hv
   cases h;unfold bY rF;rw [if_neg hl,if_neg h1,if_pos hs,if_neg h0,if_pos hv]
  ·cases h
 split at h
 ·rename_i h1 h2 hs
  split at h
  ·rename_i ha
   cases h;unfold bY rF;rw [if_neg (by omega),if_neg h1,if_neg h2,if_pos hs,if_pos (VA ha),HX]
  ·cases h
 split at h
 ·rename_i h1 h2 h3 hs
  split at h
  ·rename_i ha
   cases h;unfold bY rF;rw [if_neg hl,if_neg h1,if_neg h2,if_neg h3,if_pos hs,if_pos ha]
  ·cases h
 split at h
 ·rename_i h1 h2 h3 h4 hs
  split at h
  ·rename_i ha
   cases h;unfold bY rF;rw [if_neg hl,if_neg h1,if_neg h2,if_neg h3,if_neg h4,if_pos hs,if_pos ha]
  ·cases h
 split at h
 ·rename_i h1 h2 h3 h4 h5 hs
  split at h
  ·rename_i ha
   cases h;have hk:=SA ha;unfold bY rF;rw [if_neg (by omega),if_neg h1,if_neg h2,if_neg h3,if_neg h4,if_neg h5,if_pos hs,hk.1,if_pos ha]
  ·cases h
 split at h
 ·rename_i h1 h2 h3 h4 h5 h6 hs
  cases h;unfold bY rF;rw [if_neg hl,if_neg h1,if_neg h2,if_neg h3,if_neg h4,if_neg h5,if_neg h6,if_pos hs]
 split at h
 ·rename_i h1 h2 h3 h4 h5 h6 h7 hs
  split at h
  ·rename_i ha
   cases h;unfold bY rF;rw [if_neg hl,if_neg h1,if_neg h2,if_neg h3,if_neg h4,if_neg h5,if_neg h6,if_neg h7,if_pos hs,if_pos ha]
  ·cases h
 ·cases h
variable {L:List Blk} {K:abD}
theorem mL (s:List UInt8):(cF s).length=s.length - 2:=by simp [cF]
theorem U5 {s:List UInt8} {i:Nat} (h:i+3<=s.length):(cF s).take (i+1)=(cF s).take i++[(s.drop i).take 3]:=by
 have hi:i<(cF s).length:=by rw [mL];omega
 rw [ab2 hi];simp [cF]
theorem WQ {syn:Int} {v n:List UInt8} (h:bY syn v=some n):n.length<=4096:=by
 by_cases c:n=[]/\syn=1
 ·rw [c.1];simp
 ·exact O8 (Sq h c)
theorem TN {s:List UInt8} (hs:s.length<=100000) (h:K (xC (cF s)) L):abC 41 [.str s] L K:=by
 replace h:=hid h;refine abB Lf ?_;refine cH (l:=[]) (n:=0) 3 1 rfl (acf 1).symm ?_;refine ak (fun m T' L'=>∃ (k:Nat) (C:List AV) (X:List Blk),m=s.length - k/\k<=s.length - 2/\C=((cF s).take k).map AV.str/\T'=[(4,.int .i64 (k:Int)),(3,.gsl C k L.length 1),(0,.str s)]/\L'=L++(.spare k 1::X)) (CutS (b:=by simp)) ⟨0,[],[],rfl,abL _,rfl,rfl,rfl⟩ ?_;rintro _ _ _ ⟨k,C,X,rfl,hk,hC,rfl,rfl⟩;by_cases hlt:k+3<=s.length
 ·have g2:IntKind.i64.wrap ((k:Int)+3)=(k:Int)+3:=ac (by omega) (by omega);have g3:=abA k (by omega);have g1:(k:Int)+3<=(s.length:Int):=by omega
  have htk:=U5 hlt;replace htk:=hid htk;replace hC:=hid hC;have e3:((k:Int)+3).toNat - k=3:=by omega
  refine wk ?_;exact ai _ _ _ (by omega) (CutL (b:=by simp)) ⟨k+1,_,X,rfl,by omega,by rw [htk.out,aca,hC.out];rfl,rfl,rfl⟩
 ·have g2:IntKind.i64.wrap ((k:Int)+3)=(k:Int)+3:=ac (by omega) (by omega);have g1:¬ (k:Int)+3<=(s.length:Int):=by omega
  have hke:k=s.length - 2:=by omega
  have htk:((cF s).take k)=cF s:=acW (by rw [mL];omega);rw [htk] at hC;subst hC;have hl:=hid (show k=(cF s).length by rw [mL];exact hke);clear hke htk hk;refine wk ?_;refine bv ?_;simp only [AV.frz,dD];rw [hl.out];exact ae (by simp only [AV.refs,fy]) h.out
theorem Vn (a b:List (List UInt8×Int)) (l:List Atr):dR (a++b) l=dR a l++dR b l:=by unfold dR;rw [adR]
theorem V3 (a b:TMp):eE (a++b)=eE a++eE b:=by unfold eE;rw [aca]
theorem Vm (f:List UInt8) (s:Int) (l:List Atr):dR [(f,s)] l=(cJ l f).flatMap (rS f s):=by unfold dR;simp
theorem Ps {t:List (List UInt8×Int)} {l:List Atr} {k:aY}:k∈dR t l↔∃ p∈t,k∈(cJ l p.1).flatMap (rS p.1 p.2):=by unfold dR;rw [List.mem_flatMap]
theorem PK {B:Nat} (n:List UInt8):∀ {l:List Atr},(∀ x∈l,x.2.length<=B)->(cJ l n).length<=B
 | [],_=>by simp [cJ]
 | a::l,h=>by
   rw [cJ];split
   ·exact h a (by simp)
   ·exact PK n fun x hx=>h x (by simp [hx])
theorem XD {f:FuncId} {caps:List AV} {it im ie ip ii:Nat} {tm:TMp} {J:List aY->(Nat->Prop)->List Blk->Prop} (hd:DoK Tryz.prog f caps it im ie ip ii tm J) {a:List Atr} (hal:a.length<=1100000) (har:gR dC a) (haz:∀ x∈a,bd x.1/\x.2.length<=1100000) (hm:cG tm tm.length) (hf:∀ e∈tm,bd e.1) {B0:Nat->Prop} {L:List Blk} (h0:J [] B0 L) {cap:Option Nat} {K:abD}
  (h:∀ L',EaI J B0 L [] (fun k=>k∈dR (eE tm) a) L'->K (.tup []) L') :
  abC 53 [.ptr it 0,.sl (bq a) a.length cap,.func f caps] L K:=by
 have hE0:=hid ((EaI.start h0).app hd (.miter (some im) tm.length [] tm.length));obtain ⟨st,ty⟩:=(EaI.start h0).st hd;replace h:=hid h;replace hm:=hid hm;replace hf:=hid hf;replace hd:=hid hd;have hvl:Hid (∀ n,(cJ a n).length<=1100000):=hid (fun n=>PK n fun x hx=>(haz x hx).2);have kG:Hid (∀ {n:List UInt8},bd n->∀ {L:List Blk} {K:abD},K (xC (cJ a n)) L->abC 52 [.sl (bq a) a.length cap,.str n] L K):=@hid _ (fun {n} hn {L K} q=>XC hal har haz hn q);clear hal har haz h0;refine abB xu ?_;refine ak (fun n T' L'=>∃ (seen:List Nat) (ps:TMp),n=(tm.filter fun r => !seen.contains r.2.2).length/\Hid (rY tm ps seen)/\Hid (EaI J B0 L [(L.length,.miter (some im) tm.length seen tm.length)] (fun k=>k∈dR (eE ps) a) L')/\T'=[(18,.ptr L.length 0),(0,.ptr it 0),(1,.sl (bq a) a.length cap),(2,.func f caps)]) (CutS (b:=by simp)) ⟨[],[],rfl,hid rY.nil,hid (hE0.out.iff fun k=>by simp [dR,eE]),rfl⟩ ?_;clear hE0 st ty;rintro _ _ L' ⟨seen,ps,rfl,hcm,hE,rfl⟩;have hat:=hE.out.at (i:=L.length) (abZ.2 rfl);obtain ⟨hst,hty⟩:=hE.out.st hd.out;have hnl:(L++[Blk.miter (some im) tm.length [] tm.length]).length<=L'.length:=by
  have:=(abE.1 hat).1;simp;omega
 refine a8 ?_;refine MG (i:=L.length) (j:=im) (es:=a7 AV.str tyV tm) (by kernel_rfl) rfl hat hty (fun e he=>?_) (abF _) (fun hall=>?_) (fun e he hs=>?_)
 ·obtain ⟨p,hp,rfl⟩:=abI.1 he;exact hm.out.lt p hp
 ·have hall2:=hcm.out.all hm.out fun x hx=>hall (xq AV.str tyV x) (abI.2 ⟨x,hx,rfl⟩)
  have hfin:=hid (h.out L' ((hE.out.iff fun k=>by
   rw [Ps,Ps];unfold eE;simp only [abI];constructor
   ·rintro ⟨q,⟨e,h1,h2⟩,h3⟩;exact ⟨q,⟨e,(hall2 e).1 h1,h2⟩,h3⟩
   ·rintro ⟨q,⟨e,h1,h2⟩,h3⟩;exact ⟨q,⟨e,(hall2 e).2 h1,h2⟩,h3⟩).sub (F':=[]) (by simp)))
  clear hall hall2 hE hcm h kG hd hm hf;refine sk ?_;refine wk ?_;exact dG rfl trivial (aa hfin.out)
 ·obtain ⟨p,hp,rfl⟩:=abI.1 he;clear he;have hs':seen.contains p.2.2=false:=hs;have hlt:=hid (ZX hp hs');have hcm':=hid (hcm.out.next hp);have hmat:=WY (ka:=AV.str) (va:=tyV) (ck:=tm.length) (seen:=seen) hm.out.born hp;have hfr:=hf.out p hp;have hE2:=hid (hE.out.turn hd.out (.miter (some im) tm.length (seen++[p.2.2]) tm.length) (by simp));obtain ⟨fn,⟨t1,t2,t3,t4⟩,bn⟩:=p;simp only [xq] at *;clear hs hs' hcm hE hat hst hty hp;obtain ⟨L2,hL2⟩:=aby (L'.set L.length (Blk.miter (some im) tm.length (seen++[bn]) tm.length));have hl2:L'.length=L2.length:=by rw [<- hL2];simp
  rw [hL2] at hE2 ⊢;clear hL2;have hat:=hE2.out.at (i:=L.length) (abZ.2 rfl);obtain ⟨hst,hty⟩:=hE2.out.st hd.out;have kk1:Hid (Ctr Tryz.prog 52 [.sl (bq a) a.length cap,.str fn] (xC (cJ a fn))):=@hid _ (fun {L K} q=>kG.out hfr q);obtain ⟨vs,hvs⟩:=aby (cJ a fn);rw [hvs] at kk1;replace hvs:=hid hvs;have hE3:=hid (hE2.out.app hd.out (.cells [.str t1,.int .i64 t2,.bool t3,.bool t4]));have hvn:=hid (show vs.length<=1100000 by rw [<- hvs.out];exact hvl.out fn);clear hE2 hfr;refine sk ?_;refine wk ?_;refine ak (fun m T' L3=>∃ i:Nat,m=vs.length - i/\i<=vs.length/\Hid (EaI J B0 L [(L2.length,.cells [.str t1,.int .i64 t2,.bool t3,.bool t4]),(L.length,.miter (some im) tm.length (seen++[bn]) tm.length)] (fun k=>k∈dR (eE ps) a\/k∈(vs.take i).flatMap (rS fn t2)) L3)/\T'=[(28,.int .i64 (i:Int)),(27,.int .i64 vs.length),(26,.sl (vs.map AV.str) vs.length none),(6,.str fn),(7,.ptr L2.length 0),(18,.ptr L.length 0),(0,.ptr it 0),(1,.sl (bq a) a.length cap),(2,.func f caps)]) (CutS (b:=by simp)) ⟨0,rfl,abL _,hid (hE3.out.iff fun k=>by simp),rfl⟩ ?_;clear hE3 kk1 hat hst hty hmat;rintro _ _ L3 ⟨i,rfl,hi,hE,rfl⟩;have hat:=hE.out.at (i:=L2.length) adB;have hl3:L2.length+1<=L3.length:=(abE.1 hat).1;have hvn':=hvn.out;by_cases hiv:i<vs.length
  ·have j1:(i:Int)<(vs.length:Int):=by omega
   have j2:=abA i (by omega);have j3:(vs.map AV.str).getD i .undef=.str (vs.getD i []):=by simp [hiv]
   have j4:i<(vs.map AV.str).length:=by simpa using hiv
   obtain ⟨v,hv⟩:=aby (vs.getD i []);have htk:vs.take (i+1)=vs.take i++[v]:=by rw [ab2 hiv,<- hv];simp [hiv]
   rw [hv] at j3;replace htk:=hid htk;obtain ⟨VS,hVS⟩:=aby (vs.map AV.str);rw [hVS] at j3 j4 ⊢;clear hv hvn';rcases hno:bY t2 v with _|n
   ·have kk1:Hid (Ctr Tryz.prog 48 [.int .i64 t2,.str v] (.tup [.str [],.bool false])):=@hid _ (fun {L K} q=>HY (by rw [hno];exact q));have hE5:=hid (hE.out.iff (M':=fun k=>k∈dR (eE ps) a\/k∈(vs.take (i+1)).flatMap (rS fn t2)) fun k=>by
     rw [htk.out,adR,abH];simp [rS,hno])
    clear hE hno htk;refine wk ?_;rw [<- hVS];exact ai _ _ _ (by omega) (CutL (b:=hl3)) ⟨i+1,rfl,hiv,hE5,rfl⟩
   ·have kk1:Hid (Ctr Tryz.prog 48 [.int .i64 t2,.str v] (.tup [.str n,.bool true])):=@hid _ (fun {L K} q=>HY (by rw [hno];exact q));have hnl2:=WQ hno;have kk2:Hid (Ctr Tryz.prog 41 [.str n] (xC (cF n))):=@hid _ (fun {L K} q=>TN (by omega) q);have hgl:=mL n;obtain ⟨gs,hgs⟩:=aby (cF n);rw [hgs] at kk2 hgl;have hgb:gs.length<=100000:=by omega
    clear hgl;replace hgb:=hid hgb;have hev:Hid (rS fn t2 v=(fn,false,n)::gs.map fun g=>(fn,true,g)):=hid (by unfold rS;rw [hno];simp only [hgs]);clear hno hgs;refine wk ?_;refine hE.out.go hd.out (k:=(fn,false,n)) fun L4 hE4 hl4=>?_
    replace hE4:=hid hE4;replace hl4:=hid (ab7 hl3 hl4);clear hE hat hl3;refine wk ?_;refine ak (fun m T' L5=>∃ j:Nat,m=gs.length - j/\j<=gs.length/\Hid (L4.length<=L5.length)/\Hid (EaI J B0 L [(L2.length,.cells [.str t1,.int .i64 t2,.bool t3,.bool t4]),(L.length,.miter (some im) tm.length (seen++[bn]) tm.length)] (fun k=>(k∈dR (eE ps) a\/k∈(vs.take i).flatMap (rS fn t2))\/k=(fn,false,n)\/k∈(gs.take j).map fun g=>(fn,true,g)) L5)/\T'=[(49,.int .i64 (j:Int)),(48,.int .i64 gs.length),(47,.sl (gs.map AV.str) gs.length none),(28,.int .i64 (i:Int)),(27,.int .i64 vs.length),(26,.sl VS vs.length none),(6,.str fn),(7,.ptr L2.length 0),(18,.ptr L.length 0),(0,.ptr it 0),(1,.sl (bq a) a.length cap),(2,.func f caps)]) (CutS (b:=abF _)) ⟨0,rfl,abL _,hid (abF _),hid (hE4.out.iff fun k=>by simp [or_assoc]),rfl⟩ ?_;clear hE4 kk1 kk2 j3 j4;rintro _ _ L5 ⟨j,rfl,hj,hl5,hE,rfl⟩;have hat:=hE.out.at (i:=L2.length) adB;have hgb2:=hgb.out;by_cases hjg:j<gs.length
    ·have g1:(j:Int)<(gs.length:Int):=by omega
     have g2:=abA j (by omega);clear hgb2;have g3:(gs.map AV.str).getD j .undef=.str (gs.getD j []):=by simp [hjg]
     have g4:j<(gs.map AV.str).length:=by simpa using hjg
     obtain ⟨g,hg⟩:=aby (gs.getD j []);have htj:gs.take (j+1)=gs.take j++[g]:=by rw [ab2 hjg,<- hg];simp [hjg]
     rw [hg] at g3;replace htj:=hid htj;obtain ⟨GS,hGS⟩:=aby (gs.map AV.str);rw [hGS] at g3 g4 ⊢;clear hg;refine wk ?_;refine hE.out.go hd.out (k:=(fn,true,g)) fun L6 hE6 hl6=>?_
     have hE7:=hid (hE6.iff (M':=fun k=>(k∈dR (eE ps) a\/k∈(vs.take i).flatMap (rS fn t2))\/k=(fn,false,n)\/k∈(gs.take (j+1)).map fun g=>(fn,true,g)) fun k=>by
      rw [htj.out];simp [or_assoc])
     replace hl6:=hid (ab7 hl5.out hl6);clear hE hE6 hat;refine wk ?_;rw [<- hGS];exact ai _ _ _ (by omega) (CutL (b:=hl6.out)) ⟨j+1,rfl,hjg,hl6,hE7,rfl⟩
    ·have hje:j=gs.length:=by omega
     subst hje;have g1:¬ (gs.length:Int)<(gs.length:Int):=by omega
     have hE5:=hid (hE.out.iff (M':=fun k=>k∈dR (eE ps) a\/k∈(vs.take (i+1)).flatMap (rS fn t2)) fun k=>by
      rw [htk.out,adR,abH,abY];simp [hev.out,or_assoc])
     have hl7:=ab7 hl4.out hl5.out;clear hE hat;refine wk ?_;rw [<- hVS];exact ai _ _ _ (by omega) (CutL (b:=hl7)) ⟨i+1,rfl,hiv,hE5,rfl⟩
  ·have hie:i=vs.length:=by omega
   subst hie;have j1:¬ (vs.length:Int)<(vs.length:Int):=by omega
   have hE5:=hid ((hE.out.sub (F':=[(L.length,.miter (some im) tm.length (seen++[bn]) tm.length)]) (by simp)).iff (M':=fun k=>k∈dR (eE (ps++[(fn,(t1,t2,t3,t4),bn)])) a) fun k=>by
    rw [abY,V3,Vn,abH];show _↔_\/k∈dR [(fn,t2)] a
    rw [Vm,hvs.out])
   have hl7:L.length+1<=L3.length:=by rw [abW] at hnl;simp only [abR,acD] at hnl;omega
   clear hE hat;refine wk ?_;exact ai _ _ _ hlt.out (CutL (b:=hl7)) ⟨_,_,rfl,hcm',hE5,rfl⟩
end Go.Proofs.YtcmfcpjnhephaaaGreatDoor.Av
