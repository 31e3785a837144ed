/- Joined texts of the walk, made small by a program. -/
import Derived.Test.YtdhjplmjpjfjnaaGreatHR3
import Derived.Test.YtdhjplmjpjfjnaaGreatHOctC
import Derived.Test.YtdhjplmjpjfjnaaGreatHT0
set_option linter.unusedSimpArgs false
set_option linter.unusedVariables false
namespace Go.Proofs.YtdhjplmjpjfjnaaGreat.Av
open Go
set_option maxHeartbeats 8000000
set_option maxRecDepth 100000
theorem fF (c:UInt8):(eo c).toNat=if 65≤c.toNat∧c.toNat≤90 then c.toNat+32 else c.toNat:=by
 by_cases h:65≤c.toNat∧c.toNat≤90
 · have:=FH h.1 h.2
   rw [if_pos h];omega
 · rw [vd h,if_neg h]
theorem E6 (c:UInt8):eo (eo c)=eo c:=by
 refine vd ?_
 rw [fF]
 split<;>omega
theorem DS (s:List UInt8):aD (aD s)=aD s:=by
 unfold aD
 rw [List.map_map]
 exact List.map_congr_left fun c _=>E6 c
theorem Dq (s:List UInt8) (c:UInt8):bm (s++[c])=aI (bm s) c:=by simp [bm]
theorem Dr (s:List UInt8):(bm s).length≤s.length:=by
 have:=lH s s.length
 rwa [List.take_length] at this
theorem Fx {b:List UInt8} (c:UInt8) (h:bm b=b):bm (aI b c)=aI b c:=by
 by_cases hc:c=32∧sb b=true
 · simp only [aI,if_pos hc];exact h
 · simp only [aI,if_neg hc]
   rw [Dq,h,aI,if_neg hc]
theorem GX:∀ (s b:List UInt8),bm b=b→bm (s.foldl aI b)=s.foldl aI b
 | [],_,h=>h
 | c::s,b,h=>GX s (aI b c) (Fx c h)
theorem zG (s:List UInt8):bm (bm s)=bm s:=GX s [] rfl
theorem Mo {b:List UInt8} {c:UInt8} (h:bm (b++[c])=b++[c]):bm b=b∧¬ (c=32∧sb b=true):=by
 rw [Dq] at h
 unfold aI at h
 split at h
 · have:=Dr b
   rw [h] at this
   simp at this
   omega
 · rename_i hc
   have:=List.append_cancel_right h
   rw [this] at hc
   exact ⟨this,hc⟩
theorem zD {b:List UInt8} (h:bm b=b):bm (cF b)=cF b∧cF (cF b)=cF b:=by
 rcases List.eq_nil_or_concat b with rfl|⟨d,c,rfl⟩
 · simp [cF,bm]
 · rw [List.concat_eq_append] at h ⊢
   obtain ⟨h1,h2⟩:=Mo h
   rw [fJ]
   split
   · rename_i hc
     refine ⟨h1,?_⟩
     have h3:sb d=false:=by simpa [hc] using h2
     unfold cF
     rw [if_neg]
     intro e
     simp [sb,e] at h3
   · rename_i hc
     exact ⟨h,by rw [fJ,if_neg hc]⟩
theorem FF {b:List UInt8} {c x:UInt8} (h:x∈aI b c):x∈b∨x=c:=by
 unfold aI at h
 split at h
 · exact .inl h
 · simpa using h
theorem GA:∀ (s b:List UInt8) {x:UInt8},x∈s.foldl aI b→x∈b∨x∈s
 | [],_,_,h=>.inl h
 | c::s,b,x,h=>by
   rcases GA s (aI b c) h with h1|h1
   · rcases FF h1 with h2|h2
     · exact .inl h2
     · exact .inr (by simp [h2])
   · exact .inr (by simp [h1])
theorem Jg {b:List UInt8} {x:UInt8} (h:x∈cF b):x∈b:=by
 unfold cF at h
 split at h
 · exact (List.dropLast_sublist b).subset h
 · exact h
theorem Jh {s:List UInt8} {x:UInt8} (h:x∈bj s):∃ c∈s,x=eo c:=by
 rcases GA _ _ (Jg h) with h1|h1
 · cases h1
 · obtain ⟨c,hc,rfl⟩:=List.mem_map.1 h1
   exact ⟨c,hc,rfl⟩
theorem GY (s:List UInt8):aD (bj s)=bj s:=by
 unfold aD
 rw [List.map_congr_left (g:=id) (fun x hx=>?_),List.map_id]
 obtain ⟨c,_,rfl⟩:=Jh hx
 exact E6 c
theorem Hu (s:List UInt8):bj (bj s)=bj s:=by
 have h1:bj (bj s)=cF (bm (bj s)):=by
   show cF (bm (aD (bj s)))=_
   rw [GY]
 rw [h1]
 have h2:=zD (zG (aD s))
 show cF (bm (cF (bm (aD s))))=cF (bm (aD s))
 rw [h2.1,h2.2]
def Chr (q:List UInt8):Prop:=q≠[]∧(∀ s,Lib.validD (q++s)=Lib.validD s)∧((∃ c:UInt8,q=[c]∧c.toNat<128)∨∀ c∈q,128≤c.toNat)
inductive Seg:List UInt8→Prop
 | nil:Seg []
 | cons {q s:List UInt8}:Chr q→Seg s→Seg (q++s)
theorem Seg.app {a b:List UInt8} (h:Seg a) (hb:Seg b):Seg (a++b):=by
 induction h with
 | nil=>exact hb
 | cons hq _ ih=>rw [List.append_assoc];exact .cons hq ih
theorem Seg.last {s:List UInt8} (h:Seg s):∀ d:List UInt8,s=d++[32]→Seg d:=by
 induction h with
 | nil=>intro d e;simp at e
 | @cons q s hq hs ih =>
   intro d e
   rcases List.eq_nil_or_concat s with rfl|⟨s',c,rfl⟩
   · rw [List.append_nil] at e
     subst e
     rcases hq.2.2 with ⟨c,e2,_⟩|h2
     · have:d=[]:=by
         have:=congrArg List.length e2
         simp at this
         exact this
       subst this
       exact .nil
     · have:=h2 32 (by simp)
       exact absurd this (by decide)
   · rw [List.concat_eq_append] at *
     rw [← List.append_assoc] at e
     obtain ⟨e1,e2⟩:=List.append_inj' e rfl
     subst e1
     rw [e2] at ih hs
     exact .cons hq (ih s' rfl)
def Dif (a b:Ava):Prop:=aD a.1≠aD b.1
theorem IH {r:Rdn} {t:List UInt8}:mC r t=false↔∀ a∈r,aD a.1≠aD t:=by simp [mC]
theorem DY:∀ (t done:Rdn),done.length≤8→(cr done t=0↔done.length+t.length≤8∧(∀ a∈t,iA a.1=true)∧(∀ a∈done,∀ b∈t,Dif a b)∧t.Pairwise Dif)
 | [],done,h=>by simp [cr,h]
 | a::t,done,h=>by
   unfold cr
   by_cases h8:done.length=8
   · rw [if_pos h8]
     simp only [List.length_cons]
     constructor
     · intro e;cases e
     · intro e;omega
   rw [if_neg h8]
   by_cases hty:iA a.1=false
   · rw [if_pos hty]
     constructor
     · intro e;cases e
     · intro e
       have:=e.2.1 a (by simp)
       rw [hty] at this;cases this
   rw [if_neg hty]
   by_cases hh:mC done a.1=true
   · rw [if_pos hh]
     constructor
     · intro e;cases e
     · intro e
       have:mC done a.1=false:=IH.2 fun b hb=>e.2.2.1 b hb a (by simp)
       rw [hh] at this;cases this
   rw [if_neg hh,DY t (done++[a]) (by simp;omega)]
   simp only [Bool.not_eq_false] at hty
   have hh2:=IH.1 (by simpa using hh)
   simp only [List.length_append,List.length_cons,List.length_nil,List.mem_append,List.mem_singleton,List.mem_cons,List.not_mem_nil,or_false,forall_eq_or_imp,List.pairwise_cons]
   constructor
   · rintro ⟨e1,e2,e3,e4⟩
     refine ⟨by omega,⟨hty,e2⟩,fun x hx=>⟨hh2 x hx,fun b hb=>e3 x (.inl hx) b hb⟩,fun b hb=>e3 a (.inr rfl) b hb,e4⟩
   · rintro ⟨e1,⟨_,e2⟩,e3,e4,e5⟩
     refine ⟨by omega,e2,?_,e5⟩
     rintro x (hx|rfl) b hb
     · exact (e3 x hx).2 b hb
     · exact e4 b hb
theorem IX {t:List UInt8} (h:iA t=true):iA (aD t)=true:=by
 simp only [iA,Bool.and_eq_true,List.all_eq_true,decide_eq_true_eq] at h ⊢
 obtain ⟨⟨⟨h1,h2⟩,h3⟩,h4⟩:=h
 have hlet:∀ c:UInt8,jm (c.toNat:Int)=true→jm ((eo c).toNat:Int)=true:=by
   intro c hc
   have:=fF c
   split at this
   · rw [this]
     simp only [jm,Bool.or_eq_true,Bool.and_eq_true,decide_eq_true_eq] at hc ⊢
     omega
   · rw [this];exact hc
 refine ⟨⟨⟨by simpa [aD] using h1,by simpa [aD] using h2⟩,?_⟩,?_⟩
 · rcases t with _|⟨c,t⟩
   · simp at h1
   · simpa [aD] using hlet c (by simpa using h3)
 · intro c hc
   obtain ⟨x,hx,rfl⟩:=List.mem_map.1 hc
   have:=h4 x hx
   simp only [xP,Bool.or_eq_true] at this ⊢
   rcases this with (e|e)|e
   · exact .inl (.inl (hlet x e))
   · refine .inl (.inr ?_)
     simp only [Bool.and_eq_true,decide_eq_true_eq] at e ⊢
     rw [fF,if_neg (by omega)];exact e
   · refine .inr ?_
     simp only [decide_eq_true_eq] at e ⊢
     rw [fF,if_neg (by omega)];exact e
theorem Dt (r:Rdn):(eU r).Perm (r.map ou):=by
 have:=(zm r [] List.Pairwise.nil).2
 rwa [List.nil_append] at this
theorem Je (a:Ava):ou (ou a)=ou a:=by simp [ou,DS,Hu]
theorem FW {r:Rdn} (h:cr [] r=0):cr [] (eU r)=0:=by
 rw [DY _ _ (by simp)] at h ⊢
 obtain ⟨h1,h2,_,h4⟩:=h
 have hp:=Dt r
 refine ⟨by simpa [mz] using h1,fun a ha=>?_,fun a ha=>(by cases ha),?_⟩
 · obtain ⟨b,hb,rfl⟩:=List.mem_map.1 (hp.mem_iff.1 ha)
   exact IX (h2 b hb)
 · refine (hp.pairwise_iff (fun {a b} e=>Ne.symm e)).2 ?_
   rw [List.pairwise_map]
   refine h4.imp fun {a b} e=>?_
   simpa [Dif,ou,DS] using e
theorem DZ:∀ (d:List Rdn) (i:Nat),fz i d=0→fz i (eJ d)=0
 | [],_,h=>h
 | r::d,i,h=>by
   unfold fz at h
   show fz i (eU r::eJ d)=0
   unfold fz
   split at h
   · cases h
   rename_i h32
   split at h
   · cases h
   rename_i hr
   split at h
   · rename_i h5;exact absurd h h5
   rename_i h5
   simp only [ne_eq,Decidable.not_not] at h5
   rw [if_neg h32,if_neg,if_neg (by simpa using FW h5),DZ d _ h]
   intro e
   have:=congrArg List.length e
   rw [mz] at this
   exact hr (List.length_eq_zero_iff.1 this)
def wtB (c:UInt8):Nat:=if c=0 then 3 else if c∈([34,43,44,59,60,62,92]:List UInt8) then 2 else 1
def wtS (s:List UInt8):Nat:=(s.map wtB).sum
theorem Ik (a b:List UInt8):wtS (a++b)=wtS a+wtS b:=by simp [wtS]
theorem Nc:∀ c:UInt8,wtB (eo c)=wtB c:=by
 intro c
 by_cases h:65≤c.toNat∧c.toNat≤90
 · have h2:=fF c
   rw [if_pos h] at h2
   have g:∀ x:UInt8,65≤x.toNat→x.toNat≠92→wtB x=1:=by
     intro x hx hn
     unfold wtB
     rw [if_neg (by rintro rfl;exact absurd hx (by decide)),if_neg]
     simp only [List.mem_cons,List.not_mem_nil,or_false]
     rintro (rfl|rfl|rfl|rfl|rfl|rfl|rfl)
     all_goals first|exact absurd hx (by decide)|exact absurd rfl hn
   rw [g c (by omega) (by omega),g _ (by omega) (by omega)]
 · rw [vd h]
theorem Ga (s:List UInt8):wtS (aD s)=wtS s:=by
 simp only [wtS,aD,List.map_map]
 rw [show (wtB ∘ eo)=wtB from funext Nc]
theorem Ni (i n:Nat) (c:UInt8):wtB c≤(wrB i n c).length:=by
 unfold wtB wrB
 by_cases h0:c=0
 · rw [if_pos h0,if_pos h0];simp
 · rw [if_neg h0,if_neg h0]
   by_cases h7:c∈([34,43,44,59,60,62,92]:List UInt8)
   · rw [if_pos h7,if_pos (.inr (.inr h7))];simp
   · rw [if_neg h7];split<;>simp
theorem Hl (n:Nat):∀ (s:List UInt8) (i:Nat),wtS s≤(wrL n i s).length
 | [],_=>by simp [wtS]
 | c::s,i=>by
   have h1:=Hl n s (i+1)
   have h2:=Ni i n c
   simp only [wrL,List.length_append,wtS,List.map_cons,List.sum_cons] at h1 ⊢
   omega
theorem Nk {i n:Nat} {c:UInt8} (hi:i≠0) (hc:c≠32):(wrB i n c).length=wtB c:=by
 unfold wtB wrB
 by_cases h0:c=0
 · rw [if_pos h0,if_pos h0];simp
 · rw [if_neg h0,if_neg h0]
   by_cases h7:c∈([34,43,44,59,60,62,92]:List UInt8)
   · rw [if_pos h7,if_pos (.inr (.inr h7))];simp
   · rw [if_neg h7,if_neg];· simp
     rintro (e|e|e)
     · exact hi e.1
     · exact hc e.2
     · exact h7 e
theorem Nj {i n:Nat} (hi:i≠0) (hn:i+1≠n):(wrB i n 32).length=wtB 32:=by
 have e:wrB i n 32=[32]:=by
   unfold wrB
   rw [if_neg (by decide),if_neg]
   rintro (e|e|e)
   · exact hi e.1
   · exact hn e.1
   · exact absurd e (by decide)
 rw [e];decide
theorem J3 (n:Nat):∀ (s:List UInt8) (i:Nat),i≠0→n=i+s.length→s.getLast?≠some 32→(wrL n i s).length=wtS s
 | [],_,_,_,_=>by simp [wrL,wtS]
 | c::s,i,hi,hn,hl=>by
   have h1:s.getLast?≠some 32:=by
     rcases s with _|⟨x,s⟩
     · simp
     · rwa [List.getLast?_cons_cons] at hl
   have ih:=J3 n s (i+1) (by omega) (by simp at hn;omega) h1
   have h2:(wrB i n c).length=wtB c:=by
     by_cases hc:c=32
     · subst hc
       refine Nj hi fun e=>?_
       have:s=[]:=List.length_eq_zero_iff.1 (by simp at hn;omega)
       subst this
       exact hl rfl
     · exact Nk hi hc
   rw [wrL,List.length_append,ih,h2]
   simp [wtS]
theorem J2 (s:List UInt8):wtS s≤(eG s).length:=Hl _ _ _
theorem Hj (s:List UInt8):wtS (35::s)+1≤(eG (35::s)).length:=by
 have h1:=Hl (s.length+1) s 1
 have e:wrB 0 (s.length+1) 35=[92,35]:=by
   unfold wrB
   rw [if_neg (by decide),if_pos (.inl ⟨rfl,.inr rfl⟩)]
 show _≤(wrB 0 (s.length+1) 35++wrL (s.length+1) 1 s).length
 rw [e]
 have:wtB 35=1:=by decide
 simp only [wtS,List.map_cons,List.sum_cons,List.length_append,List.length_cons,List.length_nil] at h1 ⊢
 omega
theorem J1 {c:UInt8} {s:List UInt8} (h1:c≠32) (h2:(c::s).getLast?≠some 32):(eG (c::s)).length=wtS (c::s)+(if c=35 then 1 else 0):=by
 have hs:s.getLast?≠some 32:=by
   rcases s with _|⟨x,s⟩
   · simp
   · rwa [List.getLast?_cons_cons] at h2
 have h3:=J3 (s.length+1) s 1 (by omega) (by omega) hs
 show (wrB 0 (s.length+1) c++wrL (s.length+1) 1 s).length=_
 rw [List.length_append,h3]
 have h4:(wrB 0 (s.length+1) c).length=wtB c+(if c=35 then 1 else 0):=by
   unfold wtB wrB
   by_cases h0:c=0
   · subst h0;rfl
   · rw [if_neg h0,if_neg h0]
     by_cases h7:c∈([34,43,44,59,60,62,92]:List UInt8)
     · rw [if_pos h7,if_pos (.inr (.inr h7)),if_neg]
       · rfl
       · rintro rfl;exact absurd h7 (by decide)
     · rw [if_neg h7]
       by_cases h35:c=35
       · rw [if_pos h35,if_pos (.inl ⟨rfl,.inr h35⟩)];rfl
       · rw [if_neg h35,if_neg];· rfl
         rintro (e|e|e)
         · rcases e.2 with e|e
           · exact h1 e
           · exact h35 e
         · exact h1 e.2
         · exact h7 e
 rw [h4]
 simp [wtS]
 omega
theorem LB (b:List UInt8) (c:UInt8):wtS (aI b c)≤wtS b+wtB c:=by
 unfold aI
 split
 · omega
 · rw [Ik];simp [wtS]
theorem Ft:∀ (s b:List UInt8),wtS (s.foldl aI b)≤wtS b+wtS s
 | [],b=>by simp [wtS]
 | c::s,b=>by
   have h1:=Ft s (aI b c)
   have h2:=LB b c
   simp only [List.foldl_cons,wtS,List.map_cons,List.sum_cons] at h1 h2 ⊢
   omega
theorem Ij (b:List UInt8):wtS (cF b)≤wtS b:=by
 rcases List.eq_nil_or_concat b with rfl|⟨d,c,rfl⟩
 · simp [cF]
 · rw [List.concat_eq_append,fJ]
   split
   · rw [Ik];omega
   · omega
theorem zP:∀ (s:List UInt8) (x:UInt8) (b:List UInt8),∃ t,s.foldl aI (x::b)=x::t
 | [],x,b=>⟨b,rfl⟩
 | c::s,x,b=>by
   rw [List.foldl_cons,aI]
   split
   · exact zP s x b
   · exact zP s x (b++[c])
theorem LC (c:UInt8):1≤wtB c:=by
 unfold wtB
 split
 · omega
 · split<;>omega
theorem HH (s:List UInt8):(bj s).getLast?≠some 32:=by
 have h:=zD (zG (aD s))
 have e:cF (bj s)=bj s:=h.2
 intro hl
 rcases List.eq_nil_or_concat (bj s) with q|⟨d,c,q⟩
 · rw [q] at hl;cases hl
 · rw [q,List.concat_eq_append] at e hl
   rw [fJ,if_pos (by simpa using hl)] at e
   have:=congrArg List.length e
   simp at this
theorem HM {s:List UInt8} {c:UInt8} {t:List UInt8} (h:bj s=c::t):c≠32:=by
 have e:bm (bj s)=bj s:=(zD (zG (aD s))).1
 rw [h] at e
 rintro rfl
 have:=Dr t
 have e2:bm (32::t)=t.foldl aI []:=rfl
 rw [e2] at e
 have:=congrArg List.length e
 have h3:(t.foldl aI []).length≤t.length:=Dr t
 simp at this
 omega
theorem IT (s:List UInt8):(eG (bj s)).length≤(eG s).length:=by
 have hge:=J2 s
 have hw:wtS (bj s)≤wtS s:=by
   have h1:=Ij (bm (aD s))
   have h2:=Ft (aD s) []
   have h3:=Ga s
   have h4:wtS (bm (aD s))=wtS ((aD s).foldl aI []):=rfl
   have h5:wtS ([]:List UInt8)=0:=rfl
   show wtS (cF (bm (aD s)))≤_
   omega
 rcases hp:bj s with _|⟨c,t⟩
 · simp [eG,wrL]
 have hl:=HH s
 rw [hp] at hl hw
 rw [J1 (HM hp) hl]
 split
 · rename_i h35
   subst h35
   rcases s with _|⟨x,s⟩
   · have:bj []=[]:=rfl
     rw [this] at hp;cases hp
   · by_cases hx:x=35
     · subst hx
       have:=Hj s
       omega
     · by_cases hx2:x=32
       · subst hx2
         have e:bj (32::s)=bj s:=rfl
         have h1:=Ij (bm (aD s))
         have h2:=Ft (aD s) []
         have h3:=Ga s
         have h4:wtS (bm (aD s))=wtS ((aD s).foldl aI []):=rfl
         have h5:wtS ([]:List UInt8)=0:=rfl
         have h6:wtS (bj s)=wtS (cF (bm (aD s))):=rfl
         rw [e] at hp
         rw [hp] at h6
         have h7:wtS (32::s)=wtB 32+wtS s:=by simp [wtS]
         have h8:=LC 32
         omega
       · exfalso
         have hlx:¬ (eo x=32):=by
           intro q
           have:=fF x
           rw [q] at this
           apply hx2
           have:x.toNat=32:=by
             split at this
             · have h9:(32:UInt8).toNat=32:=rfl
               omega
             · exact this.symm
           exact UInt8.toNat.inj this
         have hlx5:¬ (eo x=35):=by
           intro q
           have:=fF x
           rw [q] at this
           apply hx
           have:x.toNat=35:=by
             split at this
             · have h9:(35:UInt8).toNat=35:=rfl
               omega
             · exact this.symm
           exact UInt8.toNat.inj this
         have e1:aD (x::s)=eo x::aD s:=rfl
         obtain ⟨u,hu⟩:=zP (aD s) (eo x) []
         have e2:bm (aD (x::s))=eo x::u:=by
           rw [e1,← hu]
           show (aD s).foldl aI (aI [] (eo x))=_
           rw [aI,if_neg (fun q=>hlx q.1)];rfl
         have e3:cF (eo x::u)=35::t:=by
           rw [← e2];exact hp
         rcases List.eq_nil_or_concat u with rfl|⟨d,y,rfl⟩
         · have:cF ([]++[eo x])=[]++[eo x]:=by rw [fJ,if_neg hlx]
           rw [show [eo x]=[]++[eo x] from rfl,this] at e3
           exact hlx5 (by simpa using congrArg List.head? e3)
         · rw [List.concat_eq_append,← List.cons_append,fJ] at e3
           split at e3
           · exact hlx5 (by simpa using congrArg List.head? e3)
           · exact hlx5 (by simpa using congrArg List.head? e3)
 · omega
theorem jl (xs:List (List UInt8)) (c:UInt8):(Lib.join xs [c]).length+1=(xs.map List.length).sum+xs.length+(if xs=[] then 1 else 0):=by
 rcases xs with _|⟨x,xs⟩
 · simp [Lib.join]
 · rw [DH,if_neg (by simp)]
   have:(xs.flatMap fun y=>[c]++y).length=(xs.map List.length).sum+xs.length:=by
     induction xs with
     | nil=>rfl
     | cons y l ih=>simp only [List.flatMap_cons,List.length_append,ih,List.map_cons,List.sum_cons,List.length_cons,List.length_nil];omega
   simp only [List.length_append,this,List.map_cons,List.sum_cons,List.length_cons]
   omega
theorem Ho {α:Type} {f g:α→Nat}:∀ l:List α,(∀ a∈l,f a≤g a)→(l.map f).sum≤(l.map g).sum
 | [],_=>Nat.le_refl _
 | a::l,h=>by
   have h1:=Ho l fun x hx=>h x (by simp [hx])
   have h2:=h a (by simp)
   simp only [List.map_cons,List.sum_cons];omega
theorem Kv {l m:List Nat} (h:l.Perm m):l.sum=m.sum:=by
 induction h with
 | nil=>rfl
 | cons _ _ ih=>simp only [List.sum_cons,ih]
 | swap a b l=>simp only [List.sum_cons];omega
 | trans _ _ a b=>exact a.trans b
theorem Gl (r:Rdn):(bL true r).length≤(bL false r).length:=by
 have hs:(da (r.map (avT true))).Perm (r.map (avT true)):=List.mergeSort_perm _ _
 have h1:=jl (da (r.map (avT true))) 43
 have h2:=jl (r.map (avT false)) 43
 have h3:((da (r.map (avT true))).map List.length).sum=((r.map (avT true)).map List.length).sum:=Kv (hs.map _)
 have h4:(da (r.map (avT true))).length=r.length:=by rw [hs.length_eq];simp
 have h5:((r.map (avT true)).map List.length).sum≤((r.map (avT false)).map List.length).sum:=by
   rw [List.map_map,List.map_map]
   refine Ho r fun a _=>?_
   have:=IT a.2
   simp only [Function.comp_apply,avT,if_true,Bool.false_eq_true,if_false,List.length_append,List.length_cons,List.length_nil]
   simp only [aD,List.length_map]
   omega
 have h6:(if da (r.map (avT true))=[] then 1 else 0)=(if r.map (avT false)=[] then 1 else 0):=by
   have:da (r.map (avT true))=[]↔r.map (avT false)=[]:=by
     rw [← List.length_eq_zero_iff,← List.length_eq_zero_iff,h4];simp
   simp only [this]
 simp only [bL,if_true,Bool.false_eq_true,if_false]
 rw [h3,h4,h6] at h1
 simp only [List.length_map] at h2
 omega
theorem Gd (d:List Rdn):(aK true d).length≤(aK false d).length:=by
 have h1:=jl (d.map (bL true)) 44
 have h2:=jl (d.map (bL false)) 44
 have h3:((d.map (bL true)).map List.length).sum≤((d.map (bL false)).map List.length).sum:=by
   rw [List.map_map,List.map_map]
   exact Ho d fun r _=>Gl r
 have h6:(if d.map (bL true)=[] then 1 else 0)=(if d.map (bL false)=[] then 1 else 0):=by
   simp only [List.map_eq_nil_iff]
 rw [h6] at h1
 simp only [List.length_map] at h1 h2
 unfold aK
 omega
theorem I3 {xs ys:List (List UInt8)} (h:xs.Perm ys):da xs=da ys:=by
 have hs:∀ zs:List (List UInt8),(da zs).Pairwise fun x y=>x≤y:=fun zs=>by
   have:=List.pairwise_mergeSort (le:=fun x y:List UInt8=>decide (x≤y)) (fun a b c h1 h2=>by
     simp only [decide_eq_true_eq] at *
     exact List.le_trans h1 h2) (fun a b=>by
     simp only [Bool.or_eq_true,decide_eq_true_eq]
     exact List.le_total a b) zs
   exact this.imp fun h=>by simpa using h
 refine List.Perm.eq_of_pairwise (le:=fun x y=>x≤y) (fun a b _ _=>List.le_antisymm) (hs xs) (hs ys) ?_
 exact (List.mergeSort_perm _ _).trans (h.trans (List.mergeSort_perm _ _).symm)
theorem Hq (r:Rdn):bL true (eU r)=bL true r:=by
 simp only [bL,if_true]
 congr 1
 refine I3 ?_
 refine ((Dt r).map _).trans ?_
 rw [List.map_map]
 rw [show (avT true ∘ ou)=avT true from funext fun a=>by simp only [Function.comp_apply,IL,Je]]
end Go.Proofs.YtdhjplmjpjfjnaaGreat.Av
