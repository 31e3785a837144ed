/- Joined texts of the walk, made small by a program. -/
import Derived.Test.YtdhjplmjpjfjnaaGreatHR2
set_option linter.unusedSimpArgs false
set_option linter.unusedVariables false
namespace Go.Proofs.YtdhjplmjpjfjnaaGreat.Av
open Go
set_option maxHeartbeats 8000000
set_option maxRecDepth 100000
theorem Im (v:List UInt8) (rest:List UInt8) (hr:rest=[]∨∃ c t,rest=c::t∧(c=44∨c=43)):∀ (s b:List UInt8) (bl:Bool),b++s=v→(s=[]→bl=false)→mN b bl (wrL v.length b.length s++rest)=some (v,rest,true)
 | [],b,bl,e,h=>by
   rw [List.append_nil] at e
   subst e
   simp only [wrL,List.nil_append]
   rw [h rfl]
   rcases hr with rfl|⟨c,t,rfl,hc⟩
   · exact J6
   · exact IU hc
 | c::s,b,bl,e,h=>by
   have ih:=fun bl' (h':s=[]→bl'=false)=>Im v rest hr s (b++[c]) bl' (by rw [← e];simp) h'
   have hbl:(b++[c]).length=b.length+1:=by simp
   rw [hbl] at ih
   have hvl:v.length=b.length+s.length+1:=by rw [← e];simp;omega
   rw [wrL,List.append_assoc]
   unfold wrB
   split
   · rename_i hc
     subst hc
     show mN b bl (92::48::48::(wrL v.length (b.length+1) s++rest))=_
     rw [J7 (by decide)]
     exact ih false (fun _=>rfl)
   · rename_i hc
     split
     · rename_i h2
       show mN b bl (92::c::(wrL v.length (b.length+1) s++rest))=_
       rw [IV]
       · exact ih false (fun _=>rfl)
       · rcases h2 with ⟨_,rfl|rfl⟩|⟨_,rfl⟩|h2
         · decide
         · decide
         · decide
         · simp only [List.mem_cons,List.not_mem_nil,or_false] at h2 ⊢
           rcases h2 with rfl|rfl|rfl|rfl|rfl|rfl|rfl<;>decide
     · rename_i h2
       show mN b bl (c::(wrL v.length (b.length+1) s++rest))=_
       have h5:¬ c∈([34,43,44,59,60,62,92]:List UInt8):=fun q=>h2 (.inr (.inr q))
       simp only [List.mem_cons,List.not_mem_nil,or_false,not_or] at h5
       rw [Hm (fun q=>q.elim (fun q=>h5.2.2.1 q) (fun q=>h5.2.1 q)) (fun q=>h5.2.2.2.2.2.2 q)]
       rw [if_neg]
       · refine ih _ (fun hs=>?_)
         rw [decide_eq_false_iff_not]
         intro q
         refine h2 (.inr (.inl ⟨?_,q⟩))
         rw [hvl,hs];simp
       · rintro (q|q|⟨q1,q2⟩)
         · exact hc q
         · simp only [List.mem_cons,List.not_mem_nil,or_false] at q
           rcases q with q|q|q|q
           · exact h5.1 q
           · exact h5.2.2.2.1 q
           · exact h5.2.2.2.2.1 q
           · exact h5.2.2.2.2.2.1 q
         · exact h2 (.inl ⟨by rw [q1];rfl,q2⟩)
theorem xd (v:List UInt8) {rest:List UInt8} (hr:rest=[]∨∃ c t,rest=c::t∧(c=44∨c=43)):mN [] false (eG v++rest)=some (v,rest,true) :=
 Im v rest hr v [] false rfl (fun _=>rfl)
theorem GZ:∀ (t r:List UInt8),(∀ c∈t,c≠61)→K2 (t++61::r)=some (t,r)
 | [],r,_=>by simp [K2]
 | c::t,r,h=>by
   rw [List.cons_append,K2,if_neg (h c (by simp)),GZ t r (fun x hx=>h x (by simp [hx]))]
theorem J8 {t:List UInt8} (h:iA t=true):∀ c∈t,c≠61:=by
 intro c hc e
 simp only [iA,Bool.and_eq_true,List.all_eq_true] at h
 have:=h.2 c hc
 rw [e] at this
 exact absurd this (by decide)
theorem DH (x sep:List UInt8) (xs:List (List UInt8)):Lib.join (x::xs) sep=x++xs.flatMap (fun y=>sep++y):=by
 induction xs generalizing x with
 | nil=>simp [Lib.join,List.intercalate]
 | cons y l ih =>
   have e:Lib.join (x::y::l) sep=x++(sep++Lib.join (y::l) sep):=by simp [Lib.join,List.intercalate]
   rw [e,ih]
   simp
def iw (t:Rdn):List UInt8:=t.flatMap fun a=>43::avT false a
def ik (d:List Rdn):List UInt8:=d.flatMap fun r=>44::bL false r
theorem EN (a:Ava) (t:Rdn):bL false (a::t)=avT false a++iw t:=by
 simp only [bL,Bool.false_eq_true,if_false,List.map_cons,DH,iw]
 simp [List.flatMap_map]
theorem IZ (r:Rdn) (d:List Rdn):aK false (r::d)=bL false r++ik d:=by
 simp only [aK,List.map_cons,DH,ik]
 simp [List.flatMap_map]
theorem Dw:∀ (f:Nat) (out:List Rdn) (now:Rdn) (a:Ava) (t:Rdn) (d:List Rdn),(avT false a++(iw t++ik d)).length<f→out.length<32→cr now (a::t)=0→fz (out.length+1) d=0 →
   Ky f out now (avT false a++(iw t++ik d))=(out++[now++a::t]++d,0)
 | 0,_,_,_,_,_,h,_,_,_=>by omega
 | f+1,out,now,(ty,v),t,d,hf,ho,hc,hd=>by
   unfold cr at hc
   split at hc
   · cases hc
   rename_i hn8
   split at hc
   · cases hc
   rename_i hty
   split at hc
   · cases hc
   rename_i hha
   simp only [Bool.not_eq_false] at hty
   have e1:avT false (ty,v)++(iw t++ik d)=ty++61::(eG v++(iw t++ik d)):=by simp [avT]
   rw [e1] at hf ⊢
   rw [Ky,if_neg (by omega),GZ _ _ (J8 hty)]
   simp only
   rw [if_neg (by simp [hty]),if_neg hha]
   rcases t with _|⟨a2,t⟩
   · rcases d with _|⟨r,d⟩
     · rw [show iw []++ik []=([]:List UInt8) from rfl]
       rw [xd v (.inl rfl)]
       simp
     · rw [show iw []++ik (r::d)=44::(bL false r++ik d) by simp [iw,ik]] at hf ⊢
       rw [xd v (.inr ⟨44,_,rfl,.inl rfl⟩)]
       simp only [Bool.true_eq_false,if_false,if_true]
       unfold fz at hd
       split at hd
       · cases hd
       rename_i h32
       split at hd
       · cases hd
       rename_i hr0
       split at hd
       · rename_i h5;exact absurd hd h5
       rename_i h5
       simp only [ne_eq,Decidable.not_not] at h5
       rcases r with _|⟨a2,t⟩
       · exact absurd rfl hr0
       have ih:=Dw f (out++[now++[(ty,v)]]) [] a2 t d
       rw [EN,List.append_assoc] at hf ⊢
       rw [ih (by simp only [List.length_append,List.length_cons] at hf ⊢;omega) (by simp;omega) h5 (by simpa using hd)]
       simp
   · rw [show iw (a2::t)++ik d=43::(avT false a2++(iw t++ik d)) by simp [iw]] at hf ⊢
     rw [xd v (.inr ⟨43,_,rfl,.inr rfl⟩)]
     simp only [Bool.true_eq_false,if_false,show ¬ ((43:UInt8)=44) by decide]
     have ih:=Dw f out (now++[(ty,v)]) a2 t d
     rw [ih (by simp only [List.length_append,List.length_cons] at hf ⊢;omega) ho hc hd]
     simp
theorem Kx {d:List Rdn} (h:fz 0 d=0) (hl:(aK false d).length≤4096):Nw (aK false d)=(d,0):=by
 unfold Nw
 rw [if_neg (by omega)]
 rcases d with _|⟨r,d⟩
 · simp [aK,Lib.join]
 unfold fz at h
 split at h
 · cases h
 split at h
 · cases h
 rename_i hr0
 split at h
 · rename_i h5;exact absurd h h5
 rename_i h5
 simp only [ne_eq,Decidable.not_not] at h5
 rcases r with _|⟨a,t⟩
 · exact absurd rfl hr0
 rw [IZ,EN,List.append_assoc]
 rw [if_neg (by simp [avT])]
 have:=Dw ((avT false a++(iw t++ik d)).length+1) [] [] a t d (by omega) (by simp) h5 h
 rw [this]
 simp
end Go.Proofs.YtdhjplmjpjfjnaaGreat.Av
