/- Joined texts of the walk, made small by a program. -/
import Derived.Test.YtgpnbkdcdmfgcaaGreatXR2
set_option linter.unusedSimpArgs false
set_option linter.unusedVariables false
namespace Go.Proofs.YtgpnbkdcdmfgcaaGreat.Av
open Go
set_option maxHeartbeats 8000000
set_option maxRecDepth 100000
theorem G8 (v:List UInt8) (rest:List UInt8) (hr:rest=[]∨∃ c t,rest=c::t∧(c=44∨c=43)):∀ (s b:List UInt8) (bl:Bool),b++s=v→(s=[]→bl=false)→dx b bl (wrL v.length b.length s++rest)=some (v,rest,true)
 | [],b,bl,e,h=>by
   rw [List.append_nil] at e
   subst e
   simp only [wrL,List.nil_append]
   rw [h rfl]
   rcases hr with rfl|⟨c,t,rfl,hc⟩
   · exact fX
   · exact gR hc
 | c::s,b,bl,e,h=>by
   have ih:=fun bl' (h':s=[]→bl'=false)=>G8 v rest hr s (b++[c]) bl' (by rw [← e];simp) h'
   have hbl:(b++[c]).length=b.length+1:=by simp
   rw [hbl] at ih
   have hvl:v.length=b.length+s.length+1:=by rw [← e];simp;omega
   rw [wrL,List.append_assoc]
   unfold wrB
   split
   · rename_i hc
     subst hc
     show dx b bl (92::48::48::(wrL v.length (b.length+1) s++rest))=_
     rw [rq (by decide)]
     exact ih false (fun _=>rfl)
   · rename_i hc
     split
     · rename_i h2
       show dx b bl (92::c::(wrL v.length (b.length+1) s++rest))=_
       rw [kb]
       · exact ih false (fun _=>rfl)
       · rcases h2 with ⟨_,rfl|rfl⟩|⟨_,rfl⟩|h2
         · decide
         · decide
         · decide
         · simp only [List.mem_cons,List.not_mem_nil,or_false] at h2 ⊢
           rcases h2 with rfl|rfl|rfl|rfl|rfl|rfl|rfl<;>decide
     · rename_i h2
       show dx b bl (c::(wrL v.length (b.length+1) s++rest))=_
       have h5:¬ c∈([34,43,44,59,60,62,92]:List UInt8):=fun q=>h2 (.inr (.inr q))
       simp only [List.mem_cons,List.not_mem_nil,or_false,not_or] at h5
       rw [fG (fun q=>q.elim (fun q=>h5.2.2.1 q) (fun q=>h5.2.1 q)) (fun q=>h5.2.2.2.2.2.2 q)]
       rw [if_neg]
       · refine ih _ (fun hs=>?_)
         rw [decide_eq_false_iff_not]
         intro q
         refine h2 (.inr (.inl ⟨?_,q⟩))
         rw [hvl,hs];simp
       · rintro (q|q|⟨q1,q2⟩)
         · exact hc q
         · simp only [List.mem_cons,List.not_mem_nil,or_false] at q
           rcases q with q|q|q|q
           · exact h5.1 q
           · exact h5.2.2.2.1 q
           · exact h5.2.2.2.2.1 q
           · exact h5.2.2.2.2.2.1 q
         · exact h2 (.inl ⟨by rw [q1];rfl,q2⟩)
theorem x5 (v:List UInt8) {rest:List UInt8} (hr:rest=[]∨∃ c t,rest=c::t∧(c=44∨c=43)):dx [] false (ft v++rest)=some (v,rest,true) :=
 G8 v rest hr v [] false rfl (fun _=>rfl)
theorem FT:∀ (t r:List UInt8),(∀ c∈t,c≠61)→fj (t++61::r)=some (t,r)
 | [],r,_=>by simp [fj]
 | c::t,r,h=>by
   rw [List.cons_append,fj,if_neg (h c (by simp)),FT t r (fun x hx=>h x (by simp [hx]))]
theorem IX {t:List UInt8} (h:gl t=true):∀ c∈t,c≠61:=by
 intro c hc e
 simp only [gl,Bool.and_eq_true,List.all_eq_true] at h
 have:=h.2 c hc
 rw [e] at this
 exact absurd this (by decide)
theorem FF (x sep:List UInt8) (xs:List (List UInt8)):Lib.join (x::xs) sep=x++xs.flatMap (fun y=>sep++y):=by
 induction xs generalizing x with
 | nil=>simp [Lib.join,List.intercalate]
 | cons y l ih =>
   have e:Lib.join (x::y::l) sep=x++(sep++Lib.join (y::l) sep):=by simp [Lib.join,List.intercalate]
   rw [e,ih]
   simp
def fR (t:Rdn):List UInt8:=t.flatMap fun a=>43::avT false a
def fH (d:List Rdn):List UInt8:=d.flatMap fun r=>44::eu false r
theorem DX (a:Ava) (t:Rdn):eu false (a::t)=avT false a++fR t:=by
 simp only [eu,Bool.false_eq_true,if_false,List.map_cons,FF,fR]
 simp [List.flatMap_map]
theorem HP (r:Rdn) (d:List Rdn):fp false (r::d)=eu false r++fH d:=by
 simp only [fp,List.map_cons,FF,fH]
 simp [List.flatMap_map]
theorem CU:∀ (f:Nat) (out:List Rdn) (now:Rdn) (a:Ava) (t:Rdn) (d:List Rdn),(avT false a++(fR t++fH d)).length<f→out.length<32→du now (a::t)=0→iN (out.length+1) d=0 →
   iM f out now (avT false a++(fR t++fH d))=(out++[now++a::t]++d,0)
 | 0,_,_,_,_,_,h,_,_,_=>by omega
 | f+1,out,now,(ty,v),t,d,hf,ho,hc,hd=>by
   unfold du at hc
   split at hc
   · cases hc
   rename_i hn8
   split at hc
   · cases hc
   rename_i hty
   split at hc
   · cases hc
   rename_i hha
   simp only [Bool.not_eq_false] at hty
   have e1:avT false (ty,v)++(fR t++fH d)=ty++61::(ft v++(fR t++fH d)):=by simp [avT]
   rw [e1] at hf ⊢
   rw [iM,if_neg (by omega),FT _ _ (IX hty)]
   simp only
   rw [if_neg (by simp [hty]),if_neg hha]
   rcases t with _|⟨a2,t⟩
   · rcases d with _|⟨r,d⟩
     · rw [show fR []++fH []=([]:List UInt8) from rfl]
       rw [x5 v (.inl rfl)]
       simp
     · rw [show fR []++fH (r::d)=44::(eu false r++fH d) by simp [fR,fH]] at hf ⊢
       rw [x5 v (.inr ⟨44,_,rfl,.inl rfl⟩)]
       simp only [Bool.true_eq_false,if_false,if_true]
       unfold iN at hd
       split at hd
       · cases hd
       rename_i h32
       split at hd
       · cases hd
       rename_i hr0
       split at hd
       · rename_i h5;exact absurd hd h5
       rename_i h5
       simp only [ne_eq,Decidable.not_not] at h5
       rcases r with _|⟨a2,t⟩
       · exact absurd rfl hr0
       have ih:=CU f (out++[now++[(ty,v)]]) [] a2 t d
       rw [DX,List.append_assoc] at hf ⊢
       rw [ih (by simp only [List.length_append,List.length_cons] at hf ⊢;omega) (by simp;omega) h5 (by simpa using hd)]
       simp
   · rw [show fR (a2::t)++fH d=43::(avT false a2++(fR t++fH d)) by simp [fR]] at hf ⊢
     rw [x5 v (.inr ⟨43,_,rfl,.inr rfl⟩)]
     simp only [Bool.true_eq_false,if_false,show ¬ ((43:UInt8)=44) by decide]
     have ih:=CU f out (now++[(ty,v)]) a2 t d
     rw [ih (by simp only [List.length_append,List.length_cons] at hf ⊢;omega) ho hc hd]
     simp
theorem Jn {d:List Rdn} (h:iN 0 d=0) (hl:(fp false d).length≤4096):c8 (fp false d)=(d,0):=by
 unfold c8
 rw [if_neg (by omega)]
 rcases d with _|⟨r,d⟩
 · simp [fp,Lib.join]
 unfold iN at h
 split at h
 · cases h
 split at h
 · cases h
 rename_i hr0
 split at h
 · rename_i h5;exact absurd h h5
 rename_i h5
 simp only [ne_eq,Decidable.not_not] at h5
 rcases r with _|⟨a,t⟩
 · exact absurd rfl hr0
 rw [HP,DX,List.append_assoc]
 rw [if_neg (by simp [avT])]
 have:=CU ((avT false a++(fR t++fH d)).length+1) [] [] a t d (by omega) (by simp) h5 h
 rw [this]
 simp
end Go.Proofs.YtgpnbkdcdmfgcaaGreat.Av
