/- Joined texts of the walk, made small by a program. -/
import Derived.Test.YtdhjplmjpjfjnaaGreatHO1
import Derived.Test.YtdhjplmjpjfjnaaGreatHP5
set_option linter.unusedSimpArgs false
set_option linter.unusedVariables false
namespace Go.Proofs.YtdhjplmjpjfjnaaGreat.Av
open Go
variable {L:List Blk} {K:AV→List Blk→Prop}
set_option maxHeartbeats 8000000
set_option maxRecDepth 100000
def sa (l:List UInt8):Bool:=l.any fun c=>c != 32
def xY (t:List UInt8) (k:Nat):List UInt8:=if sa (t.drop k)=true then bm (t.take k) else cF (bm (t.take k))
theorem Fh {t:List UInt8} {k:Nat} (h:k<t.length):t.drop k=t.getD k 0::t.drop (k+1):=by
 rw [List.drop_eq_getElem_cons h,List.getD_eq_getElem?_getD,List.getElem?_eq_getElem h];rfl
theorem DK (c:UInt8) (l:List UInt8):sa (c::l)=(c != 32 || sa l):=rfl
theorem fJ (b:List UInt8) (c:UInt8):cF (b++[c])=if c=32 then b else b++[c]:=by simp [cF]
theorem DE (t:List UInt8):∀ k,k≤t.length→bm (t.take k)≠[]→(sb (bm (t.take k))=true↔t.getD (k - 1) 0=32)
 | 0,_,h=>by simp [bm] at h
 | k+1,hk,h=>by
   have ih:=DE t k (by omega)
   rw [pX (show k<t.length by omega)] at h ⊢
   rw [show k+1 - 1=k by omega]
   unfold aI at h ⊢
   split
   · rename_i e;exact ⟨fun _=>e.1,fun _=>e.2⟩
   · simp [sb]
theorem Jb {t:List UInt8} {k:Nat} (h:k<t.length):xY t (k+1) =
   if sa (t.drop k)=false∨(t.getD k 0=32∧(xY t k=[]∨t.getD (k - 1) 0=32)) then xY t k else xY t k++[t.getD k 0]:=by
 have hd:=Fh h
 have hl:=DE t k (by omega)
 unfold xY
 rw [pX h,hd,DK]
 obtain ⟨c,hc⟩:∃ c,t.getD k 0=c:=⟨_,rfl⟩
 obtain ⟨p,hp⟩:∃ p,bm (t.take k)=p:=⟨_,rfl⟩
 rw [hc];rw [hp] at hl ⊢
 have he:p=[]→sb p=true:=fun e=>by rw [e];rfl
 by_cases h32:c=32
 · subst h32
   by_cases hn:sa (t.drop (k+1))=true
   · simp only [hn,bne_self_eq_false,Bool.false_or,if_true,aI,true_and,Bool.true_eq_false,false_or]
     by_cases hp0:p=[]
     · simp [hp0,sb]
     · simp [hp0,hl hp0]
   · have hn':sa (t.drop (k+1))=false:=by simpa using hn
     simp only [hn',bne_self_eq_false,Bool.false_or,Bool.false_eq_true,if_false,true_or,if_true]
     unfold aI
     split
     · rfl
     · rename_i e
       rw [fJ,if_pos rfl]
       unfold cF
       rw [if_neg]
       intro e2
       exact e ⟨rfl,by simp [sb,e2]⟩
 · have hb:(c != 32)=true:=by simpa using h32
   simp only [hb,Bool.true_or,if_true,h32,false_and,or_false,Bool.true_eq_false,if_false]
   have:aI p c=p++[c]:=by rw [aI,if_neg fun e=>h32 e.1]
   rw [this,fJ,if_neg h32]
   split<;>rfl
theorem Ja (t:List UInt8):xY t 0=[]:=by unfold xY;split<;>simp [bm,cF]
theorem Kr (t:List UInt8):xY t t.length=cF (bm t):=by simp [xY,sa]
theorem Kq (t:List UInt8) (k:Nat):(xY t k).length≤k:=by
 have:=lH t k
 unfold xY;split
 · exact this
 · unfold cF;split
   · simp;omega
   · exact this
theorem CZ {s:List UInt8} (hs:(s.length:Int)≤100000) (h:K (.str (bj s)) L):ab Tryz.prog 81 [.str s] L K:=by
 replace h:=hid h
 refine aa CN (by simp [qm]) ?_
 simp only [qm,am]
 obtain ⟨t,ht⟩:∃ t,aD s=t:=⟨_,rfl⟩
 have htl:(t.length:Int)≤100000:=by rw [← ht];simpa [aD] using hs
 have hfin:=hid (show xY t t.length=bj s by rw [Kr,bj,ht])
 have kk1:=@hid _ (fun L K=>lC hs (L:=L) (K:=K))
 refine wk ?_
 refine cq (l:=[]) (n:=0) 4 1 rfl (Nat.zero_mul 1).symm ?_
 refine ax (fun n T' L'=>∃ (k:Nat) (b:List UInt8) (v:List AV) (m:Nat),n=t.length - k∧k≤t.length∧b=xY t k∧v=u8s b∧m=b.length∧T'=[(5,.int .i64 (k:Int)),(4,.gsl v m L.length 1),(3,.str t),(2,.str [])]∧L'=L++[.spare m 1]) (CutS (b:=by simp)) ⟨0,[],[],0,rfl,Nat.zero_le _,(Ja t).symm,rfl,rfl,rfl,rfl⟩ ?_
 rintro _ _ _ ⟨k,b,v,m,rfl,hk,hb,rfl,rfl,rfl,rfl⟩
 replace hb:=hid hb
 by_cases hlt:k<t.length
 · have h1:(k:Int)<(t.length:Int):=by omega
   have h2:IntKind.i64.wrap ((k:Int)+1)=(k:Int)+1:=ah (by omega) (by omega)
   refine wk ?_
   have hbl:b.length≤k:=by rw [hb.out];exact Kq t k
   have hub:(u8s b).length=b.length:=by simp [u8s]
   have hsucc:=hid (Jb hlt)
   refine ax (fun n T' L'=>∃ (j:Nat) (later:Bool),n=t.length - j∧j≤t.length∧(later=true→sa (t.drop k)=true)∧(later=false→sa (t.drop k)=sa (t.drop j))∧T'=[(7,.int .i64 (j:Int)),(6,.bool later),(5,.int .i64 (k:Int)),(4,.gsl (u8s b) b.length L.length 1),(3,.str t),(2,.str [])]∧L'=L++[.spare b.length 1]) (CutS (b:=by simp)) ⟨k,false,rfl,by omega,(by simp),(by simp),rfl,rfl⟩ ?_
   rintro _ _ _ ⟨j,later,rfl,hj,hla,hlb,rfl,rfl⟩
   replace hla:=hid hla
   replace hlb:=hid hlb
   obtain ⟨c,hc⟩:∃ c,t.getD k 0=c:=⟨_,rfl⟩
   rw [hc] at hsucc
   have hc':((t[k]?.getD 0))=c:=by rw [← hc,List.getD_eq_getElem?_getD]
   cases later
   · by_cases hjl:j<t.length
     · have g1:(j:Int)<(t.length:Int):=by omega
       have g2:IntKind.i64.wrap ((j:Int)+1)=(j:Int)+1:=ah (by omega) (by omega)
       have hd:=hid (Fh hjl)
       obtain ⟨x,hx⟩:∃ x,t.getD j 0=x:=⟨_,rfl⟩
       rw [hx] at hd
       refine wk ?_
       have hx32:(x != 32) = !decide ((x.toNat:Int)=32):=by
         have:(x.toNat:Int)=32↔x=32:=⟨fun h=>UInt8.toNat_inj.1 (by have:(32:UInt8).toNat=32:=rfl;omega),fun h=>by rw [h];rfl⟩
         by_cases h:x=32<;>simp [h,this]
       have hnb:=hlb.out rfl
       rw [hd.out,DK,hx32] at hnb
       refine ay _ _ _ (by omega) (CutL (b:=by simp)) ⟨j+1, !decide ((x.toNat:Int)=32),rfl,hjl,fun e=>by rw [hnb,e];rfl,fun e=>by rw [hnb,e];rfl,rfl,rfl⟩
     · have g1:¬ (j:Int)<(t.length:Int):=by omega
       have hn:sa (t.drop k)=false:=by rw [hlb.out rfl,List.drop_eq_nil_of_le (by omega)];rfl
       replace hsucc:=hid (show xY t (k+1)=b by rw [hsucc.out,if_pos (.inl hn),hb.out])
       refine wk ?_
       exact ay _ _ _ (by omega) (CutL (b:=by simp)) ⟨k+1,b,_,b.length,rfl,hlt,hsucc.out.symm,rfl,rfl,rfl,rfl⟩
   · have hn:sa (t.drop k)=true:=hla.out rfl
     have hs2:=hsucc.out
     rw [hn] at hs2
     simp only [Bool.true_eq_false,false_or,← hb.out] at hs2
     replace hs2:=hid hs2
     have g6:b.length≠0→(1:Int)≤(k:Int):=fun h=>by omega
     replace g6:=hid g6
     have g7:=hid fun h:1≤k=>show IntKind.i64.wrap ((k:Int) - 1)=(k:Int) - 1 from ah (by omega) (by omega)
     have u32:∀ x:UInt8,(x.toNat:Int)=32↔x=32:=fun x=>⟨fun h=>UInt8.toNat_inj.1 (by have:(32:UInt8).toNat=32:=rfl;omega),fun h=>by rw [h];rfl⟩
     replace u32:=hid u32
     repeat' first
       | refine dT ?_
       | (first|refine cA (by kernel_rfl) ?_|refine bM (by kernel_rfl) ?_|refine bN ?_|refine fN ?_|refine ez (fun _=>?_)|refine bv ?_|refine cC ?_)
         refine sm ?_
       | (first|refine ct (by kernel_rfl) ?_|refine co ?_|refine cB ?_|refine eF (bu ?_))
         refine sl ?_
       | exact eA
       | first|apply eB|apply cu|apply eC|apply cv|apply eD|apply cw
       | refine bQ ?_
       | first|refine bO rfl ?_|refine bP rfl ?_|refine aX rfl ?_ ?_|refine bX rfl (fun _=>?_) (fun _=>?_)|refine bW rfl (fun _=>?_) (fun _=>?_)
       | ((first|refine aW (fun _=>?_) (fun _=>?_)|refine br (fun _=>?_) (fun _=>?_))<;>try refine sm ?_)
       | refine And.intro trivial ?_
       | refine And.intro (by omega) ?_
       | refine bR rfl (fun _=>?_) (fun _=>?_)
       | refine And.intro ?_ ?_
     · rename_i hz
       rw [g7.out (by omega)];omega
     · rename_i hz
       rw [g7.out (by omega)];omega
     · rename_i hq
       have hcond:c=32∧(b=[]∨t.getD (k - 1) 0=32):=by
         refine ⟨(u32.out c).1 hq.1,?_⟩
         rcases hq.2 with e|e
         · exact .inl (List.length_eq_zero_iff.1 (by omega))
         · by_cases hb0:b=[]
           · exact .inl hb0
           · have hk1:1≤k:=by have:=List.length_pos_iff.2 hb0;omega
             rw [g7.out hk1,show ((k:Int) - 1).toNat=k - 1 by omega] at e
             exact .inr ((u32.out _).1 e)
       exact ay _ _ _ (by omega) (CutL (b:=by simp)) ⟨k+1,b,_,b.length,rfl,hlt,by rw [hs2.out,if_pos hcond],rfl,rfl,rfl,rfl⟩
     · rename_i hq
       have hcond:¬ (c=32∧(b=[]∨t.getD (k - 1) 0=32)):=fun ⟨e1,e2⟩=>hq (by
         refine ⟨(u32.out c).2 e1,?_⟩
         by_cases hb0:b=[]
         · exact .inl (by rw [hb0];rfl)
         · have hk1:1≤k:=by have:=List.length_pos_iff.2 hb0;omega
           rcases e2 with e|e
           · exact absurd e hb0
           · refine .inr ?_
             rw [g7.out hk1,show ((k:Int) - 1).toNat=k - 1 by omega]
             exact (u32.out _).2 e)
       rw [show u8s b++[AV.int IntKind.u8 (c.toNat:Int)]=u8s (b++[c]) by simp [u8s]]
       exact ay _ _ _ (by omega) (CutL (b:=by simp)) ⟨k+1,b++[c],_,b.length+1,rfl,hlt,by rw [hs2.out,if_neg hcond],rfl,by simp,rfl,rfl⟩
 · have hke:k=t.length:=by omega
   subst hke
   have h1:¬ (t.length:Int)<(t.length:Int):=by omega
   have e1:=mO b
   have e2:=lI b
   have e3:=hid (show b=bj s by rw [hb.out,hfin.out])
   refine wk ?_
   refine ac rfl ?_
   rw [e3.out];exact h.out
end Go.Proofs.YtdhjplmjpjfjnaaGreat.Av
