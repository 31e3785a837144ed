/- Joined texts of the walk, made small by a program. -/
import Derived.Test.YtdhjplmjpjfjnaaGreatHTrL
set_option linter.unusedSimpArgs false
set_option linter.unusedVariables false
namespace Go.Proofs.YtdhjplmjpjfjnaaGreat.Av
open Go
variable {L:List Blk} {K:AV→List Blk→Prop}
set_option maxHeartbeats 8000000
set_option maxRecDepth 100000
theorem IE {d e z:List Rdn} {cap cap':Option Nat} {ne nd:Nat} (hz:e++d=z) (he:ne=e.length) (hdn:nd=d.length) (hn:z.length≤1100000) (hr:∀ r∈z,r.length≤1100000) (h:K (dnA z) L) :
   ab Tryz.prog 47 [.sl (d.map ao) nd cap,.sl (e.map ao) ne cap'] L K:=by
 subst he hdn
 replace h:=hid h
 have hat:=hid (fun k=>@ij z k)
 replace hr:=hid hr
 have kk1:Hid (Ctr Tryz.prog 74 [.sl [.sl (e.map ao) e.length cap',.sl (d.map ao) d.length cap] 2 (some 2)] (.sl (z.map ao) z.length none)):=@hid _ (by
   intro L K q
   refine pV ?_
   simp only [AV.frzL,AV.frz,bc]
   have:=@Fk [e.map ao,d.map ao] none (by simp) (by simp only [List.flatten_cons,List.flatten_nil,List.append_nil,← List.map_append,hz,List.length_map];exact hn) (fun l hl=>by
     rw [List.all_eq_true];intro a ha
     simp only [List.mem_cons,List.not_mem_nil,or_false] at hl
     rcases hl with rfl|rfl<;>(obtain ⟨r,_,rfl⟩:=List.mem_map.1 ha;rfl)) (fun p=>by simp only [List.flatten_cons,List.flatten_nil,List.append_nil,← List.map_append];exact fc p _) L K
   simp only [List.flatten_cons,List.flatten_nil,List.append_nil,← List.map_append,hz,List.map_cons,List.map_nil,List.length_map,List.length_nil,List.length_cons,Et] at this
   exact this q)
 clear hz
 refine aa zu (by simp [pT]) ?_
 simp only [pT,am]
 refine wk ?_
 refine cq (l:=[]) (n:=0) 5 1 rfl (Nat.zero_mul 1).symm ?_
 refine ax (fun m T' L'=>∃ (k:Nat) (C:List AV) (X:List Blk),m=z.length - k∧k≤z.length∧Hid (C=(z.take k).map ao)∧T'=[(13,.int .i64 (k:Int)),(12,.int .i64 z.length),(11,.sl (z.map ao) z.length none),(5,.gsl C k L.length 1)]∧L'=L++(.spare k 1::X)) (CutS (b:=by simp)) ⟨0,[],[],rfl,Nat.zero_le _,hid rfl,rfl,by simp⟩ ?_
 rintro _ _ _ ⟨k,C,X,rfl,hk,hC,rfl,rfl⟩
 by_cases hlt:k<z.length
 · have g1:(k:Int)<(z.length:Int):=by omega
   have g2:IntKind.i64.wrap ((k:Int)+1)=(k:Int)+1:=ah (by omega) (by omega)
   have e2:=hat.out k hlt
   have e3:k<(z.map ao).length:=by simpa using hlt
   obtain ⟨r,hri⟩:∃ r,z.getD k []=r:=⟨_,rfl⟩
   have hrl:=hr.out r (by rw [← hri];simp [hlt])
   have htk:(z.take (k+1)).map ao=C++[.sl (aL r) r.length none]:=by
     rw [hC.out,List.take_succ_eq_append_getElem hlt,List.map_append,show z[k]=r by rw [← hri];simp [hlt]];rfl
   rw [hri] at e2
   have e4:=iu r
   have e5:=bt r
   replace htk:=hid htk
   clear hri hC
   refine wk ?_
   exact ay _ _ _ (by omega) (CutL (b:=by simp)) ⟨k+1,_,_,rfl,hlt,hid htk.out.symm,rfl,rfl⟩
 · have hke:k=z.length:=by omega
   subst hke
   have g1:¬ (z.length:Int)<(z.length:Int):=by omega
   have hC2:=hC.out
   rw [List.take_length] at hC2
   subst hC2
   clear hC
   refine wk ?_
   refine cz ?_
   simp only [AV.frz,bc]
   exact ac (by simp only [AV.refs,fc]) h.out
end Go.Proofs.YtdhjplmjpjfjnaaGreat.Av
