/- Joined texts of the walk, made small by a program. -/
import Derived.Test.YtolfghcbbpcciaaGreatDoorGQ4
import Derived.Test.YtolfghcbbpcciaaGreatDoorGE4
import Derived.Test.YtolfghcbbpcciaaGreatDoorGR3
set_option linter.unusedSimpArgs false
set_option linter.unusedVariables false
namespace Go.Proofs.YtolfghcbbpcciaaGreatDoor.Av
open Go
variable {L:List Blk} {K:AV→List Blk→Prop}
set_option maxHeartbeats 8000000
set_option maxRecDepth 100000
theorem Od {fs:List Int} {a b:Int} {cap cap':Option Nat} (hn:(fs.length:Int)≤4611686018427387904) (h:K (.bool true) L) :
   ao Tryz.prog 9 [.agg [.sl (bc fs) fs.length cap,.int .i64 a,.int .i64 b],.agg [.sl (bc fs) fs.length cap',.int .i64 a,.int .i64 b]] L K:=by
 replace h:=hid h
 refine ag J9 (by simp [p6]) ?_
 simp only [p6,aN]
 refine wk ?_
 refine aI (fun m T' L'=>∃ (k:Nat),m=fs.length - k∧k≤fs.length∧T'=[(30,.int .i64 (k:Int)),(29,.int .i64 fs.length),(3,.ptr (L.length+1) 0),(2,.ptr L.length 0)] ∧
   L'=L++[.cells [.sl (bc fs) fs.length cap,.int .i64 a,.int .i64 b],.cells [.sl (bc fs) fs.length cap',.int .i64 a,.int .i64 b]]) (CutS (b:=by simp)) ⟨0,rfl,Nat.zero_le _,rfl,rfl⟩ ?_
 rintro _ _ _ ⟨k,rfl,hk,rfl,rfl⟩
 by_cases hlt:k<fs.length
 · have g1:(k:Int)<(fs.length:Int):=by omega
   have g2:IntKind.i64.wrap ((k:Int)+1)=(k:Int)+1:=ac (by omega) (by omega)
   have h4:(fs.map (AV.int .i64)).getD k .undef=.int .i64 (fs.getD k 0):=by simp [hlt]
   obtain ⟨x,hx⟩:∃ x,fs.getD k 0=x:=⟨_,rfl⟩
   rw [hx] at h4
   clear hx
   refine wk ?_
   exact az _ _ _ (by omega) (CutL (b:=by simp)) ⟨k+1,rfl,hlt,rfl,rfl⟩
 · have hke:k=fs.length:=by omega
   subst hke
   have g1:¬ (fs.length:Int)<(fs.length:Int):=by omega
   refine wk ?_
   exact aa rfl h.out
end Go.Proofs.YtolfghcbbpcciaaGreatDoor.Av
