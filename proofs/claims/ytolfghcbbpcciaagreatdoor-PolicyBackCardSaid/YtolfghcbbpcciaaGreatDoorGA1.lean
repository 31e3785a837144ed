/- Joined texts of the walk, made small by a program. -/
import Derived.Test.YtolfghcbbpcciaaGreatDoorGP5
import Derived.Test.YtolfghcbbpcciaaGreatDoorGP4
set_option linter.unusedSimpArgs false
set_option linter.unusedVariables false
namespace Go.Proofs.YtolfghcbbpcciaaGreatDoor.Av
open Go
set_option maxHeartbeats 8000000
set_option maxRecDepth 100000
abbrev Atr:=List UInt8×List (List UInt8)
theorem fM (p:Nat→Bool) (xs:List (List UInt8)):AV.refsL p (xs.map AV.str)=true:=AV.refsL_iff.2 fun a ha=>by
 obtain ⟨x,_,rfl⟩:=List.mem_map.1 ha
 rfl
theorem S6 (xs:List (List UInt8)):(xs.map AV.str).all AV.one=true:=by
 rw [List.all_eq_true]
 intro a ha
 obtain ⟨x,_,rfl⟩:=List.mem_map.1 ha
 rfl
abbrev atA (a:Atr):List AV:=[.str a.1,.sl (a.2.map AV.str) a.2.length none]
def be (l:List Atr):List AV:=l.flatMap atA
theorem Df (a:Atr) (l:List Atr):be (a::l)=.str a.1 :: .sl (a.2.map AV.str) a.2.length none::be l:=rfl
theorem Md (l m:List Atr):be (l++m)=be l++be m:=by simp [be]
theorem jL (l:List Atr):(be l).length=l.length * 2:=by
 induction l with
 | nil=>rfl
 | cons a l ih=>rw [Df];simp only [List.length_cons];omega
theorem fq (p:Nat→Bool):∀ l:List Atr,AV.refsL p (be l)=true
 | []=>rfl
 | a::l=>by rw [Df];simp [AV.refsL,AV.refs,fM,fq p l]
theorem gj (l:List (List UInt8)):AV.frzL (l.map AV.str)=l.map AV.str:=by rw [AV.frzL_eq,List.map_map];rfl
theorem ee:∀ l:List Atr,AV.frzL (be l)=be l
 | []=>rfl
 | a::l=>by rw [Df];simp only [AV.frzL,AV.frz,gj,ee l]
theorem kQ:∀ {l:List Atr} {k:Nat},k<l.length→((be l).drop (k * 2)).take 2=atA (l.getD k ([],[]))
 | a::l,0,_=>rfl
 | a::l,k+1,h=>by
   have ih:=@kQ l k (by simpa using h)
   rw [show (k+1) * 2=k * 2+1+1 by omega,Df]
   simpa using ih
abbrev FN (l:List (List UInt8)):AV:=.sl (l.map AV.str) l.length none
theorem Uc {l:List Atr} {k:Nat} (hk:k<l.length):(be l).getD (k * 2+1) .undef=FN (l.getD k ([],[])).2:=by
 have h2:=congrArg (fun l=>l[1]?) (kQ hk)
 simp only [List.getElem?_take_of_lt (show 1<2 by omega),List.getElem?_drop] at h2
 rw [List.getD_eq_getElem?_getD,h2]
 rfl
end Go.Proofs.YtolfghcbbpcciaaGreatDoor.Av
