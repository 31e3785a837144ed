/- Joined texts of the walk, made small by a program. -/
import Derived.Test.YtohflefnbajajaaGreatDoorVE9
set_option linter.unusedSimpArgs false
set_option linter.unusedVariables false
namespace Go.Proofs.YtohflefnbajajaaGreatDoor.Av
open Go
set_option maxHeartbeats 8000000
set_option maxRecDepth 100000
theorem NM {ts:List Typ} {B C:Nat}:∀ {ms:List Mdf} {l:List Atr},(∀ a∈l,a.2.length≤B)→(∀ m∈ms,m.2.2.length≤C)→(aby ts l ms).1.length≤l.length+ms.length∧∀ a∈(aby ts l ms).1,a.2.length≤B+C * ms.length
 | [],l,h,_=>by rw [aby];exact ⟨Nat.le_refl _,by simpa using h⟩
 | m::ms,l,h,hm=>by
   rw [aby]
   split
   · exact ⟨by simp,fun a ha=>by cases ha⟩
   · obtain ⟨h1,h2⟩:=Nv (ts:=ts) (m:=m) h
     have h3:=hm m (by simp)
     have:=@NM ts (B+C) C ms (ZW ts l m).1 (fun a ha=>by have:=h2 a ha;omega) (fun x hx=>hm x (by simp [hx]))
     rw [List.length_cons,Nat.mul_add_one]
     refine ⟨by have:=this.1;omega,fun a ha=>?_⟩
     have:=this.2 a ha
     omega
end Go.Proofs.YtohflefnbajajaaGreatDoor.Av
