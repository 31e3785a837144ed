/- Joined texts of the walk, made small by a program. -/
import Derived.Test.YtgpnbkdcdmfgcaaGreatXC3
import Derived.Test.YtgpnbkdcdmfgcaaGreatXC4
import Derived.Test.YtgpnbkdcdmfgcaaGreatXP5
set_option linter.unusedSimpArgs false
set_option linter.unusedVariables false
namespace Go.Proofs.YtgpnbkdcdmfgcaaGreat.Av
open Go
set_option maxHeartbeats 8000000
set_option maxRecDepth 100000
theorem L7 {u:Upd} (h:Eo u):Eo (dE u):=by
 refine ⟨h.1,?_,?_,?_⟩
 · simp only [dE];split
   · exact h.2.1
   · exact ⟨by simp,by simp⟩
 · simp only [dE];split
   · simp
   · exact h.2.2.1
 · simp only [dE];split
   · simp
   · exact h.2.2.2
theorem My {s:List UInt8} {x:Upd} {e:Int} (hs:s.length≤1100000) (h:rdU s=(x,e)):Eo x:=by
 have hno:Eo uN:=⟨⟨by simp,by simp⟩,⟨by simp,by simp⟩,by simp,by simp⟩
 unfold rdU at h
 split at h
 · simp only [Prod.mk.injEq] at h;rw [← h.1];exact hno
 rename_i n hw
 split at h
 · simp only [Prod.mk.injEq] at h;rw [← h.1];exact hno
 rename_i u hy
 split at h
 · simp only [Prod.mk.injEq] at h;rw [← h.1];exact hno
 · simp only [Prod.mk.injEq] at h
   rw [← h.1]
   obtain ⟨hd,ht,hu⟩:=Et hs hw hy
   exact L7 ⟨hd,ht,by have:=hu.1;omega,fun a ha=>by have:=(hu.2 a ha).2.1;omega⟩
structure MJ (u:Upd):Prop where
 dn:u.dn.length≤1048576∧∀ r∈u.dn,r.length≤1048576∧∀ a∈r,a.1.length≤1048576
 to:u.to.length≤1048576∧∀ r∈u.to,r.length≤1048576∧∀ a∈r,a.1.length≤1048576
 attrs:u.attrs.length≤1048576∧∀ a∈u.attrs,a.1.length≤1048576∧a.2.length≤1048576∧∀ v∈a.2,v.length≤1048576
theorem MJ.b {u:Upd} (h:MJ u):dnB u.dn∧dnB u.to∧rr u∧Eo u∧MX u:=by
 have a1:dnB u.dn:=⟨by have:=h.dn.1;omega,fun r hr=>by have:=(h.dn.2 r hr).1;omega⟩
 have a2:dnB u.to:=⟨by have:=h.to.1;omega,fun r hr=>by have:=(h.to.2 r hr).1;omega⟩
 refine ⟨a1,a2,⟨by have:=h.attrs.1;omega,fun a ha=>?_⟩,⟨a1,a2,by have:=h.attrs.1;omega,fun a ha=>by have:=(h.attrs.2 a ha).2.1;omega⟩,⟨⟨?_,?_⟩,?_⟩,⟨⟨?_,?_⟩,?_⟩,?_,?_⟩
 · obtain ⟨b1,b2,b3⟩:=h.attrs.2 a ha
   exact ⟨by omega,by omega,fun v hv=>by have:=b3 v hv;omega⟩
 · have:=h.dn.1;omega
 · intro r hr;have:=(h.dn.2 r hr).1;omega
 · intro r hr a ha;have:=(h.dn.2 r hr).2 a ha;omega
 · have:=h.to.1;omega
 · intro r hr;have:=(h.to.2 r hr).1;omega
 · intro r hr a ha;have:=(h.to.2 r hr).2 a ha;omega
 · have:=h.attrs.1;omega
 · intro a ha
   obtain ⟨b1,b2,b3⟩:=h.attrs.2 a ha
   exact ⟨by omega,by omega⟩
end Go.Proofs.YtgpnbkdcdmfgcaaGreat.Av
