/- Joined texts of the walk, made small by a program. -/
import Derived.Test.YtohflefnbajajaaGreatDoorVE6
import Derived.Test.YtohflefnbajajaaGreatDoorVE7
import Derived.Test.YtohflefnbajajaaGreatDoorVE4
import Derived.Test.YtohflefnbajajaaGreatDoorVE1
set_option linter.unusedSimpArgs false
set_option linter.unusedVariables false
namespace Go.Proofs.YtohflefnbajajaaGreatDoor.Av
open Go
set_option maxHeartbeats 8000000
set_option maxRecDepth 100000
def NZ (ms:List Mdf):Prop:=ms.length≤2000000∧∀ m∈ms,a6 m.2.1∧m.2.2.length≤2000000
def NP (m:Mdf):Atr:=([],m.2.2)
def NU (ms:List Mdf):Bool:=Pt ((ms.take 61).map NP)
theorem NL {ms:List Mdf} (h:NU ms=true):ms.length≤60∧∀ m∈ms,m.2.2.length≤60:=by
 obtain ⟨h1,h2⟩:=Tg h
 have h3:ms.length≤60:=by
   simp only [List.length_map,List.length_take] at h1
   omega
 refine ⟨h3,fun m hm=>?_⟩
 have:=(h2 (NP m) (List.mem_map.2 ⟨m,by rw [List.take_of_length_le (by omega)];exact hm,rfl⟩)).1
 exact this
theorem NH:∀ (ms:List Mdf) (k:Nat),(bS ms).take (k * 3)=bS (ms.take k)
 | [],k=>by simp [bS]
 | a::l,0=>by simp [bS]
 | a::l,k+1=>by
   have ih:=NH l k
   rw [show (k+1) * 3=k * 3+1+1+1 by omega]
   simpa [bS,mdC] using ih
theorem NT {ms:List Mdf} {cap:Option Nat} (hm:NZ ms) {L:List Blk} {K:AV→List Blk→Prop} (h:K (.bool (NU ms)) L) :
   af Tryz.prog 21 [.sl (bS ms) ms.length cap] L K:=by
 obtain ⟨z,hz⟩:∃ z,z=min ms.length 61:=⟨_,rfl⟩
 have hzl:z≤ms.length∧z≤61:=by omega
 have hz1:ms.take 61=ms.take z:=by
   rw [hz]
   rcases Nat.le_total ms.length 61 with e|e
   · rw [Nat.min_eq_left e,List.take_of_length_le e,List.take_of_length_le (Nat.le_refl _)]
   · rw [Nat.min_eq_right e]
 have hl:=hm.1
 have g0:(if (61:Int)<(ms.length:Int) then (61:Int) else (ms.length:Int)).toNat=z:=by split<;>omega
 obtain ⟨ns,hns⟩:∃ ns,ms.take z=ns:=⟨_,rfl⟩
 have hnl:ns.length=z:=by rw [← hns];simp;omega
 have g1:List.take (z * 3) (bS ms)=bS ns:=by rw [NH,hns]
 have hnm:∀ m∈ns,m.2.2.length≤2000000:=fun m hm'=>(hm.2 m (by rw [← hns] at hm';exact List.mem_of_mem_take hm')).2
 have hfe:NU ms=Pt (ns.map NP):=by rw [NU,hz1,hns]
 rw [hfe] at h
 replace h:=hid h
 replace hnm:=hid hnm
 obtain ⟨hz2,hz3⟩:=hzl
 clear hz hz1 hns hfe
 refine ai aa4 (by simp [aa5]) ?_
 simp only [aa5,ar]
 refine wk ?_
 clear g0 g1
 refine dr (l:=[]) (n:=0) 3 2 rfl (Nat.zero_mul 2).symm ?_
 refine am (fun m T' L'=>∃ (k:Nat) (C:List AV) (X:List Blk),m=z - k∧k≤z∧Hid (C=a7 ((ns.take k).map NP))∧T'=[(12,.int .i64 (k:Int)),(11,.int .i64 (z:Int)),(10,.sl (bS ns) z (cap.map fun x=>x)),(3,.gsl C k L.length 2)]∧L'=L++(.spare k 2::X)) (CutS (b:=by simp)) ⟨0,[],[],rfl,Nat.zero_le _,hid rfl,rfl,rfl⟩ ?_
 rintro _ _ _ ⟨k,C,X,rfl,hk,hC,rfl,rfl⟩
 by_cases hlt:k<z
 · have g1:(k:Int)<(z:Int):=by omega
   have g2:IntKind.i64.wrap ((k:Int)+1)=(k:Int)+1:=ab (by omega) (by omega)
   have e3:=Jc (ms:=ns) (k:=k) (by omega)
   have e4:k * 3+3≤(bS ns).length:=by rw [I1];omega
   obtain ⟨⟨o,nm,vs⟩,ha⟩:∃ a,ns.getD k noM=a:=⟨_,rfl⟩
   have hvs:=hnm.out (o,nm,vs) (by rw [← ha];simp [show k<ns.length by omega])
   simp only at hvs
   have htk:a7 ((ns.take (k+1)).map NP)=a7 ((ns.take k).map NP)++[.str [],.sl (vs.map AV.str) vs.length none]:=by
     rw [List.take_succ_eq_append_getElem (show k<ns.length by omega),List.map_append,CK,show ns[k]'(by omega)=(o,nm,vs) by rw [← ha];simp [show k<ns.length by omega]]
     rfl
   rw [ha] at e3
   simp only [mdC] at e3
   have e0:AV.frzL (vs.map AV.str)=vs.map AV.str:=eK vs
   have hC2:C++[.str [],.sl (vs.map AV.str) vs.length none]=a7 ((ns.take (k+1)).map NP):=by rw [htk,hC.out]
   replace hC2:=hid hC2
   replace hnl:=hid hnl
   clear ha htk hC
   refine wk ?_
   exact aj _ _ _ (by omega) (CutL (b:=by simp)) ⟨k+1,_,_,rfl,hlt,hC2,rfl,rfl⟩
 · have hke:k=z:=by omega
   subst hke
   have g1:¬ (k:Int)<(k:Int):=by omega
   have hC2:=hC.out
   rw [List.take_of_length_le (by omega)] at hC2
   replace hC2:=hid hC2
   replace hnl:=hid hnl
   clear hC
   refine wk ?_
   refine xM ?_
   simp only [AV.frzL,AV.frz]
   rw [hC2.out,CJ,show k=(ns.map NP).length by rw [List.length_map];exact hnl.out.symm]
   refine Vt (by have:=hnl.out;simp;omega) (fun a ha=>?_) ?_
   · obtain ⟨m,hm',rfl⟩:=List.mem_map.1 ha
     exact hnm.out m hm'
   refine sk ?_
   refine wk ?_
   exact ad rfl h.out
set_option maxHeartbeats 8000000
set_option maxRecDepth 100000
theorem Oe:RdU Tryz.prog 56 mdC (fun m=>a6 m.2.1∧m.2.2.length≤1048576) :=
 (oJ Tryz.underlying56 (N:=3) (by kernel_rfl) (dh (sz:=1) rfl (by kernel_rfl) (Rd.u (Nl Tryz.underlying3)) (dh (sz:=1) rfl (by kernel_rfl) (AY Tryz.underlying9) (dh (sz:=1) rfl (by kernel_rfl) HJ (AZ rfl))))).map
   fun y hy=>⟨(y.1,y.2.1,y.2.2.1),⟨rch hy.2.1,hy.2.2.1.1⟩,rfl⟩
theorem Od:RdU Tryz.prog 42 (fun l=>[.sl (bS l) l.length none]) NZ :=
 (xv Tryz.underlying42 Oe (by kernel_rfl)).map fun l hl=>⟨l,⟨by have:=hl.1;omega,fun a ha=>⟨(hl.2 a ha).1,by have:=(hl.2 a ha).2;omega⟩⟩,rfl⟩
abbrev csA (x:List Atr×List Mdf):List AV:=[.sl (a7 x.1) x.1.length none,.sl (bS x.2) x.2.length none]
theorem NK:RdU Tryz.prog 45 csA (fun x=>VL x.1∧NZ x.2) :=
 (oJ Tryz.underlying45 (N:=2) (by kernel_rfl) (dh (sz:=1) rfl (by kernel_rfl) Ug (dh (sz:=1) rfl (by kernel_rfl) Od (AZ rfl)))).map
   fun y hy=>⟨(y.1,y.2.1),⟨hy.1,hy.2.1⟩,rfl⟩
end Go.Proofs.YtohflefnbajajaaGreatDoor.Av
