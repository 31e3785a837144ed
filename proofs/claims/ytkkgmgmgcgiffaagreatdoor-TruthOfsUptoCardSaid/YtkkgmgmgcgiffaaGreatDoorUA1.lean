/- Joined texts of the walk, made small by a program. -/
import Derived.Test.YtkkgmgmgcgiffaaGreatDoorUP5
import Derived.Test.YtkkgmgmgcgiffaaGreatDoorUP4
import Derived.Test.YtkkgmgmgcgiffaaGreatDoorRows
import Derived.KernelRfl
set_option linter.unusedSimpArgs false
set_option linter.unusedVariables false
namespace Go.Proofs.YtkkgmgmgcgiffaaGreatDoor.Av
open Go
set_option maxHeartbeats 8000000
set_option maxRecDepth 100000
abbrev Atr:=List UInt8×List (List UInt8)
theorem kD (p:Nat→Bool) (xs:List (List UInt8)):AV.refsL p (xs.map AV.str)=true:=AV.refsL_iff.2 fun a ha=>by
 obtain ⟨x,_,rfl⟩:=List.mem_map.1 ha
 rfl
theorem Pt (xs:List (List UInt8)):(xs.map AV.str).all AV.one=true:=by
 rw [List.all_eq_true]
 intro a ha
 obtain ⟨x,_,rfl⟩:=List.mem_map.1 ha
 rfl
abbrev atA (a:Atr):List AV:=[.str a.1,.sl (a.2.map AV.str) a.2.length none]
def bn (l:List Atr):List AV:=l.flatMap atA
theorem DC (a:Atr) (l:List Atr):bn (a::l)=.str a.1 :: .sl (a.2.map AV.str) a.2.length none::bn l:=rfl
theorem Qg (l m:List Atr):bn (l++m)=bn l++bn m:=by simp [bn]
theorem jR (l:List Atr):(bn l).length=l.length * 2:=by
 induction l with
 | nil=>rfl
 | cons a l ih=>rw [DC];simp only [List.length_cons];omega
theorem rb (p:Nat→Bool):∀ l:List Atr,AV.refsL p (bn l)=true
 | []=>rfl
 | a::l=>by rw [DC];simp [AV.refsL,AV.refs,kD,rb p l]
theorem eN (l:List (List UInt8)):AV.frzL (l.map AV.str)=l.map AV.str:=by rw [AV.frzL_eq,List.map_map];rfl
theorem Dl:∀ l:List Atr,AV.frzL (bn l)=bn l
 | []=>rfl
 | a::l=>by rw [DC];simp only [AV.frzL,AV.frz,eN,Dl l]
theorem mw:∀ {l:List Atr} {k:Nat},k<l.length→((bn l).drop (k * 2)).take 2=atA (l.getD k ([],[]))
 | a::l,0,_=>rfl
 | a::l,k+1,h=>by
   have ih:=@mw l k (by simpa using h)
   rw [show (k+1) * 2=k * 2+1+1 by omega,DC]
   simpa using ih
abbrev mA (l:List (List UInt8)):AV:=.sl (l.map AV.str) l.length none
theorem Qe {l:List Atr} {k:Nat} (hk:k<l.length):(bn l).getD (k * 2+1) .undef=mA (l.getD k ([],[])).2:=by
 have h2:=congrArg (fun l=>l[1]?) (mw hk)
 simp only [List.getElem?_take_of_lt (show 1<2 by omega),List.getElem?_drop] at h2
 rw [List.getD_eq_getElem?_getD,h2]
 rfl
end Go.Proofs.YtkkgmgmgcgiffaaGreatDoor.Av
set_option maxRecDepth 100000
namespace Go.Proofs.YtkkgmgmgcgiffaaGreatDoor.Av
open Go
def FJ:LSO:=[Af 2]
def FI:LSO:=[Aa 7 0,An 8 7,Ab 9 0]
def FH:LSO:=[Ak 10 9 8]
def FG:LSO:=[Aq 11 2 7 9,Ap 12 2 11,B6 4,Ai 2 4 12]
def FF:LSO:=[Aa 13 0,An 14 13,A0 15 14 60,Aa 16 15,.grp none 16 false
 [AA 17 16 1 4,A8 18 16 1 17,Bm 19 16 18,A5 20 16 19 60]
 21 (tm 20)]
def FE:LSO:=[Af 2]
def FD:LSO:=[Ac 22 1 4,Ad 23 1 22,An 24 23,Ab 25 0]
def FC:LSO:=[Ak 26 25 24]
def FB:LSO:=[Aq 27 1 23 25,Ad 28 1 27,Aa 6 28]
def FA:LSO:=[Aa 29 6,Ar 30 29,A0 31 30 5000]
def zU:LSO:=[Af 2]
def zT:LSO:=[Ah 32 25 1,Aa 25 32]
def zS:LSO:=[Ah 33 9 1,Aa 9 33]
def zR:LSO:=[Ax 2]
def Dh:aW:=⟨34,(.seq (.sreg FJ [])
 (.seq (.seq (.sreg FI [])
 (.block 0 (.loop (.seq (.sreg FH [])
 (.seq (.cond (tm 10) .skip
 (.exit 0))
 (.seq (.block 1 (.seq (.sreg FG Ch)
 (.seq (.seq (.sreg FF Cj)
 (.cond (tm 21) (.seq (.sreg FE [])
 .ret)
 .skip))
 (.seq (.sreg FD Ct)
 (.block 2 (.loop (.seq (.sreg FC [])
 (.seq (.cond (tm 26) .skip
 (.exit 2))
 (.seq (.block 3 (.seq (.sreg FB Ch)
 (.seq (.sreg FA Ch)
 (.cond (tm 31) (.seq (.sreg zU [])
 .ret)
 .skip))))
 (.sreg zT Cg))))))))))
 (.sreg zS Cg)))))))
 (.seq (.sreg zR [])
 .ret))),[(.tmp 2)]⟩
attribute [push_cast] FJ FI FH FG FF FE FD FC FB FA zU zT zS zR
theorem M6:bb Tryz.prog (fun _ _=>1) 31=some Dh.raw:=by kernel_rfl
variable {L:List Blk} {K:AV→List Blk→Prop}
set_option maxHeartbeats 8000000
set_option maxRecDepth 100000
def OS (n:Nat) (a:Atr):Bool:=decide (n≤60) && decide (a.2.length≤60) && a.2.all fun v=>decide (v.length≤5000)
def UY (l:List Atr):Bool:=l.all (OS l.length)
theorem Wh {l:List Atr} (h:UY l=true):l.length≤60∧∀ a∈l,a.2.length≤60∧∀ v∈a.2,v.length≤5000:=by
 simp only [UY,List.all_eq_true,OS,Bool.and_eq_true,decide_eq_true_eq] at h
 refine ⟨?_,fun a ha=>⟨(h a ha).1.2,(h a ha).2⟩⟩
 rcases l with _|⟨x,t⟩
 · simp
 · exact (h x (by simp)).1.1
theorem Yd {l:List Atr} {cap:Option Nat} (hl:(l.length:Int)≤9223372036854775807) (hz:∀ a∈l,(a.2.length:Int)≤9223372036854775807) (h:K (.bool (UY l)) L) :
   ad Tryz.prog 31 [.sl (bn l) l.length cap] L K:=by
 obtain ⟨R,hR⟩:∃ R,l.all (OS l.length)=R:=⟨_,rfl⟩
 rw [UY,hR] at h
 replace h:=hid h
 replace hR:=hid hR
 refine ae M6 (by simp [Dh]) ?_
 simp only [Dh,ar]
 refine wk ?_
 refine am (fun m T' L'=>∃ (k:Nat) (X:List Blk),m=l.length - k∧k≤l.length∧Hid ((l.drop k).all (OS l.length)=R)∧T'=[(9,.int .i64 (k:Int)),(8,.int .i64 l.length),(7,.sl (bn l) l.length cap),(0,.sl (bn l) l.length cap)]∧L'=L++X) (CutS (b:=by simp)) ⟨0,[],rfl,Nat.zero_le _,hid (by simpa using hR.out),rfl,by simp⟩ ?_
 rintro _ _ _ ⟨k,X,rfl,hk,hI,rfl,rfl⟩
 by_cases hlt:k<l.length
 · have g1:(k:Int)<(l.length:Int):=by omega
   have g2:IntKind.i64.wrap ((k:Int)+1)=(k:Int)+1:=ac (by omega) (by omega)
   have e3:=mw hlt
   have e4:k * 2+2≤(bn l).length:=by rw [jR];omega
   obtain ⟨⟨nm,vs⟩,ha⟩:∃ a,l.getD k ([],[])=a:=⟨_,rfl⟩
   have hdr:l.drop k=(nm,vs)::l.drop (k+1):=by rw [List.drop_eq_getElem_cons hlt,← ha];simp [hlt]
   have hvs:=hz (nm,vs) (by rw [← ha];simp [hlt])
   simp only at hvs
   rw [ha] at e3
   simp only [atA] at e3
   have hI2:=hI.out
   rw [hdr,List.all_cons] at hI2
   have no:OS l.length (nm,vs)=false→K (.bool false) L:=fun e=>by
     rw [e,Bool.false_and] at hI2
     have:=h.out
     rwa [← hI2] at this
   replace no:=hid no
   clear hI hdr ha hz hR
   by_cases h1:(60:Int)<(l.length:Int)
   · have h':=hid (no.out (by simp [OS];omega))
     clear hI2
     refine wk ?_
     exact ab rfl h'.out
   by_cases h2:(60:Int)<(vs.length:Int)
   · have h':=hid (no.out (by simp [OS];omega))
     clear hI2
     refine wk ?_
     exact ab rfl h'.out
   obtain ⟨rv,hrv⟩:∃ r,vs.all (fun v=>decide (v.length≤5000))=r:=⟨_,rfl⟩
   have hfe:OS l.length (nm,vs)=rv:=by
     rw [OS,hrv,decide_eq_true (by omega),decide_eq_true (by simp only;omega)];rfl
   rw [hfe] at hI2
   replace hI2:=hid hI2
   replace hrv:=hid hrv
   replace no:=hid (fun e:rv=false=>no.out (hfe.trans e))
   clear hfe
   refine wk ?_
   refine am (fun m T' L'=>∃ j:Nat,m=vs.length - j∧j≤vs.length∧Hid ((vs.drop j).all (fun v=>decide (v.length≤5000))=rv)∧T'=[(25,.int .i64 (j:Int)),(24,.int .i64 vs.length),(23,.sl (vs.map AV.str) vs.length none),(9,.int .i64 (k:Int)),(8,.int .i64 l.length),(7,.sl (bn l) l.length cap),(0,.sl (bn l) l.length cap)]∧L'=L++(X++[.cells [.str nm,.sl (vs.map AV.str) vs.length none]])) (CutS (b:=by simp)) ⟨0,rfl,Nat.zero_le _,hid (by simpa using hrv.out),rfl,by simp⟩ ?_
   rintro _ _ _ ⟨j,rfl,hj,hJ,rfl,rfl⟩
   by_cases hjl:j<vs.length
   · have j1:(j:Int)<(vs.length:Int):=by omega
     have j2:IntKind.i64.wrap ((j:Int)+1)=(j:Int)+1:=ac (by omega) (by omega)
     obtain ⟨v,hv⟩:∃ v,vs.getD j []=v:=⟨_,rfl⟩
     have g3:(vs.map AV.str).getD j .undef=.str v:=by rw [← hv];simp [hjl]
     have hdr:vs.drop j=v::vs.drop (j+1):=by rw [List.drop_eq_getElem_cons hjl,← hv];simp [hjl]
     have hJ2:=hJ.out
     rw [hdr,List.all_cons] at hJ2
     clear hv hdr hJ
     by_cases h3:(5000:Int)<(v.length:Int)
     · have h':=hid (no.out (by rw [← hJ2,decide_eq_false (by omega),Bool.false_and]))
       clear hJ2
       refine wk ?_
       exact ab rfl h'.out
     · rw [decide_eq_true (by omega),Bool.true_and] at hJ2
       replace hJ2:=hid hJ2
       refine wk ?_
       exact ak _ _ _ (by omega) (CutL (b:=by simp)) ⟨j+1,rfl,hjl,hJ2,rfl,rfl⟩
   · have j1:¬ (j:Int)<(vs.length:Int):=by omega
     have hJ2:=hJ.out
     rw [List.drop_eq_nil_of_le (by omega),List.all_nil] at hJ2
     have hI3:=hI2.out
     rw [← hJ2,Bool.true_and] at hI3
     replace hI3:=hid hI3
     clear hJ hJ2
     refine wk ?_
     exact ak _ _ _ (by omega) (CutL (b:=by simp)) ⟨k+1,_,rfl,hlt,hI3,rfl,rfl⟩
 · have hke:k=l.length:=by omega
   subst hke
   have g1:¬ (l.length:Int)<(l.length:Int):=by omega
   have hI2:=hI.out
   rw [List.drop_length,List.all_nil] at hI2
   have h':=h.out
   rw [← hI2] at h'
   replace h':=hid h'
   clear hI hI2 hR
   refine wk ?_
   exact ab rfl h'.out
end Go.Proofs.YtkkgmgmgcgiffaaGreatDoor.Av
