/- Joined texts of the walk, made small by a program. -/
import Derived.Test.YtdhjplmjpjfjnaaGreatHP5
import Derived.Test.YtdhjplmjpjfjnaaGreatHP4
import Derived.Test.YtdhjplmjpjfjnaaGreatRows
import Derived.KernelRfl
set_option linter.unusedSimpArgs false
set_option linter.unusedVariables false
namespace Go.Proofs.YtdhjplmjpjfjnaaGreat.Av
open Go
set_option maxHeartbeats 8000000
set_option maxRecDepth 100000
abbrev Atr:=List UInt8×List (List UInt8)
theorem vB (p:Nat→Bool) (xs:List (List UInt8)):AV.refsL p (xs.map AV.str)=true:=AV.refsL_iff.2 fun a ha=>by
 obtain ⟨x,_,rfl⟩:=List.mem_map.1 ha
 rfl
abbrev atA (a:Atr):List AV:=[.str a.1,.sl (a.2.map AV.str) a.2.length none]
def bg (l:List Atr):List AV:=l.flatMap atA
theorem vG (a:Atr) (l:List Atr):bg (a::l)=.str a.1 :: .sl (a.2.map AV.str) a.2.length none::bg l:=rfl
theorem G6 (l m:List Atr):bg (l++m)=bg l++bg m:=by simp [bg]
theorem Eg (l:List Atr):(bg l).length=l.length * 2:=by
 induction l with
 | nil=>rfl
 | cons a l ih=>rw [vG];simp only [List.length_cons];omega
theorem zZ (p:Nat→Bool):∀ l:List Atr,AV.refsL p (bg l)=true
 | []=>rfl
 | a::l=>by rw [vG];simp [AV.refsL,AV.refs,vB,zZ p l]
theorem DP (l:List (List UInt8)):AV.frzL (l.map AV.str)=l.map AV.str:=by rw [AV.frzL_eq,List.map_map];rfl
theorem gK:∀ l:List Atr,AV.frzL (bg l)=bg l
 | []=>rfl
 | a::l=>by rw [vG];simp only [AV.frzL,AV.frz,DP,gK l]
theorem C6:∀ {l:List Atr} {k:Nat},k<l.length→((bg l).drop (k * 2)).take 2=atA (l.getD k ([],[]))
 | a::l,0,_=>rfl
 | a::l,k+1,h=>by
   have ih:=@C6 l k (by simpa using h)
   rw [show (k+1) * 2=k * 2+1+1 by omega,vG]
   simpa using ih
abbrev Od (l:List (List UInt8)):AV:=.sl (l.map AV.str) l.length none
end Go.Proofs.YtdhjplmjpjfjnaaGreat.Av
set_option maxRecDepth 100000
namespace Go.Proofs.YtdhjplmjpjfjnaaGreat.Av
open Go
def sH:LSO:=[Am 2]
def sG:LSO:=[Am 3]
def sF:LSO:=[Aa 6 0,Ae 7 6,Ac 8 0]
def sE:LSO:=[Al 9 8 7]
def sD:LSO:=[Aj 10 2 6 8,A1 11 2 10,Br 5,Ay 2 5 11]
def sC:List (aj×Kd) :=
 [Az 12 3,Ap 13 0 5,Ao 14 1 13 0 1,od 15 (.bslice false 1 0 [] []) (.read 0 0),Ap 16 1 5,Ao 17 1 16 0 0,od 18 (.app 0 1 16 [(.str [])] (tm 15) (tm 17)) .eff,
 od 19 (.build [(.str []),(.sl [] 0 (some 0))] [(0,(1,(tm 14))),(1,(1,(tm 18)))]) .pure,od 20 (.bslice false 2 1 [(.str []),(.sl [] 0 (some 0))] [(0,(2,(tm 19)))]) (.read 0 0)]
def qD:List aj :=
 [⟨(some 21),(.app 1 2 40 [(.str []),(.sl [] 0 (some 0))] (tm 12) (tm 20)),none⟩,⟨(some 3),(.mv (tm 21)),none⟩]
def sB:LSO:=[Ai 22 8 1,Aa 8 22]
def sA:LSO:=[Aa 23 3,Aa 2 23]
def qf:bh:=⟨24,(.seq (.sreg sH [])
 (.seq (.sreg sG [])
 (.seq (.seq (.sreg sF [])
 (.block 0 (.loop (.seq (.sreg sE [])
 (.seq (.cond (tm 9) .skip
 (.exit 0))
 (.seq (.block 1 (.seq (.sreg sD B5)
 (.dregM sC qD BG)))
 (.sreg sB B4)))))))
 (.seq (.sreg sA B4)
 .ret)))),[(.tmp 2)]⟩
attribute [push_cast] sH sG sF sE sD sC qD sB sA
theorem CH:bz Tryz.prog (fun r i=>if r=5∧i=6 then 0 else 1) 63=some qf.raw:=by kernel_rfl
def wH:LSO:=[An 2]
def wG:LSO:=[Aa 7 0,Ae 8 7,Ac 9 0]
def wF:LSO:=[Al 10 9 8]
def wD:LSO:=[Aj 11 2 7 9,A1 12 2 11,Br 4,Ay 2 4 12]
def wC:LSO:=[Aa 13 0,Ae 14 13,A3 15 14 60,Aa 16 15,.grp none 16 false
 [A9 17 16 1 4,A6 18 16 1 17,AI 19 16 18,AO 20 16 19 60]
 21 (tm 20)]
def wB:LSO:=[An 2]
def wz:LSO:=[Ad 22 1 4,Ab 23 1 22,Ae 24 23,Ac 25 0]
def wy:LSO:=[Al 26 25 24]
def ww:LSO:=[Aj 27 1 23 25,Ab 28 1 27,Aa 6 28]
def wu:LSO:=[Aa 29 6,AD 30 29,A3 31 30 5000]
def uR:LSO:=[An 2]
def uQ:LSO:=[Ai 32 25 1,Aa 25 32]
def uP:LSO:=[Ai 33 9 1,Aa 9 33]
def uO:LSO:=[AY 2]
def vu:bh:=⟨34,(.seq (.sreg wH [])
 (.seq (.seq (.sreg wG [])
 (.block 0 (.loop (.seq (.sreg wF [])
 (.seq (.cond (tm 10) .skip
 (.exit 0))
 (.seq (.block 1 (.seq (.sreg wD B5)
 (.seq (.seq (.sreg wC B7)
 (.cond (tm 21) (.seq (.sreg wB [])
 .ret)
 .skip))
 (.seq (.sreg wz [true,true,true,false])
 (.block 2 (.loop (.seq (.sreg wy [])
 (.seq (.cond (tm 26) .skip
 (.exit 2))
 (.seq (.block 3 (.seq (.sreg ww B5)
 (.seq (.sreg wu B5)
 (.cond (tm 31) (.seq (.sreg uR [])
 .ret)
 .skip))))
 (.sreg uQ B4))))))))))
 (.sreg uP B4)))))))
 (.seq (.sreg uO [])
 .ret))),[(.tmp 2)]⟩
attribute [push_cast] wH wG wF wD wC wB wz wy ww wu uR uQ uP uO
theorem D9:bz Tryz.prog (fun _ _=>1) 45=some vu.raw:=by kernel_rfl
variable {L:List Blk} {K:AV→List Blk→Prop}
set_option maxHeartbeats 8000000
set_option maxRecDepth 100000
theorem LU {l:List Atr} {cap:Option Nat} (hl:l.length≤1100000) (hz:∀ a∈l,a.2.length≤1100000) (h:K (.sl (bg l) l.length none) L) :
   ab Tryz.prog 63 [.sl (bg l) l.length cap] L K:=by
 replace h:=hid h
 refine aa CH (by simp [qf]) ?_
 simp only [qf,am]
 refine wk ?_
 refine cq (l:=[]) (n:=0) 3 2 rfl (Nat.zero_mul 2).symm ?_
 refine ax (fun m T' L'=>∃ (k:Nat) (C:List AV) (X:List Blk),m=l.length - k∧k≤l.length∧C=bg (l.take k)∧T'=[(8,.int .i64 (k:Int)),(7,.int .i64 l.length),(6,.sl (bg l) l.length cap),(3,.gsl C k L.length 2)]∧L'=L++(.spare k 2::X)) (CutS (b:=by simp)) ⟨0,[],[],rfl,Nat.zero_le _,rfl,rfl,rfl⟩ ?_
 rintro _ _ _ ⟨k,C,X,rfl,hk,hC,rfl,rfl⟩
 by_cases hlt:k<l.length
 · have g1:(k:Int)<(l.length:Int):=by omega
   have g2:IntKind.i64.wrap ((k:Int)+1)=(k:Int)+1:=ah (by omega) (by omega)
   have e3:=C6 hlt
   have e4:k * 2+2≤(bg l).length:=by rw [Eg];omega
   obtain ⟨⟨nm,vs⟩,ha⟩:∃ a,l.getD k ([],[])=a:=⟨_,rfl⟩
   have htk:bg (l.take (k+1))=bg (l.take k)++[.str nm,.sl (vs.map AV.str) vs.length none]:=by
     rw [List.take_succ_eq_append_getElem hlt,G6,show l[k]=(nm,vs) by rw [← ha];simp [hlt]]
     rfl
   have hvs:=hz (nm,vs) (by rw [← ha];simp [hlt])
   simp only at hvs
   rw [ha] at e3
   simp only [atA] at e3
   have e0:AV.frzL (vs.map AV.str)=vs.map AV.str:=DP vs
   replace htk:=hid htk
   replace hC:=hid hC
   clear ha hz
   refine wk ?_
   exact ay _ _ _ (by omega) (CutL (b:=by simp)) ⟨k+1,_,_,rfl,hlt,by rw [htk.out,hC.out],rfl,rfl⟩
 · have hke:k=l.length:=by omega
   subst hke
   have g1:¬ (l.length:Int)<(l.length:Int):=by omega
   rw [List.take_length] at hC
   subst hC
   have e0:=gK l
   refine wk ?_
   refine cz ?_
   simp only [AV.frz,e0]
   exact ac (by simp only [AV.refs,zZ]) h.out
def FT (n:Nat) (a:Atr):Bool:=decide (n≤60) && decide (a.2.length≤60) && a.2.all fun v=>decide (v.length≤5000)
def JC (l:List Atr):Bool:=l.all (FT l.length)
theorem Mr {l:List Atr} (h:JC l=true):l.length≤60∧∀ a∈l,a.2.length≤60∧∀ v∈a.2,v.length≤5000:=by
 simp only [JC,List.all_eq_true,FT,Bool.and_eq_true,decide_eq_true_eq] at h
 refine ⟨?_,fun a ha=>⟨(h a ha).1.2,(h a ha).2⟩⟩
 rcases l with _|⟨x,t⟩
 · simp
 · exact (h x (by simp)).1.1
theorem Om {l:List Atr} {cap:Option Nat} (hl:(l.length:Int)≤9223372036854775807) (hz:∀ a∈l,(a.2.length:Int)≤9223372036854775807) (h:K (.bool (JC l)) L) :
   ab Tryz.prog 45 [.sl (bg l) l.length cap] L K:=by
 obtain ⟨R,hR⟩:∃ R,l.all (FT l.length)=R:=⟨_,rfl⟩
 rw [JC,hR] at h
 replace h:=hid h
 replace hR:=hid hR
 refine aa D9 (by simp [vu]) ?_
 simp only [vu,am]
 refine wk ?_
 refine ax (fun m T' L'=>∃ (k:Nat) (X:List Blk),m=l.length - k∧k≤l.length∧Hid ((l.drop k).all (FT l.length)=R)∧T'=[(9,.int .i64 (k:Int)),(8,.int .i64 l.length),(7,.sl (bg l) l.length cap),(0,.sl (bg l) l.length cap)]∧L'=L++X) (CutS (b:=by simp)) ⟨0,[],rfl,Nat.zero_le _,hid (by simpa using hR.out),rfl,by simp⟩ ?_
 rintro _ _ _ ⟨k,X,rfl,hk,hI,rfl,rfl⟩
 by_cases hlt:k<l.length
 · have g1:(k:Int)<(l.length:Int):=by omega
   have g2:IntKind.i64.wrap ((k:Int)+1)=(k:Int)+1:=ah (by omega) (by omega)
   have e3:=C6 hlt
   have e4:k * 2+2≤(bg l).length:=by rw [Eg];omega
   obtain ⟨⟨nm,vs⟩,ha⟩:∃ a,l.getD k ([],[])=a:=⟨_,rfl⟩
   have hdr:l.drop k=(nm,vs)::l.drop (k+1):=by rw [List.drop_eq_getElem_cons hlt,← ha];simp [hlt]
   have hvs:=hz (nm,vs) (by rw [← ha];simp [hlt])
   simp only at hvs
   rw [ha] at e3
   simp only [atA] at e3
   have hI2:=hI.out
   rw [hdr,List.all_cons] at hI2
   have no:FT l.length (nm,vs)=false→K (.bool false) L:=fun e=>by
     rw [e,Bool.false_and] at hI2
     have:=h.out
     rwa [← hI2] at this
   replace no:=hid no
   clear hI hdr ha hz hR
   by_cases h1:(60:Int)<(l.length:Int)
   · have h':=hid (no.out (by simp [FT];omega))
     clear hI2
     refine wk ?_
     exact ac rfl h'.out
   by_cases h2:(60:Int)<(vs.length:Int)
   · have h':=hid (no.out (by simp [FT];omega))
     clear hI2
     refine wk ?_
     exact ac rfl h'.out
   obtain ⟨rv,hrv⟩:∃ r,vs.all (fun v=>decide (v.length≤5000))=r:=⟨_,rfl⟩
   have hfe:FT l.length (nm,vs)=rv:=by
     rw [FT,hrv,decide_eq_true (by omega),decide_eq_true (by simp only;omega)];rfl
   rw [hfe] at hI2
   replace hI2:=hid hI2
   replace hrv:=hid hrv
   replace no:=hid (fun e:rv=false=>no.out (hfe.trans e))
   clear hfe
   refine wk ?_
   refine ax (fun m T' L'=>∃ j:Nat,m=vs.length - j∧j≤vs.length∧Hid ((vs.drop j).all (fun v=>decide (v.length≤5000))=rv)∧T'=[(25,.int .i64 (j:Int)),(24,.int .i64 vs.length),(23,.sl (vs.map AV.str) vs.length none),(9,.int .i64 (k:Int)),(8,.int .i64 l.length),(7,.sl (bg l) l.length cap),(0,.sl (bg l) l.length cap)]∧L'=L++(X++[.cells [.str nm,.sl (vs.map AV.str) vs.length none]])) (CutS (b:=by simp)) ⟨0,rfl,Nat.zero_le _,hid (by simpa using hrv.out),rfl,by simp⟩ ?_
   rintro _ _ _ ⟨j,rfl,hj,hJ,rfl,rfl⟩
   by_cases hjl:j<vs.length
   · have j1:(j:Int)<(vs.length:Int):=by omega
     have j2:IntKind.i64.wrap ((j:Int)+1)=(j:Int)+1:=ah (by omega) (by omega)
     obtain ⟨v,hv⟩:∃ v,vs.getD j []=v:=⟨_,rfl⟩
     have g3:(vs.map AV.str).getD j .undef=.str v:=by rw [← hv];simp [hjl]
     have hdr:vs.drop j=v::vs.drop (j+1):=by rw [List.drop_eq_getElem_cons hjl,← hv];simp [hjl]
     have hJ2:=hJ.out
     rw [hdr,List.all_cons] at hJ2
     clear hv hdr hJ
     by_cases h3:(5000:Int)<(v.length:Int)
     · have h':=hid (no.out (by rw [← hJ2,decide_eq_false (by omega),Bool.false_and]))
       clear hJ2
       refine wk ?_
       exact ac rfl h'.out
     · rw [decide_eq_true (by omega),Bool.true_and] at hJ2
       replace hJ2:=hid hJ2
       refine wk ?_
       exact ay _ _ _ (by omega) (CutL (b:=by simp)) ⟨j+1,rfl,hjl,hJ2,rfl,rfl⟩
   · have j1:¬ (j:Int)<(vs.length:Int):=by omega
     have hJ2:=hJ.out
     rw [List.drop_eq_nil_of_le (by omega),List.all_nil] at hJ2
     have hI3:=hI2.out
     rw [← hJ2,Bool.true_and] at hI3
     replace hI3:=hid hI3
     clear hJ hJ2
     refine wk ?_
     exact ay _ _ _ (by omega) (CutL (b:=by simp)) ⟨k+1,_,rfl,hlt,hI3,rfl,rfl⟩
 · have hke:k=l.length:=by omega
   subst hke
   have g1:¬ (l.length:Int)<(l.length:Int):=by omega
   have hI2:=hI.out
   rw [List.drop_length,List.all_nil] at hI2
   have h':=h.out
   rw [← hI2] at h'
   replace h':=hid h'
   clear hI hI2 hR
   refine wk ?_
   exact ac rfl h'.out
end Go.Proofs.YtdhjplmjpjfjnaaGreat.Av
