/- Joined texts of the walk, made small by a program. -/
import Derived.Test.YtdhjplmjpjfjnaaGreatHTrRc
import Derived.Test.YtdhjplmjpjfjnaaGreatHCodeT3
set_option linter.unusedSimpArgs false
set_option linter.unusedVariables false
namespace Go.Proofs.YtdhjplmjpjfjnaaGreat.Av
open Go
variable {L:List Blk} {K:AV→List Blk→Prop}
set_option maxHeartbeats 8000000
set_option maxRecDepth 100000
def aE (ps:List Ava):List Rdn:=ps.map fun p=>[p]
theorem JL {ps:List Ava} {j:Nat} (h:j<ps.length):(aL ps).getD (j * 2) .undef=.str (ps.getD j ([],[])).1∧(aL ps).getD (j * 2+1) .undef=.str (ps.getD j ([],[])).2:=by
 have h5:=dQ h
 have h6:j * 2+2≤(aL ps).length:=by rw [bt];omega
 have h7:∀ i,i<2→(((aL ps).drop (j * 2)).take 2).getD i .undef=(aL ps).getD (j * 2+i) .undef:=fun i hi=>by
   rw [List.getD_eq_getElem?_getD,List.getD_eq_getElem?_getD,List.getElem?_take_of_lt hi,List.getElem?_drop]
 refine ⟨?_,?_⟩
 · have:=h7 0 (by omega);rw [h5] at this;rw [Nat.add_zero] at this;rw [← this];rfl
 · have:=h7 1 (by omega);rw [h5] at this;rw [← this];rfl
theorem xl {ps:List Ava} (hp:ps.length≤1000) {n:Nat} (hn:n=ps.length * 2) {cap:Option Nat} {A:List AV} (hA:A=aL ps) (h:K (dnA (aE ps)) L) :
   ab Tryz.prog 38 [.sl A n cap] L K:=by
 subst hA
 have hel:=bt ps
 rw [← hn] at hel
 replace hn:=hid hn
 replace h:=hid h
 refine aa CR (by simp [qq]) ?_
 simp only [qq,am]
 refine wk ?_
 refine cq (l:=[]) (n:=0) 3 1 rfl (Nat.zero_mul 1).symm ?_
 refine ax (fun m T' L'=>∃ (j i:Nat) (C:List AV) (X:List Blk),m=ps.length - j∧j≤ps.length∧Hid (i=j * 2)∧Hid (AV.frzL C=(aE (ps.take j)).map ao)∧T'=[(4,.int .i64 (i:Int)),(3,.gsl C j L.length 1),(0,.sl (aL ps) n cap)]∧L'=L++(.spare j 1::X)) (CutS (b:=by simp)) ⟨0,0,[],[],rfl,Nat.zero_le _,hid rfl,hid rfl,rfl,by simp⟩ ?_
 rintro _ _ _ ⟨j,i,C,X,rfl,hj,hi,hC,rfl,rfl⟩
 have hn0:=hn.out
 have hi0:=hi.out
 by_cases hjl:j<ps.length
 · have j0:(i:Int)<(n:Int):=by omega
   have j1:(i:Int)+1<(n:Int):=by omega
   have j2:IntKind.i64.wrap ((i:Int)+1)=(i:Int)+1:=ah (by omega) (by omega)
   have j3:IntKind.i64.wrap ((i:Int)+2)=((i+2:Nat):Int):=by rw [ah (by omega) (by omega)];omega
   obtain ⟨e1,e2⟩:=JL hjl
   rw [← hi0] at e1 e2
   have j4:((i:Int)+1).toNat=i+1:=by omega
   obtain ⟨⟨ty,va⟩,ha⟩:∃ a,ps.getD j ([],[])=a:=⟨_,rfl⟩
   rw [ha] at e1 e2
   have hstep:Hid (AV.frzL (C++[.sl [.str ty,.str va] 1 none])=(aE (ps.take (j+1))).map ao):=hid (by
     have:ps[j]=(ty,va):=by rw [← ha];simp [hjl]
     rw [List.take_succ_eq_append_getElem hjl,this]
     unfold aE at hC ⊢
     rw [List.map_append,List.map_append,← hC.out,AV.frzL_eq,AV.frzL_eq,List.map_append]
     rfl)
   have i2:Hid (i+2=(j+1) * 2):=hid (by omega)
   clear hi0 hn0 ha hC
   refine wk ?_
   exact ay _ _ _ (by omega) (CutL (b:=by simp)) ⟨j+1,i+2,_,_,rfl,hjl,i2,hstep,rfl,rfl⟩
 · have hje:j=ps.length:=by omega
   have j1:¬ (i:Int)+1<(n:Int):=by omega
   have j2:IntKind.i64.wrap ((i:Int)+1)=(i:Int)+1:=ah (by omega) (by omega)
   subst hje
   have hC2:=hC.out
   rw [List.take_length] at hC2
   have hol:(aE ps).length=ps.length:=by simp [aE]
   clear hi0 hn0 hC
   refine wk ?_
   refine cz ?_
   simp only [AV.frz,hC2]
   refine ac ?_ ?_
   · simp only [AV.refs,fc]
   · have:=h.out;unfold dnA at this;rw [hol] at this;exact this
def aw1:List Ava:=[([100,99],[122])]
def aw2:List Ava:=[([111,117],[98]),([100,99],[122])]
def aw3:List Ava:=[([99,110],[97]),([111,117],[98]),([100,99],[122])]
def aw4:List Ava:=[([111,117],[97]),([100,99],[122])]
def aw5:List Ava:=[([79,85],[66]),([100,99],[122])]
def aw6:List Ava:=[([111,117],[120]),([111,117],[97]),([100,99],[122])]
def aw7:List Ava:=[([99,110],[97]),([111,117],[120]),([111,117],[97]),([100,99],[122])]
def awL (n:Nat):List az:=([⟨1,aE aw1,[]⟩,⟨2,aE aw2,[]⟩,⟨3,aE aw3,[]⟩,⟨4,aE aw4,[]⟩]:List az).take n
theorem Le:(prS (aE aw1)).2=0:=by kernel_rfl
theorem M9:b8 (aE aw1) (awL 0) 1 (aE aw1) []=0:=by kernel_rfl
theorem M8:b8 (aE aw1) (awL 1) 1 (aE aw2) []=0:=by kernel_rfl
theorem M7:b8 (aE aw1) (awL 2) 1 (aE aw3) []=0:=by kernel_rfl
theorem M6:b8 (aE aw1) (awL 3) 1 (aE aw4) []=0:=by kernel_rfl
theorem OJ:b8 (aE aw1) (awL 4) 4 (aE aw5) (aE aw6)=0:=by kernel_rfl
theorem F0 {k:Int} (l:List az) (last:Int) (d:List Rdn) (h:b8 (aE aw1) l 1 d []=0):doT (aE aw1) l last 1 d [] ([]:List Atr)=(l++[⟨last+1,d,[]⟩],last+1):=by
 unfold doT;rw [if_neg (fun e=>e h),if_pos rfl];rfl
theorem M5:doT (aE aw1) (awL 0) 0 1 (aE aw1) [] ([]:List Atr)=(awL 1,1):=F0 (k:=0) _ _ _ M9
theorem M4:doT (aE aw1) (awL 1) 1 1 (aE aw2) [] ([]:List Atr)=(awL 2,2):=F0 (k:=0) _ _ _ M8
theorem M3:doT (aE aw1) (awL 2) 2 1 (aE aw3) [] ([]:List Atr)=(awL 3,3):=F0 (k:=0) _ _ _ M7
theorem M1:doT (aE aw1) (awL 3) 3 1 (aE aw4) [] ([]:List Atr)=(awL 4,4):=F0 (k:=0) _ _ _ M6
theorem M0:TOk (aE aw1) 0 (awL 0):=TOk.nil Le (by decide)
theorem MZ:TOk (aE aw1) 1 (awL 1):=by have:=(M0.done (Int.le_refl 0) 1 (aE aw1) [] ([]:List Atr)).1;rwa [M5] at this
theorem MY:TOk (aE aw1) 2 (awL 2):=by have:=(MZ.done (by decide) 1 (aE aw2) [] ([]:List Atr)).1;rwa [M4] at this
theorem MX:TOk (aE aw1) 3 (awL 3):=by have:=(MY.done (by decide) 1 (aE aw3) [] ([]:List Atr)).1;rwa [M3] at this
theorem IK:TOk (aE aw1) 4 (awL 4):=by have:=(MX.done (by decide) 1 (aE aw4) [] ([]:List Atr)).1;rwa [M1] at this
theorem OI:mE (awL 4) 1=some ⟨1,aE aw1,[]⟩:=by kernel_rfl
theorem O0:(HL [] ((awL 4).filter (eQ ⟨1,aE aw1,[]⟩ 2))).map (·.id)=[1,4,2,3]:=by kernel_rfl
theorem OZ:scT (awL 4) 1 2=[1,4,2,3]:=by
 unfold scT
 rw [OI]
 dsimp only
 rw [if_neg (by decide),← IK.ins]
 exact O0
theorem O1:aN (doT (aE aw1) (awL 4) 4 4 (aE aw5) (aE aw6) ([]:List Atr)).1 (aE aw7)=3:=by kernel_rfl
theorem vl (ps:List Ava) (h:(decide (ps.length≤1000) && ps.all fun p=>decide (p.1.length≤1000))=true):dnM (aE ps):=by
 rw [Bool.and_eq_true,decide_eq_true_eq,List.all_eq_true] at h
 refine ⟨by simp [aE];omega,fun r hr=>?_⟩
 obtain ⟨p,hp,rfl⟩:=List.mem_map.1 hr
 refine ⟨by simp,fun a ha=>?_⟩
 rw [List.mem_singleton.1 ha]
 have:=h.2 p hp
 rw [decide_eq_true_eq] at this
 omega
end Go.Proofs.YtdhjplmjpjfjnaaGreat.Av
