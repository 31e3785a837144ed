/- Joined texts of the walk, made small by a program. -/
import Derived.Test.YtgpnbkdcdmfgcaaGreatYP5
import Derived.Test.YtgpnbkdcdmfgcaaGreatYP4
import Derived.Test.YtgpnbkdcdmfgcaaGreatRows
import Derived.KernelRfl
set_option linter.unusedSimpArgs false
set_option linter.unusedVariables false
namespace Go.Proofs.YtgpnbkdcdmfgcaaGreat.Av
open Go
set_option maxHeartbeats 8000000
set_option maxRecDepth 100000
abbrev Atr:=List UInt8×List (List UInt8)
theorem BA (p:Nat→Bool) (xs:List (List UInt8)):AV.refsL p (xs.map AV.str)=true:=AV.refsL_iff.2 fun a ha=>by
 obtain ⟨x,_,rfl⟩:=List.mem_map.1 ha
 rfl
abbrev atA (a:Atr):List AV:=[.str a.1,.sl (a.2.map AV.str) a.2.length none]
def aB (l:List Atr):List AV:=l.flatMap atA
theorem pj (a:Atr) (l:List Atr):aB (a::l)=.str a.1 :: .sl (a.2.map AV.str) a.2.length none::aB l:=rfl
theorem xn (l m:List Atr):aB (l++m)=aB l++aB m:=by simp [aB]
theorem gi (l:List Atr):(aB l).length=l.length * 2:=by
 induction l with
 | nil=>rfl
 | cons a l ih=>rw [pj];simp only [List.length_cons];omega
theorem ft (p:Nat→Bool):∀ l:List Atr,AV.refsL p (aB l)=true
 | []=>rfl
 | a::l=>by rw [pj];simp [AV.refsL,AV.refs,BA,ft p l]
theorem tV (l:List (List UInt8)):AV.frzL (l.map AV.str)=l.map AV.str:=by rw [AV.frzL_eq,List.map_map];rfl
theorem jN:∀ l:List Atr,AV.frzL (aB l)=aB l
 | []=>rfl
 | a::l=>by rw [pj];simp only [AV.frzL,AV.frz,tV,jN l]
theorem im:∀ {l:List Atr} {k:Nat},k<l.length→((aB l).drop (k * 2)).take 2=atA (l.getD k ([],[]))
 | a::l,0,_=>rfl
 | a::l,k+1,h=>by
   have ih:=@im l k (by simpa using h)
   rw [show (k+1) * 2=k * 2+1+1 by omega,pj]
   simpa using ih
abbrev CF (l:List (List UInt8)):AV:=.sl (l.map AV.str) l.length none
theorem xm {l:List Atr} {k:Nat} (hk:k<l.length):(aB l).getD (k * 2+1) .undef=CF (l.getD k ([],[])).2:=by
 have h2:=congrArg (fun l=>l[1]?) (im hk)
 simp only [List.getElem?_take_of_lt (show 1<2 by omega),List.getElem?_drop] at h2
 rw [List.getD_eq_getElem?_getD,h2]
 rfl
end Go.Proofs.YtgpnbkdcdmfgcaaGreat.Av
set_option maxRecDepth 100000
namespace Go.Proofs.YtgpnbkdcdmfgcaaGreat.Av
open Go
def nr:List SOp :=
 [o1 2 (.mv (.av (.sl [] 0 (some 0))))]
def nq:List SOp :=
 [o1 3 (.mv (.av (.sl [] 0 (some 0))))]
def np:List SOp :=
 [o1 6 (.mv (tm 0)),
 o1 7 (.len false (tm 6)),
 o1 8 (.mv (iv 0))]
def nn:List SOp :=
 [o1 9 (.bin .lss (tm 8) (tm 7))]
def nk:List SOp :=
 [o1 10 (.iaddr 2 (tm 6) (tm 8)),
 o1 11 (.load true 2 (tm 10)),
 o1 5 (.alloc [(.str []),(.sl [] 0 (some 0))]),
 o0 (.store 2 (tm 5) (tm 11))]
def nj:List (ag×Kd) :=
 [od 12 (.mv (tm 3)) .pure,
 od 13 (.faddr 0 (tm 5)) .pure,
 od 14 (.load false 1 (tm 13)) (.read 0 1),
 od 15 (.bslice false 1 0 [] []) (.read 0 0),
 od 16 (.faddr 1 (tm 5)) .pure,
 od 17 (.load false 1 (tm 16)) (.read 0 0),
 od 18 (.app 0 1 16 [(.str [])] (tm 15) (tm 17)) .eff,
 od 19 (.build [(.str []),(.sl [] 0 (some 0))] [(0,(1,(tm 14))),(1,(1,(tm 18)))]) .pure,
 od 20 (.bslice false 2 1 [(.str []),(.sl [] 0 (some 0))] [(0,(2,(tm 19)))]) (.read 0 0)]
def kB:List ag :=
 [⟨(some 21),(.app 1 2 40 [(.str []),(.sl [] 0 (some 0))] (tm 12) (tm 20)),none⟩,
 ⟨(some 3),(.mv (tm 21)),none⟩]
def ni:List SOp :=
 [o1 22 (.bin .add (tm 8) (iv 1)),
 o1 8 (.mv (tm 22))]
def nh:List SOp :=
 [o1 23 (.mv (tm 3)),
 o1 2 (.mv (tm 23))]
def ka:aN:=⟨24,(.seq (.sreg nr [])
 (.seq (.sreg nq [])
 (.seq (.seq (.sreg np [])
 (.block 0 (.loop (.seq (.sreg nn [])
 (.seq (.cond (tm 9) .skip
 (.exit 0))
 (.seq (.block 1 (.seq (.sreg nk [true,false,false])
 (.dregM nj kB [true,false,false,false,false,false,false,false,false,false,false])))
 (.sreg ni [true,false])))))))
 (.seq (.sreg nh [true,false])
 .ret)))),[(.tmp 2)]⟩
attribute [push_cast] nr nq np nn nk nj kB ni nh
theorem vP:aT Tryz.prog (fun r i=>if r=5∧i=6 then 0 else 1) 33=some ka.raw:=by kernel_rfl
def nD:List SOp :=
 [o1 4 (.mv (.av (.bool false)))]
def nC:List SOp :=
 [o1 7 (.mv (tm 0)),
 o1 8 (.len false (tm 7)),
 o1 9 (.mv (tm 1)),
 o1 10 (.len false (tm 9)),
 o1 11 (.bin .neq (tm 8) (tm 10))]
def nB:List SOp :=
 [o1 4 (.mv (.av (.bool false)))]
def nA:List SOp :=
 [o1 12 (.mv (tm 0)),
 o1 13 (.len false (tm 12)),
 o1 14 (.mv (iv 0))]
def nz:List SOp :=
 [o1 15 (.bin .lss (tm 14) (tm 13))]
def ny:List SOp :=
 [o1 16 (.mv (tm 14)),
 o1 5 (.mv (tm 16))]
def nx:List SOp :=
 [o1 17 (.mv (tm 0)),
 o1 18 (.mv (tm 5)),
 o1 19 (.iaddr 2 (tm 17) (tm 18)),
 o1 20 (.faddr 0 (tm 19)),
 o1 21 (.load false 1 (tm 20)),
 o1 22 (.mv (tm 1)),
 o1 23 (.mv (tm 5)),
 o1 24 (.iaddr 2 (tm 22) (tm 23)),
 o1 25 (.faddr 0 (tm 24)),
 o1 26 (.load false 1 (tm 25)),
 o1 27 (.bin .neq (tm 21) (tm 26)),
 o1 28 (.mv (tm 27)),
 .grp none 28 false
 [og 29 28 false (.mv (tm 0)),
 og 30 28 false (.mv (tm 5)),
 og 31 28 false (.iaddr 2 (tm 29) (tm 30)),
 og 32 28 false (.faddr 1 (tm 31)),
 og 33 28 false (.load false 1 (tm 32)),
 og 34 28 false (.len false (tm 33)),
 og 35 28 false (.mv (tm 1)),
 og 36 28 false (.mv (tm 5)),
 og 37 28 false (.iaddr 2 (tm 35) (tm 36)),
 og 38 28 false (.faddr 1 (tm 37)),
 og 39 28 false (.load false 1 (tm 38)),
 og 40 28 false (.len false (tm 39)),
 og 41 28 false (.bin .neq (tm 34) (tm 40))]
 42 (tm 41)]
def nw:List SOp :=
 [o1 4 (.mv (.av (.bool false)))]
def nv:List SOp :=
 [o1 43 (.mv (tm 0)),
 o1 44 (.mv (tm 5)),
 o1 45 (.iaddr 2 (tm 43) (tm 44)),
 o1 46 (.faddr 1 (tm 45)),
 o1 47 (.load false 1 (tm 46)),
 o1 48 (.len false (tm 47)),
 o1 49 (.mv (iv 0))]
def nu:List SOp :=
 [o1 50 (.bin .lss (tm 49) (tm 48))]
def kH:List SOp :=
 [o1 51 (.mv (tm 49)),
 o1 6 (.mv (tm 51))]
def kG:List SOp :=
 [o1 52 (.mv (tm 0)),
 o1 53 (.mv (tm 5)),
 o1 54 (.iaddr 2 (tm 52) (tm 53)),
 o1 55 (.faddr 1 (tm 54)),
 o1 56 (.load false 1 (tm 55)),
 o1 57 (.mv (tm 6)),
 o1 58 (.iaddr 1 (tm 56) (tm 57)),
 o1 59 (.load false 1 (tm 58)),
 o1 60 (.mv (tm 1)),
 o1 61 (.mv (tm 5)),
 o1 62 (.iaddr 2 (tm 60) (tm 61)),
 o1 63 (.faddr 1 (tm 62)),
 o1 64 (.load false 1 (tm 63)),
 o1 65 (.mv (tm 6)),
 o1 66 (.iaddr 1 (tm 64) (tm 65)),
 o1 67 (.load false 1 (tm 66)),
 o1 68 (.bin .neq (tm 59) (tm 67))]
def kF:List SOp :=
 [o1 4 (.mv (.av (.bool false)))]
def kE:List SOp :=
 [o1 69 (.bin .add (tm 49) (iv 1)),
 o1 49 (.mv (tm 69))]
def kD:List SOp :=
 [o1 70 (.bin .add (tm 14) (iv 1)),
 o1 14 (.mv (tm 70))]
def kC:List SOp :=
 [o1 4 (.mv (.av (.bool true)))]
def cH:aN:=⟨71,(.seq (.sreg nD [])
 (.seq (.seq (.sreg nC [true,false,false,false,false])
 (.cond (tm 11) (.seq (.sreg nB [])
 .ret)
 .skip))
 (.seq (.seq (.sreg nA [true,true,false])
 (.block 0 (.loop (.seq (.sreg nz [])
 (.seq (.cond (tm 15) .skip
 (.exit 0))
 (.seq (.block 1 (.seq (.sreg ny [true,false])
 (.seq (.seq (.sdreg nx [.pure,.pure,(.read 0 0),.pure,(.read 0 0),.pure,.pure,(.read 0 0),.pure,(.read 0 0),.pure,.pure,.pure,.pure,(.read 0 0),.pure,(.read 0 0),(.read 0 0),.pure,.pure,(.read 0 0),.pure,(.read 0 0),(.read 0 0)] [true,false,false,false,false,false,false,false,false,false,false,false,false])
 (.cond (tm 42) (.seq (.sreg nw [])
 .ret)
 .skip))
 (.seq (.sreg nv [true,true,false,false,false,false,false])
 (.block 2 (.loop (.seq (.sreg nu [])
 (.seq (.cond (tm 50) .skip
 (.exit 2))
 (.seq (.block 3 (.seq (.sreg kH [true,false])
 (.seq (.sdreg kG [.pure,.pure,(.read 0 0),.pure,(.read 0 0),.pure,(.read 0 0),(.read 0 0),.pure,.pure,(.read 0 0),.pure,(.read 0 0),.pure,(.read 0 0),(.read 0 0)] [true,false,false,false,false,false,false,false,false,false,false,false,false,false,false,false,false])
 (.cond (tm 68) (.seq (.sreg kF [])
 .ret)
 .skip))))
 (.sreg kE [true,false]))))))))))
 (.sreg kD [true,false])))))))
 (.seq (.sreg kC [])
 .ret)))),[(.tmp 4)]⟩
attribute [push_cast] nD nC nB nA nz ny nx nw nv nu kH kG kF kE kD kC
theorem eK:aT Tryz.prog (fun _ _=>1) 30=some cH.raw:=by kernel_rfl
def qm:List SOp :=
 [o1 2 (.mv (.av (.bool false)))]
def ql:List SOp :=
 [o1 7 (.mv (tm 0)),
 o1 8 (.len false (tm 7)),
 o1 9 (.mv (iv 0))]
def qj:List SOp :=
 [o1 10 (.bin .lss (tm 9) (tm 8))]
def qi:List SOp :=
 [o1 11 (.iaddr 2 (tm 7) (tm 9)),
 o1 12 (.load true 2 (tm 11)),
 o1 4 (.alloc [(.str []),(.sl [] 0 (some 0))]),
 o0 (.store 2 (tm 4) (tm 12))]
def qh:List SOp :=
 [o1 13 (.mv (tm 0)),
 o1 14 (.len false (tm 13)),
 o1 15 (.bin .gtr (tm 14) (iv 60)),
 o1 16 (.mv (tm 15)),
 .grp none 16 false
 [og 17 16 false (.faddr 1 (tm 4)),
 og 18 16 false (.load false 1 (tm 17)),
 og 19 16 false (.len false (tm 18)),
 og 20 16 false (.bin .gtr (tm 19) (iv 60))]
 21 (tm 20)]
def qg:List SOp :=
 [o1 2 (.mv (.av (.bool false)))]
def qf:List SOp :=
 [o1 22 (.faddr 1 (tm 4)),
 o1 23 (.load false 1 (tm 22)),
 o1 24 (.len false (tm 23)),
 o1 25 (.mv (iv 0))]
def qe:List SOp :=
 [o1 26 (.bin .lss (tm 25) (tm 24))]
def qd:List SOp :=
 [o1 27 (.iaddr 1 (tm 23) (tm 25)),
 o1 28 (.load false 1 (tm 27)),
 o1 6 (.mv (tm 28))]
def qc:List SOp :=
 [o1 29 (.mv (tm 6)),
 o1 30 (.len true (tm 29)),
 o1 31 (.bin .gtr (tm 30) (iv 5000))]
def oG:List SOp :=
 [o1 2 (.mv (.av (.bool false)))]
def oF:List SOp :=
 [o1 32 (.bin .add (tm 25) (iv 1)),
 o1 25 (.mv (tm 32))]
def oE:List SOp :=
 [o1 33 (.bin .add (tm 9) (iv 1)),
 o1 9 (.mv (tm 33))]
def oD:List SOp :=
 [o1 2 (.mv (.av (.bool true)))]
def o3:aN:=⟨34,(.seq (.sreg qm [])
 (.seq (.seq (.sreg ql [])
 (.block 0 (.loop (.seq (.sreg qj [])
 (.seq (.cond (tm 10) .skip
 (.exit 0))
 (.seq (.block 1 (.seq (.sreg qi [true,false,false])
 (.seq (.seq (.sreg qh [true,false,false,false,false])
 (.cond (tm 21) (.seq (.sreg qg [])
 .ret)
 .skip))
 (.seq (.sreg qf [true,true,true,false])
 (.block 2 (.loop (.seq (.sreg qe [])
 (.seq (.cond (tm 26) .skip
 (.exit 2))
 (.seq (.block 3 (.seq (.sreg qd [true,false,false])
 (.seq (.sreg qc [true,false,false])
 (.cond (tm 31) (.seq (.sreg oG [])
 .ret)
 .skip))))
 (.sreg oF [true,false]))))))))))
 (.sreg oE [true,false])))))))
 (.seq (.sreg oD [])
 .ret))),[(.tmp 2)]⟩
attribute [push_cast] qm ql qj qi qh qg qf qe qd qc oG oF oE oD
theorem xh:aT Tryz.prog (fun _ _=>1) 15=some o3.raw:=by kernel_rfl
set_option maxHeartbeats 8000000
set_option maxRecDepth 100000
theorem D9 {l:List Atr} {cap:Option Nat} (hl:l.length≤1100000) (hz:∀ a∈l,a.2.length≤1100000) {L:List Blk} {K:AV→List Blk→Prop} (h:K (.sl (aB l) l.length none) L) :
   ad Tryz.prog 33 [.sl (aB l) l.length cap] L K:=by
 replace h:=hid h
 refine ae vP (by simp [ka]) ?_
 simp only [ka,an]
 refine wk ?_
 refine cJ (l:=[]) (n:=0) 3 2 rfl (Nat.zero_mul 2).symm ?_
 refine ak (fun m T' L'=>∃ (k:Nat) (C:List AV) (X:List Blk),m=l.length - k∧k≤l.length∧C=aB (l.take k)∧T'=[(8,.int .i64 (k:Int)),(7,.int .i64 l.length),(6,.sl (aB l) l.length cap),(3,.gsl C k L.length 2)]∧L'=L++(.spare k 2::X)) (CutS (b:=by simp)) ⟨0,[],[],rfl,Nat.zero_le _,rfl,rfl,rfl⟩ ?_
 rintro _ _ _ ⟨k,C,X,rfl,hk,hC,rfl,rfl⟩
 by_cases hlt:k<l.length
 · have g1:(k:Int)<(l.length:Int):=by omega
   have g2:IntKind.i64.wrap ((k:Int)+1)=(k:Int)+1:=af (by omega) (by omega)
   have e3:=im hlt
   have e4:k * 2+2≤(aB l).length:=by rw [gi];omega
   obtain ⟨⟨nm,vs⟩,ha⟩:∃ a,l.getD k ([],[])=a:=⟨_,rfl⟩
   have htk:aB (l.take (k+1))=aB (l.take k)++[.str nm,.sl (vs.map AV.str) vs.length none]:=by
     rw [List.take_succ_eq_append_getElem hlt,xn,show l[k]=(nm,vs) by rw [← ha];simp [hlt]]
     rfl
   have hvs:=hz (nm,vs) (by rw [← ha];simp [hlt])
   simp only at hvs
   rw [ha] at e3
   simp only [atA] at e3
   have e0:AV.frzL (vs.map AV.str)=vs.map AV.str:=tV vs
   replace htk:=hid htk
   replace hC:=hid hC
   clear ha hz
   refine wk ?_
   exact ap _ _ _ (by omega) (CutL (b:=by simp)) ⟨k+1,_,_,rfl,hlt,by rw [htk.out,hC.out],rfl,rfl⟩
 · have hke:k=l.length:=by omega
   subst hke
   have g1:¬ (l.length:Int)<(l.length:Int):=by omega
   rw [List.take_length] at hC
   subst hC
   have e0:=jN l
   refine wk ?_
   refine au ?_
   simp only [AV.frz,e0]
   exact aa (by simp only [AV.refs,ft]) h.out
theorem Fn {l:List Atr} {cap cap':Option Nat} (hl:l.length≤1100000) (hz:∀ a∈l,a.2.length≤1100000) {L:List Blk} {K:AV→List Blk→Prop} (h:K (.bool true) L) :
   ad Tryz.prog 30 [.sl (aB l) l.length cap,.sl (aB l) l.length cap'] L K:=by
 replace h:=hid h
 refine ae eK (by simp [cH]) ?_
 simp only [cH,an]
 refine wk ?_
 refine ak (fun m T' L'=>∃ k:Nat,m=l.length - k∧k≤l.length∧T'=[(14,.int .i64 (k:Int)),(13,.int .i64 l.length),(0,.sl (aB l) l.length cap),(1,.sl (aB l) l.length cap')]∧L=L') (CutS (b:=Nat.le_refl _)) ⟨0,rfl,Nat.zero_le _,rfl,rfl⟩ ?_
 rintro _ _ L' ⟨k,rfl,hk,rfl,e⟩
 subst e
 by_cases hlt:k<l.length
 · have g1:(k:Int)<(l.length:Int):=by omega
   have g2:IntKind.i64.wrap ((k:Int)+1)=(k:Int)+1:=af (by omega) (by omega)
   have e4:k * 2+1<(aB l).length:=by rw [gi];omega
   have e4':k * 2<(aB l).length:=by omega
   have e5:=xm hlt
   have e8:(aB l).getD (k * 2) .undef=.str (l.getD k ([],[])).1:=by
     have h3:=congrArg (fun l=>l[0]?) (im hlt)
     simp only [List.getElem?_take_of_lt (show 0<2 by omega),List.getElem?_drop,Nat.add_zero] at h3
     rw [List.getD_eq_getElem?_getD,h3];rfl
   obtain ⟨⟨nm,vs⟩,ha⟩:∃ a,l.getD k ([],[])=a:=⟨_,rfl⟩
   have hvs:=hz (nm,vs) (by rw [← ha];simp [hlt])
   simp only at hvs
   rw [ha] at e5 e8
   simp only [CF] at e5 e8
   clear ha
   refine wk ?_
   refine ak (fun m T' L'=>∃ j:Nat,m=vs.length - j∧j≤vs.length∧T'=[(49,.int .i64 (j:Int)),(48,.int .i64 vs.length),(5,.int .i64 (k:Int)),(14,.int .i64 (k:Int)),(13,.int .i64 l.length),(0,.sl (aB l) l.length cap),(1,.sl (aB l) l.length cap')]∧L=L') (CutS (b:=Nat.le_refl _)) ⟨0,rfl,Nat.zero_le _,rfl,rfl⟩ ?_
   rintro _ _ L' ⟨j,rfl,hj,rfl,e⟩
   subst e
   by_cases hjl:j<vs.length
   · have j1:(j:Int)<(vs.length:Int):=by omega
     have j2:IntKind.i64.wrap ((j:Int)+1)=(j:Int)+1:=af (by omega) (by omega)
     obtain ⟨v,hv⟩:∃ v,vs.getD j []=v:=⟨_,rfl⟩
     have g3:(vs.map AV.str).getD j .undef=.str v:=by rw [← hv];simp [hjl]
     clear hv
     refine wk ?_
     exact ap _ _ _ (by omega) (CutL (b:=by simp)) ⟨j+1,rfl,hjl,rfl,rfl⟩
   · have j1:¬ (j:Int)<(vs.length:Int):=by omega
     refine wk ?_
     exact ap _ _ _ (by omega) (CutL (b:=by simp)) ⟨k+1,rfl,hlt,rfl,rfl⟩
 · have g1:¬ (k:Int)<(l.length:Int):=by omega
   refine wk ?_
   exact aj h.out
def zp (n:Nat) (a:Atr):Bool:=decide (n≤60) && decide (a.2.length≤60) && a.2.all fun v=>decide (v.length≤5000)
def Ex (l:List Atr):Bool:=l.all (zp l.length)
theorem Ga {l:List Atr} {cap:Option Nat} (hl:(l.length:Int)≤9223372036854775807) (hz:∀ a∈l,(a.2.length:Int)≤9223372036854775807) {L:List Blk} {K:AV→List Blk→Prop} (h:K (.bool (Ex l)) L) :
   ad Tryz.prog 15 [.sl (aB l) l.length cap] L K:=by
 obtain ⟨R,hR⟩:∃ R,l.all (zp l.length)=R:=⟨_,rfl⟩
 rw [Ex,hR] at h
 replace h:=hid h
 replace hR:=hid hR
 refine ae xh (by simp [o3]) ?_
 simp only [o3,an]
 refine wk ?_
 refine ak (fun m T' L'=>∃ (k:Nat) (X:List Blk),m=l.length - k∧k≤l.length∧Hid ((l.drop k).all (zp l.length)=R)∧T'=[(9,.int .i64 (k:Int)),(8,.int .i64 l.length),(7,.sl (aB l) l.length cap),(0,.sl (aB l) l.length cap)]∧L'=L++X) (CutS (b:=by simp)) ⟨0,[],rfl,Nat.zero_le _,hid (by simpa using hR.out),rfl,by simp⟩ ?_
 rintro _ _ _ ⟨k,X,rfl,hk,hI,rfl,rfl⟩
 by_cases hlt:k<l.length
 · have g1:(k:Int)<(l.length:Int):=by omega
   have g2:IntKind.i64.wrap ((k:Int)+1)=(k:Int)+1:=af (by omega) (by omega)
   have e3:=im hlt
   have e4:k * 2+2≤(aB l).length:=by rw [gi];omega
   obtain ⟨⟨nm,vs⟩,ha⟩:∃ a,l.getD k ([],[])=a:=⟨_,rfl⟩
   have hdr:l.drop k=(nm,vs)::l.drop (k+1):=by rw [List.drop_eq_getElem_cons hlt,← ha];simp [hlt]
   have hvs:=hz (nm,vs) (by rw [← ha];simp [hlt])
   simp only at hvs
   rw [ha] at e3
   simp only [atA] at e3
   have hI2:=hI.out
   rw [hdr,List.all_cons] at hI2
   have no:zp l.length (nm,vs)=false→K (.bool false) L:=fun e=>by
     rw [e,Bool.false_and] at hI2
     have:=h.out
     rwa [← hI2] at this
   replace no:=hid no
   clear hI hdr ha hz hR
   by_cases h1:(60:Int)<(l.length:Int)
   · have h':=hid (no.out (by simp [zp];omega))
     clear hI2
     refine wk ?_
     exact aa rfl h'.out
   by_cases h2:(60:Int)<(vs.length:Int)
   · have h':=hid (no.out (by simp [zp];omega))
     clear hI2
     refine wk ?_
     exact aa rfl h'.out
   obtain ⟨rv,hrv⟩:∃ r,vs.all (fun v=>decide (v.length≤5000))=r:=⟨_,rfl⟩
   have hfe:zp l.length (nm,vs)=rv:=by
     rw [zp,hrv,decide_eq_true (by omega),decide_eq_true (by simp only;omega)];rfl
   rw [hfe] at hI2
   replace hI2:=hid hI2
   replace hrv:=hid hrv
   replace no:=hid (fun e:rv=false=>no.out (hfe.trans e))
   clear hfe
   refine wk ?_
   refine ak (fun m T' L'=>∃ j:Nat,m=vs.length - j∧j≤vs.length∧Hid ((vs.drop j).all (fun v=>decide (v.length≤5000))=rv)∧T'=[(25,.int .i64 (j:Int)),(24,.int .i64 vs.length),(23,.sl (vs.map AV.str) vs.length none),(9,.int .i64 (k:Int)),(8,.int .i64 l.length),(7,.sl (aB l) l.length cap),(0,.sl (aB l) l.length cap)]∧L'=L++(X++[.cells [.str nm,.sl (vs.map AV.str) vs.length none]])) (CutS (b:=by simp)) ⟨0,rfl,Nat.zero_le _,hid (by simpa using hrv.out),rfl,by simp⟩ ?_
   rintro _ _ _ ⟨j,rfl,hj,hJ,rfl,rfl⟩
   by_cases hjl:j<vs.length
   · have j1:(j:Int)<(vs.length:Int):=by omega
     have j2:IntKind.i64.wrap ((j:Int)+1)=(j:Int)+1:=af (by omega) (by omega)
     obtain ⟨v,hv⟩:∃ v,vs.getD j []=v:=⟨_,rfl⟩
     have g3:(vs.map AV.str).getD j .undef=.str v:=by rw [← hv];simp [hjl]
     have hdr:vs.drop j=v::vs.drop (j+1):=by rw [List.drop_eq_getElem_cons hjl,← hv];simp [hjl]
     have hJ2:=hJ.out
     rw [hdr,List.all_cons] at hJ2
     clear hv hdr hJ
     by_cases h3:(5000:Int)<(v.length:Int)
     · have h':=hid (no.out (by rw [← hJ2,decide_eq_false (by omega),Bool.false_and]))
       clear hJ2
       refine wk ?_
       exact aa rfl h'.out
     · rw [decide_eq_true (by omega),Bool.true_and] at hJ2
       replace hJ2:=hid hJ2
       refine wk ?_
       exact ap _ _ _ (by omega) (CutL (b:=by simp)) ⟨j+1,rfl,hjl,hJ2,rfl,rfl⟩
   · have j1:¬ (j:Int)<(vs.length:Int):=by omega
     have hJ2:=hJ.out
     rw [List.drop_eq_nil_of_le (by omega),List.all_nil] at hJ2
     have hI3:=hI2.out
     rw [← hJ2,Bool.true_and] at hI3
     replace hI3:=hid hI3
     clear hJ hJ2
     refine wk ?_
     exact ap _ _ _ (by omega) (CutL (b:=by simp)) ⟨k+1,_,rfl,hlt,hI3,rfl,rfl⟩
 · have hke:k=l.length:=by omega
   subst hke
   have g1:¬ (l.length:Int)<(l.length:Int):=by omega
   have hI2:=hI.out
   rw [List.drop_length,List.all_nil] at hI2
   have h':=h.out
   rw [← hI2] at h'
   replace h':=hid h'
   clear hI hI2 hR
   refine wk ?_
   exact aa rfl h'.out
end Go.Proofs.YtgpnbkdcdmfgcaaGreat.Av
