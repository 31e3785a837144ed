/- Joined texts of the walk, made small by a program. -/
import Derived.Test.YtgpnbkdcdmfgcaaGreatXP5
import Derived.Test.YtgpnbkdcdmfgcaaGreatXP4
import Derived.Test.YtgpnbkdcdmfgcaaGreatRows
import Derived.KernelRfl
set_option linter.unusedSimpArgs false
set_option linter.unusedVariables false
namespace Go.Proofs.YtgpnbkdcdmfgcaaGreat.Av
open Go
set_option maxHeartbeats 8000000
set_option maxRecDepth 100000
abbrev Atr:=List UInt8×List (List UInt8)
theorem H0 (p:Nat→Bool) (xs:List (List UInt8)):AV.refsL p (xs.map AV.str)=true:=AV.refsL_iff.2 fun a ha=>by
 obtain ⟨x,_,rfl⟩:=List.mem_map.1 ha
 rfl
abbrev atA (a:Atr):List AV:=[.str a.1,.sl (a.2.map AV.str) a.2.length none]
def bI (l:List Atr):List AV:=l.flatMap atA
theorem vt (a:Atr) (l:List Atr):bI (a::l)=.str a.1 :: .sl (a.2.map AV.str) a.2.length none::bI l:=rfl
theorem Dx (l m:List Atr):bI (l++m)=bI l++bI m:=by simp [bI]
theorem AA (l:List Atr):(bI l).length=l.length * 2:=by
 induction l with
 | nil=>rfl
 | cons a l ih=>rw [vt];simp only [List.length_cons];omega
theorem m7 (p:Nat→Bool):∀ l:List Atr,AV.refsL p (bI l)=true
 | []=>rfl
 | a::l=>by rw [vt];simp [AV.refsL,AV.refs,H0,m7 p l]
theorem At (l:List (List UInt8)):AV.frzL (l.map AV.str)=l.map AV.str:=by rw [AV.frzL_eq,List.map_map];rfl
theorem vd:∀ l:List Atr,AV.frzL (bI l)=bI l
 | []=>rfl
 | a::l=>by rw [vt];simp only [AV.frzL,AV.frz,At,vd l]
theorem vu:∀ {l:List Atr} {k:Nat},k<l.length→((bI l).drop (k * 2)).take 2=atA (l.getD k ([],[]))
 | a::l,0,_=>rfl
 | a::l,k+1,h=>by
   have ih:=@vu l k (by simpa using h)
   rw [show (k+1) * 2=k * 2+1+1 by omega,vt]
   simpa using ih
abbrev Mw (l:List (List UInt8)):AV:=.sl (l.map AV.str) l.length none
theorem JY {l:List Atr} {k:Nat} (hk:k<l.length):(bI l).getD (k * 2+1) .undef=Mw (l.getD k ([],[])).2:=by
 have h2:=congrArg (fun l=>l[1]?) (vu hk)
 simp only [List.getElem?_take_of_lt (show 1<2 by omega),List.getElem?_drop] at h2
 rw [List.getD_eq_getElem?_getD,h2]
 rfl
end Go.Proofs.YtgpnbkdcdmfgcaaGreat.Av
set_option maxRecDepth 100000
namespace Go.Proofs.YtgpnbkdcdmfgcaaGreat.Av
open Go
def sO:List SOp :=
 [o1 4 (.mv (.av (.bool false)))]
def sN:List SOp :=
 [o1 7 (.mv (tm 0)),
 o1 8 (.len false (tm 7)),
 o1 9 (.mv (tm 1)),
 o1 10 (.len false (tm 9)),
 o1 11 (.bin .neq (tm 8) (tm 10))]
def sM:List SOp :=
 [o1 4 (.mv (.av (.bool false)))]
def sL:List SOp :=
 [o1 12 (.mv (tm 0)),
 o1 13 (.len false (tm 12)),
 o1 14 (.mv (iv 0))]
def sK:List SOp :=
 [o1 15 (.bin .lss (tm 14) (tm 13))]
def sJ:List SOp :=
 [o1 16 (.mv (tm 14)),
 o1 5 (.mv (tm 16))]
def sI:List SOp :=
 [o1 17 (.mv (tm 0)),
 o1 18 (.mv (tm 5)),
 o1 19 (.iaddr 2 (tm 17) (tm 18)),
 o1 20 (.faddr 0 (tm 19)),
 o1 21 (.load false 1 (tm 20)),
 o1 22 (.mv (tm 1)),
 o1 23 (.mv (tm 5)),
 o1 24 (.iaddr 2 (tm 22) (tm 23)),
 o1 25 (.faddr 0 (tm 24)),
 o1 26 (.load false 1 (tm 25)),
 o1 27 (.bin .neq (tm 21) (tm 26)),
 o1 28 (.mv (tm 27)),
 .grp none 28 false
 [og 29 28 false (.mv (tm 0)),
 og 30 28 false (.mv (tm 5)),
 og 31 28 false (.iaddr 2 (tm 29) (tm 30)),
 og 32 28 false (.faddr 1 (tm 31)),
 og 33 28 false (.load false 1 (tm 32)),
 og 34 28 false (.len false (tm 33)),
 og 35 28 false (.mv (tm 1)),
 og 36 28 false (.mv (tm 5)),
 og 37 28 false (.iaddr 2 (tm 35) (tm 36)),
 og 38 28 false (.faddr 1 (tm 37)),
 og 39 28 false (.load false 1 (tm 38)),
 og 40 28 false (.len false (tm 39)),
 og 41 28 false (.bin .neq (tm 34) (tm 40))]
 42 (tm 41)]
def sH:List SOp :=
 [o1 4 (.mv (.av (.bool false)))]
def sG:List SOp :=
 [o1 43 (.mv (tm 0)),
 o1 44 (.mv (tm 5)),
 o1 45 (.iaddr 2 (tm 43) (tm 44)),
 o1 46 (.faddr 1 (tm 45)),
 o1 47 (.load false 1 (tm 46)),
 o1 48 (.len false (tm 47)),
 o1 49 (.mv (iv 0))]
def sF:List SOp :=
 [o1 50 (.bin .lss (tm 49) (tm 48))]
def oW:List SOp :=
 [o1 51 (.mv (tm 49)),
 o1 6 (.mv (tm 51))]
def oV:List SOp :=
 [o1 52 (.mv (tm 0)),
 o1 53 (.mv (tm 5)),
 o1 54 (.iaddr 2 (tm 52) (tm 53)),
 o1 55 (.faddr 1 (tm 54)),
 o1 56 (.load false 1 (tm 55)),
 o1 57 (.mv (tm 6)),
 o1 58 (.iaddr 1 (tm 56) (tm 57)),
 o1 59 (.load false 1 (tm 58)),
 o1 60 (.mv (tm 1)),
 o1 61 (.mv (tm 5)),
 o1 62 (.iaddr 2 (tm 60) (tm 61)),
 o1 63 (.faddr 1 (tm 62)),
 o1 64 (.load false 1 (tm 63)),
 o1 65 (.mv (tm 6)),
 o1 66 (.iaddr 1 (tm 64) (tm 65)),
 o1 67 (.load false 1 (tm 66)),
 o1 68 (.bin .neq (tm 59) (tm 67))]
def oU:List SOp :=
 [o1 4 (.mv (.av (.bool false)))]
def oT:List SOp :=
 [o1 69 (.bin .add (tm 49) (iv 1)),
 o1 49 (.mv (tm 69))]
def oS:List SOp :=
 [o1 70 (.bin .add (tm 14) (iv 1)),
 o1 14 (.mv (tm 70))]
def oR:List SOp :=
 [o1 4 (.mv (.av (.bool true)))]
def nr:aK:=⟨71,(.seq (.sreg sO [])
 (.seq (.seq (.sreg sN [true,false,false,false,false])
 (.cond (tm 11) (.seq (.sreg sM [])
 .ret)
 .skip))
 (.seq (.seq (.sreg sL [true,true,false])
 (.block 0 (.loop (.seq (.sreg sK [])
 (.seq (.cond (tm 15) .skip
 (.exit 0))
 (.seq (.block 1 (.seq (.sreg sJ [true,false])
 (.seq (.seq (.sdreg sI [.pure,.pure,(.read 0 0),.pure,(.read 0 0),.pure,.pure,(.read 0 0),.pure,(.read 0 0),.pure,.pure,.pure,.pure,(.read 0 0),.pure,(.read 0 0),(.read 0 0),.pure,.pure,(.read 0 0),.pure,(.read 0 0),(.read 0 0)] [true,false,false,false,false,false,false,false,false,false,false,false,false])
 (.cond (tm 42) (.seq (.sreg sH [])
 .ret)
 .skip))
 (.seq (.sreg sG [true,true,false,false,false,false,false])
 (.block 2 (.loop (.seq (.sreg sF [])
 (.seq (.cond (tm 50) .skip
 (.exit 2))
 (.seq (.block 3 (.seq (.sreg oW [true,false])
 (.seq (.sdreg oV [.pure,.pure,(.read 0 0),.pure,(.read 0 0),.pure,(.read 0 0),(.read 0 0),.pure,.pure,(.read 0 0),.pure,(.read 0 0),.pure,(.read 0 0),(.read 0 0)] [true,false,false,false,false,false,false,false,false,false,false,false,false,false,false,false,false])
 (.cond (tm 68) (.seq (.sreg oU [])
 .ret)
 .skip))))
 (.sreg oT [true,false]))))))))))
 (.sreg oS [true,false])))))))
 (.seq (.sreg oR [])
 .ret)))),[(.tmp 4)]⟩
attribute [push_cast] sO sN sM sL sK sJ sI sH sG sF oW oV oU oT oS oR
theorem Ce:aQ Tryz.prog (fun _ _=>1) 30=some nr.raw:=by kernel_rfl
set_option maxHeartbeats 8000000
set_option maxRecDepth 100000
theorem LG {l:List Atr} {cap cap':Option Nat} (hl:l.length≤1100000) (hz:∀ a∈l,a.2.length≤1100000) {L:List Blk} {K:AV→List Blk→Prop} (h:K (.bool true) L) :
   ad Tryz.prog 30 [.sl (bI l) l.length cap,.sl (bI l) l.length cap'] L K:=by
 replace h:=hid h
 refine ac Ce (by simp [nr]) ?_
 simp only [nr,aj]
 refine wk ?_
 refine ak (fun m T' L'=>∃ k:Nat,m=l.length - k∧k≤l.length∧T'=[(14,.int .i64 (k:Int)),(13,.int .i64 l.length),(0,.sl (bI l) l.length cap),(1,.sl (bI l) l.length cap')]∧L=L') (CutS (b:=Nat.le_refl _)) ⟨0,rfl,Nat.zero_le _,rfl,rfl⟩ ?_
 rintro _ _ L' ⟨k,rfl,hk,rfl,e⟩
 subst e
 by_cases hlt:k<l.length
 · have g1:(k:Int)<(l.length:Int):=by omega
   have g2:IntKind.i64.wrap ((k:Int)+1)=(k:Int)+1:=ab (by omega) (by omega)
   have e4:k * 2+1<(bI l).length:=by rw [AA];omega
   have e4':k * 2<(bI l).length:=by omega
   have e5:=JY hlt
   have e8:(bI l).getD (k * 2) .undef=.str (l.getD k ([],[])).1:=by
     have h3:=congrArg (fun l=>l[0]?) (vu hlt)
     simp only [List.getElem?_take_of_lt (show 0<2 by omega),List.getElem?_drop,Nat.add_zero] at h3
     rw [List.getD_eq_getElem?_getD,h3];rfl
   obtain ⟨⟨nm,vs⟩,ha⟩:∃ a,l.getD k ([],[])=a:=⟨_,rfl⟩
   have hvs:=hz (nm,vs) (by rw [← ha];simp [hlt])
   simp only at hvs
   rw [ha] at e5 e8
   simp only [Mw] at e5 e8
   clear ha
   refine wk ?_
   refine ak (fun m T' L'=>∃ j:Nat,m=vs.length - j∧j≤vs.length∧T'=[(49,.int .i64 (j:Int)),(48,.int .i64 vs.length),(5,.int .i64 (k:Int)),(14,.int .i64 (k:Int)),(13,.int .i64 l.length),(0,.sl (bI l) l.length cap),(1,.sl (bI l) l.length cap')]∧L=L') (CutS (b:=Nat.le_refl _)) ⟨0,rfl,Nat.zero_le _,rfl,rfl⟩ ?_
   rintro _ _ L' ⟨j,rfl,hj,rfl,e⟩
   subst e
   by_cases hjl:j<vs.length
   · have j1:(j:Int)<(vs.length:Int):=by omega
     have j2:IntKind.i64.wrap ((j:Int)+1)=(j:Int)+1:=ab (by omega) (by omega)
     obtain ⟨v,hv⟩:∃ v,vs.getD j []=v:=⟨_,rfl⟩
     have g3:(vs.map AV.str).getD j .undef=.str v:=by rw [← hv];simp [hjl]
     clear hv
     refine wk ?_
     exact an _ _ _ (by omega) (CutL (b:=by simp)) ⟨j+1,rfl,hjl,rfl,rfl⟩
   · have j1:¬ (j:Int)<(vs.length:Int):=by omega
     refine wk ?_
     exact an _ _ _ (by omega) (CutL (b:=by simp)) ⟨k+1,rfl,hlt,rfl,rfl⟩
 · have g1:¬ (k:Int)<(l.length:Int):=by omega
   refine wk ?_
   exact aq h.out
end Go.Proofs.YtgpnbkdcdmfgcaaGreat.Av
