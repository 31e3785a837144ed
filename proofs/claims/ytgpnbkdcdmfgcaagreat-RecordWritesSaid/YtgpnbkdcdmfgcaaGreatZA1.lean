/- Joined texts of the walk, made small by a program. -/
import Derived.Test.YtgpnbkdcdmfgcaaGreatZP5
import Derived.Test.YtgpnbkdcdmfgcaaGreatZP4
import Derived.Test.YtgpnbkdcdmfgcaaGreatRows
import Derived.KernelRfl
set_option linter.unusedSimpArgs false
set_option linter.unusedVariables false
namespace Go.Proofs.YtgpnbkdcdmfgcaaGreat.Av
open Go
set_option maxHeartbeats 8000000
set_option maxRecDepth 100000
abbrev Atr:=List UInt8×List (List UInt8)
theorem EA (p:Nat→Bool) (xs:List (List UInt8)):AV.refsL p (xs.map AV.str)=true:=AV.refsL_iff.2 fun a ha=>by
 obtain ⟨x,_,rfl⟩:=List.mem_map.1 ha
 rfl
abbrev atA (a:Atr):List AV:=[.str a.1,.sl (a.2.map AV.str) a.2.length none]
def aP (l:List Atr):List AV:=l.flatMap atA
theorem rL (a:Atr) (l:List Atr):aP (a::l)=.str a.1 :: .sl (a.2.map AV.str) a.2.length none::aP l:=rfl
theorem Ax (l m:List Atr):aP (l++m)=aP l++aP m:=by simp [aP]
theorem kP (l:List Atr):(aP l).length=l.length * 2:=by
 induction l with
 | nil=>rfl
 | cons a l ih=>rw [rL];simp only [List.length_cons];omega
theorem fu (p:Nat→Bool):∀ l:List Atr,AV.refsL p (aP l)=true
 | []=>rfl
 | a::l=>by rw [rL];simp [AV.refsL,AV.refs,EA,fu p l]
theorem xf (l:List (List UInt8)):AV.frzL (l.map AV.str)=l.map AV.str:=by rw [AV.frzL_eq,List.map_map];rfl
theorem kQ:∀ l:List Atr,AV.frzL (aP l)=aP l
 | []=>rfl
 | a::l=>by rw [rL];simp only [AV.frzL,AV.frz,xf,kQ l]
theorem iI:∀ {l:List Atr} {k:Nat},k<l.length→((aP l).drop (k * 2)).take 2=atA (l.getD k ([],[]))
 | a::l,0,_=>rfl
 | a::l,k+1,h=>by
   have ih:=@iI l k (by simpa using h)
   rw [show (k+1) * 2=k * 2+1+1 by omega,rL]
   simpa using ih
abbrev Hn (l:List (List UInt8)):AV:=.sl (l.map AV.str) l.length none
theorem GB {l:List Atr} {k:Nat} (hk:k<l.length):(aP l).getD (k * 2+1) .undef=Hn (l.getD k ([],[])).2:=by
 have h2:=congrArg (fun l=>l[1]?) (iI hk)
 simp only [List.getElem?_take_of_lt (show 1<2 by omega),List.getElem?_drop] at h2
 rw [List.getD_eq_getElem?_getD,h2]
 rfl
end Go.Proofs.YtgpnbkdcdmfgcaaGreat.Av
set_option maxRecDepth 100000
namespace Go.Proofs.YtgpnbkdcdmfgcaaGreat.Av
open Go
def oZ:List SOp :=
 [o1 2 (.mv (.av (.sl [] 0 (some 0))))]
def oY:List SOp :=
 [o1 3 (.mv (.av (.sl [] 0 (some 0))))]
def oX:List SOp :=
 [o1 6 (.mv (tm 0)),
 o1 7 (.len false (tm 6)),
 o1 8 (.mv (iv 0))]
def oW:List SOp :=
 [o1 9 (.bin .lss (tm 8) (tm 7))]
def oV:List SOp :=
 [o1 10 (.iaddr 2 (tm 6) (tm 8)),
 o1 11 (.load true 2 (tm 10)),
 o1 5 (.alloc [(.str []),(.sl [] 0 (some 0))]),
 o0 (.store 2 (tm 5) (tm 11))]
def oU:List (ag×Kd) :=
 [od 12 (.mv (tm 3)) .pure,
 od 13 (.faddr 0 (tm 5)) .pure,
 od 14 (.load false 1 (tm 13)) (.read 0 1),
 od 15 (.bslice false 1 0 [] []) (.read 0 0),
 od 16 (.faddr 1 (tm 5)) .pure,
 od 17 (.load false 1 (tm 16)) (.read 0 0),
 od 18 (.app 0 1 16 [(.str [])] (tm 15) (tm 17)) .eff,
 od 19 (.build [(.str []),(.sl [] 0 (some 0))] [(0,(1,(tm 14))),(1,(1,(tm 18)))]) .pure,
 od 20 (.bslice false 2 1 [(.str []),(.sl [] 0 (some 0))] [(0,(2,(tm 19)))]) (.read 0 0)]
def l4:List ag :=
 [⟨(some 21),(.app 1 2 40 [(.str []),(.sl [] 0 (some 0))] (tm 12) (tm 20)),none⟩,
 ⟨(some 3),(.mv (tm 21)),none⟩]
def oT:List SOp :=
 [o1 22 (.bin .add (tm 8) (iv 1)),
 o1 8 (.mv (tm 22))]
def oS:List SOp :=
 [o1 23 (.mv (tm 3)),
 o1 2 (.mv (tm 23))]
def ln:aJ:=⟨24,(.seq (.sreg oZ [])
 (.seq (.sreg oY [])
 (.seq (.seq (.sreg oX [])
 (.block 0 (.loop (.seq (.sreg oW [])
 (.seq (.cond (tm 9) .skip
 (.exit 0))
 (.seq (.block 1 (.seq (.sreg oV [true,false,false])
 (.dregM oU l4 [true,false,false,false,false,false,false,false,false,false,false])))
 (.sreg oT [true,false])))))))
 (.seq (.sreg oS [true,false])
 .ret)))),[(.tmp 2)]⟩
attribute [push_cast] oZ oY oX oW oV oU l4 oT oS
theorem yX:aN Tryz.prog (fun r i=>if r=5∧i=6 then 0 else 1) 33=some ln.raw:=by kernel_rfl
def pf:List SOp :=
 [o1 4 (.mv (.av (.bool false)))]
def pd:List SOp :=
 [o1 7 (.mv (tm 0)),
 o1 8 (.len false (tm 7)),
 o1 9 (.mv (tm 1)),
 o1 10 (.len false (tm 9)),
 o1 11 (.bin .neq (tm 8) (tm 10))]
def pc:List SOp :=
 [o1 4 (.mv (.av (.bool false)))]
def o9:List SOp :=
 [o1 12 (.mv (tm 0)),
 o1 13 (.len false (tm 12)),
 o1 14 (.mv (iv 0))]
def o8:List SOp :=
 [o1 15 (.bin .lss (tm 14) (tm 13))]
def o7:List SOp :=
 [o1 16 (.mv (tm 14)),
 o1 5 (.mv (tm 16))]
def o6:List SOp :=
 [o1 17 (.mv (tm 0)),
 o1 18 (.mv (tm 5)),
 o1 19 (.iaddr 2 (tm 17) (tm 18)),
 o1 20 (.faddr 0 (tm 19)),
 o1 21 (.load false 1 (tm 20)),
 o1 22 (.mv (tm 1)),
 o1 23 (.mv (tm 5)),
 o1 24 (.iaddr 2 (tm 22) (tm 23)),
 o1 25 (.faddr 0 (tm 24)),
 o1 26 (.load false 1 (tm 25)),
 o1 27 (.bin .neq (tm 21) (tm 26)),
 o1 28 (.mv (tm 27)),
 .grp none 28 false
 [og 29 28 false (.mv (tm 0)),
 og 30 28 false (.mv (tm 5)),
 og 31 28 false (.iaddr 2 (tm 29) (tm 30)),
 og 32 28 false (.faddr 1 (tm 31)),
 og 33 28 false (.load false 1 (tm 32)),
 og 34 28 false (.len false (tm 33)),
 og 35 28 false (.mv (tm 1)),
 og 36 28 false (.mv (tm 5)),
 og 37 28 false (.iaddr 2 (tm 35) (tm 36)),
 og 38 28 false (.faddr 1 (tm 37)),
 og 39 28 false (.load false 1 (tm 38)),
 og 40 28 false (.len false (tm 39)),
 og 41 28 false (.bin .neq (tm 34) (tm 40))]
 42 (tm 41)]
def o5:List SOp :=
 [o1 4 (.mv (.av (.bool false)))]
def o4:List SOp :=
 [o1 43 (.mv (tm 0)),
 o1 44 (.mv (tm 5)),
 o1 45 (.iaddr 2 (tm 43) (tm 44)),
 o1 46 (.faddr 1 (tm 45)),
 o1 47 (.load false 1 (tm 46)),
 o1 48 (.len false (tm 47)),
 o1 49 (.mv (iv 0))]
def o3:List SOp :=
 [o1 50 (.bin .lss (tm 49) (tm 48))]
def ma:List SOp :=
 [o1 51 (.mv (tm 49)),
 o1 6 (.mv (tm 51))]
def l9:List SOp :=
 [o1 52 (.mv (tm 0)),
 o1 53 (.mv (tm 5)),
 o1 54 (.iaddr 2 (tm 52) (tm 53)),
 o1 55 (.faddr 1 (tm 54)),
 o1 56 (.load false 1 (tm 55)),
 o1 57 (.mv (tm 6)),
 o1 58 (.iaddr 1 (tm 56) (tm 57)),
 o1 59 (.load false 1 (tm 58)),
 o1 60 (.mv (tm 1)),
 o1 61 (.mv (tm 5)),
 o1 62 (.iaddr 2 (tm 60) (tm 61)),
 o1 63 (.faddr 1 (tm 62)),
 o1 64 (.load false 1 (tm 63)),
 o1 65 (.mv (tm 6)),
 o1 66 (.iaddr 1 (tm 64) (tm 65)),
 o1 67 (.load false 1 (tm 66)),
 o1 68 (.bin .neq (tm 59) (tm 67))]
def l8:List SOp :=
 [o1 4 (.mv (.av (.bool false)))]
def l7:List SOp :=
 [o1 69 (.bin .add (tm 49) (iv 1)),
 o1 49 (.mv (tm 69))]
def l6:List SOp :=
 [o1 70 (.bin .add (tm 14) (iv 1)),
 o1 14 (.mv (tm 70))]
def l5:List SOp :=
 [o1 4 (.mv (.av (.bool true)))]
def lp:aJ:=⟨71,(.seq (.sreg pf [])
 (.seq (.seq (.sreg pd [true,false,false,false,false])
 (.cond (tm 11) (.seq (.sreg pc [])
 .ret)
 .skip))
 (.seq (.seq (.sreg o9 [true,true,false])
 (.block 0 (.loop (.seq (.sreg o8 [])
 (.seq (.cond (tm 15) .skip
 (.exit 0))
 (.seq (.block 1 (.seq (.sreg o7 [true,false])
 (.seq (.seq (.sdreg o6 [.pure,.pure,(.read 0 0),.pure,(.read 0 0),.pure,.pure,(.read 0 0),.pure,(.read 0 0),.pure,.pure,.pure,.pure,(.read 0 0),.pure,(.read 0 0),(.read 0 0),.pure,.pure,(.read 0 0),.pure,(.read 0 0),(.read 0 0)] [true,false,false,false,false,false,false,false,false,false,false,false,false])
 (.cond (tm 42) (.seq (.sreg o5 [])
 .ret)
 .skip))
 (.seq (.sreg o4 [true,true,false,false,false,false,false])
 (.block 2 (.loop (.seq (.sreg o3 [])
 (.seq (.cond (tm 50) .skip
 (.exit 2))
 (.seq (.block 3 (.seq (.sreg ma [true,false])
 (.seq (.sdreg l9 [.pure,.pure,(.read 0 0),.pure,(.read 0 0),.pure,(.read 0 0),(.read 0 0),.pure,.pure,(.read 0 0),.pure,(.read 0 0),.pure,(.read 0 0),(.read 0 0)] [true,false,false,false,false,false,false,false,false,false,false,false,false,false,false,false,false])
 (.cond (tm 68) (.seq (.sreg l8 [])
 .ret)
 .skip))))
 (.sreg l7 [true,false]))))))))))
 (.sreg l6 [true,false])))))))
 (.seq (.sreg l5 [])
 .ret)))),[(.tmp 4)]⟩
attribute [push_cast] pf pd pc o9 o8 o7 o6 o5 o4 o3 ma l9 l8 l7 l6 l5
theorem yY:aN Tryz.prog (fun _ _=>1) 30=some lp.raw:=by kernel_rfl
def tx:List SOp :=
 [o1 2 (.mv (.av (.bool false)))]
def tw:List SOp :=
 [o1 7 (.mv (tm 0)),
 o1 8 (.len false (tm 7)),
 o1 9 (.mv (iv 0))]
def tv:List SOp :=
 [o1 10 (.bin .lss (tm 9) (tm 8))]
def tu:List SOp :=
 [o1 11 (.iaddr 2 (tm 7) (tm 9)),
 o1 12 (.load true 2 (tm 11)),
 o1 4 (.alloc [(.str []),(.sl [] 0 (some 0))]),
 o0 (.store 2 (tm 4) (tm 12))]
def tt:List SOp :=
 [o1 13 (.mv (tm 0)),
 o1 14 (.len false (tm 13)),
 o1 15 (.bin .gtr (tm 14) (iv 60)),
 o1 16 (.mv (tm 15)),
 .grp none 16 false
 [og 17 16 false (.faddr 1 (tm 4)),
 og 18 16 false (.load false 1 (tm 17)),
 og 19 16 false (.len false (tm 18)),
 og 20 16 false (.bin .gtr (tm 19) (iv 60))]
 21 (tm 20)]
def tq:List SOp :=
 [o1 2 (.mv (.av (.bool false)))]
def tp:List SOp :=
 [o1 22 (.faddr 1 (tm 4)),
 o1 23 (.load false 1 (tm 22)),
 o1 24 (.len false (tm 23)),
 o1 25 (.mv (iv 0))]
def tn:List SOp :=
 [o1 26 (.bin .lss (tm 25) (tm 24))]
def tj:List SOp :=
 [o1 27 (.iaddr 1 (tm 23) (tm 25)),
 o1 28 (.load false 1 (tm 27)),
 o1 6 (.mv (tm 28))]
def ti:List SOp :=
 [o1 29 (.mv (tm 6)),
 o1 30 (.len true (tm 29)),
 o1 31 (.bin .gtr (tm 30) (iv 5000))]
def qW:List SOp :=
 [o1 2 (.mv (.av (.bool false)))]
def qV:List SOp :=
 [o1 32 (.bin .add (tm 25) (iv 1)),
 o1 25 (.mv (tm 32))]
def qU:List SOp :=
 [o1 33 (.bin .add (tm 9) (iv 1)),
 o1 9 (.mv (tm 33))]
def qT:List SOp :=
 [o1 2 (.mv (.av (.bool true)))]
def rx:aJ:=⟨34,(.seq (.sreg tx [])
 (.seq (.seq (.sreg tw [])
 (.block 0 (.loop (.seq (.sreg tv [])
 (.seq (.cond (tm 10) .skip
 (.exit 0))
 (.seq (.block 1 (.seq (.sreg tu [true,false,false])
 (.seq (.seq (.sreg tt [true,false,false,false,false])
 (.cond (tm 21) (.seq (.sreg tq [])
 .ret)
 .skip))
 (.seq (.sreg tp [true,true,true,false])
 (.block 2 (.loop (.seq (.sreg tn [])
 (.seq (.cond (tm 26) .skip
 (.exit 2))
 (.seq (.block 3 (.seq (.sreg tj [true,false,false])
 (.seq (.sreg ti [true,false,false])
 (.cond (tm 31) (.seq (.sreg qW [])
 .ret)
 .skip))))
 (.sreg qV [true,false]))))))))))
 (.sreg qU [true,false])))))))
 (.seq (.sreg qT [])
 .ret))),[(.tmp 2)]⟩
attribute [push_cast] tx tw tv tu tt tq tp tn tj ti qW qV qU qT
theorem Ar:aN Tryz.prog (fun _ _=>1) 15=some rx.raw:=by kernel_rfl
set_option maxHeartbeats 8000000
set_option maxRecDepth 100000
theorem Hk {l:List Atr} {cap:Option Nat} (hl:l.length≤1000000) (hz:∀ a∈l,a.2.length≤1000000) {L:List Blk} {K:AV→List Blk→Prop} (h:K (.sl (aP l) l.length none) L) :
   ab Tryz.prog 33 [.sl (aP l) l.length cap] L K:=by
 replace h:=hid h
 refine af yX (by simp [ln]) ?_
 simp only [ln,an]
 refine wk ?_
 refine cK (l:=[]) (n:=0) 3 2 rfl (Nat.zero_mul 2).symm ?_
 refine ai (fun m T' L'=>∃ (k:Nat) (C:List AV) (X:List Blk),m=l.length - k∧k≤l.length∧C=aP (l.take k)∧T'=[(8,.int .i64 (k:Int)),(7,.int .i64 l.length),(6,.sl (aP l) l.length cap),(3,.gsl C k L.length 2)]∧L'=L++(.spare k 2::X)) (CutS (b:=by simp)) ⟨0,[],[],rfl,Nat.zero_le _,rfl,rfl,rfl⟩ ?_
 rintro _ _ _ ⟨k,C,X,rfl,hk,hC,rfl,rfl⟩
 by_cases hlt:k<l.length
 · have g1:(k:Int)<(l.length:Int):=by omega
   have g2:IntKind.i64.wrap ((k:Int)+1)=(k:Int)+1:=ae (by omega) (by omega)
   have e3:=iI hlt
   have e4:k * 2+2≤(aP l).length:=by rw [kP];omega
   obtain ⟨⟨nm,vs⟩,ha⟩:∃ a,l.getD k ([],[])=a:=⟨_,rfl⟩
   have htk:aP (l.take (k+1))=aP (l.take k)++[.str nm,.sl (vs.map AV.str) vs.length none]:=by
     rw [List.take_succ_eq_append_getElem hlt,Ax,show l[k]=(nm,vs) by rw [← ha];simp [hlt]]
     rfl
   have hvs:=hz (nm,vs) (by rw [← ha];simp [hlt])
   simp only at hvs
   rw [ha] at e3
   simp only [atA] at e3
   have e0:AV.frzL (vs.map AV.str)=vs.map AV.str:=xf vs
   replace htk:=hid htk
   replace hC:=hid hC
   clear ha hz
   refine wk ?_
   exact ao _ _ _ (by omega) (CutL (b:=by simp)) ⟨k+1,_,_,rfl,hlt,by rw [htk.out,hC.out],rfl,rfl⟩
 · have hke:k=l.length:=by omega
   subst hke
   have g1:¬ (l.length:Int)<(l.length:Int):=by omega
   rw [List.take_length] at hC
   subst hC
   have e0:=kQ l
   refine wk ?_
   refine ar ?_
   simp only [AV.frz,e0]
   exact aa (by simp only [AV.refs,fu]) h.out
theorem Ix {l:List Atr} {cap cap':Option Nat} (hl:l.length≤1000000) (hz:∀ a∈l,a.2.length≤1000000) {L:List Blk} {K:AV→List Blk→Prop} (h:K (.bool true) L) :
   ab Tryz.prog 30 [.sl (aP l) l.length cap,.sl (aP l) l.length cap'] L K:=by
 replace h:=hid h
 refine af yY (by simp [lp]) ?_
 simp only [lp,an]
 refine wk ?_
 refine ai (fun m T' L'=>∃ k:Nat,m=l.length - k∧k≤l.length∧T'=[(14,.int .i64 (k:Int)),(13,.int .i64 l.length),(0,.sl (aP l) l.length cap),(1,.sl (aP l) l.length cap')]∧L=L') (CutS (b:=Nat.le_refl _)) ⟨0,rfl,Nat.zero_le _,rfl,rfl⟩ ?_
 rintro _ _ L' ⟨k,rfl,hk,rfl,e⟩
 subst e
 by_cases hlt:k<l.length
 · have g1:(k:Int)<(l.length:Int):=by omega
   have g2:IntKind.i64.wrap ((k:Int)+1)=(k:Int)+1:=ae (by omega) (by omega)
   have e4:k * 2+1<(aP l).length:=by rw [kP];omega
   have e4':k * 2<(aP l).length:=by omega
   have e5:=GB hlt
   have e8:(aP l).getD (k * 2) .undef=.str (l.getD k ([],[])).1:=by
     have h3:=congrArg (fun l=>l[0]?) (iI hlt)
     simp only [List.getElem?_take_of_lt (show 0<2 by omega),List.getElem?_drop,Nat.add_zero] at h3
     rw [List.getD_eq_getElem?_getD,h3];rfl
   obtain ⟨⟨nm,vs⟩,ha⟩:∃ a,l.getD k ([],[])=a:=⟨_,rfl⟩
   have hvs:=hz (nm,vs) (by rw [← ha];simp [hlt])
   simp only at hvs
   rw [ha] at e5 e8
   simp only [Hn] at e5 e8
   clear ha
   refine wk ?_
   refine ai (fun m T' L'=>∃ j:Nat,m=vs.length - j∧j≤vs.length∧T'=[(49,.int .i64 (j:Int)),(48,.int .i64 vs.length),(5,.int .i64 (k:Int)),(14,.int .i64 (k:Int)),(13,.int .i64 l.length),(0,.sl (aP l) l.length cap),(1,.sl (aP l) l.length cap')]∧L=L') (CutS (b:=Nat.le_refl _)) ⟨0,rfl,Nat.zero_le _,rfl,rfl⟩ ?_
   rintro _ _ L' ⟨j,rfl,hj,rfl,e⟩
   subst e
   by_cases hjl:j<vs.length
   · have j1:(j:Int)<(vs.length:Int):=by omega
     have j2:IntKind.i64.wrap ((j:Int)+1)=(j:Int)+1:=ae (by omega) (by omega)
     obtain ⟨v,hv⟩:∃ v,vs.getD j []=v:=⟨_,rfl⟩
     have g3:(vs.map AV.str).getD j .undef=.str v:=by rw [← hv];simp [hjl]
     clear hv
     refine wk ?_
     exact ao _ _ _ (by omega) (CutL (b:=by simp)) ⟨j+1,rfl,hjl,rfl,rfl⟩
   · have j1:¬ (j:Int)<(vs.length:Int):=by omega
     refine wk ?_
     exact ao _ _ _ (by omega) (CutL (b:=by simp)) ⟨k+1,rfl,hlt,rfl,rfl⟩
 · have g1:¬ (k:Int)<(l.length:Int):=by omega
   refine wk ?_
   exact ap h.out
def BO (n:Nat) (a:Atr):Bool:=decide (n≤60) && decide (a.2.length≤60) && a.2.all fun v=>decide (v.length≤5000)
def E8 (l:List Atr):Bool:=l.all (BO l.length)
theorem HK {l:List Atr} (h:E8 l=true):l.length≤60∧∀ a∈l,a.2.length≤60∧∀ v∈a.2,v.length≤5000:=by
 simp only [E8,List.all_eq_true,BO,Bool.and_eq_true,decide_eq_true_eq] at h
 refine ⟨?_,fun a ha=>⟨(h a ha).1.2,(h a ha).2⟩⟩
 rcases l with _|⟨x,t⟩
 · simp
 · exact (h x (by simp)).1.1
theorem Jn {l:List Atr} {cap:Option Nat} (hl:(l.length:Int)≤9223372036854775807) (hz:∀ a∈l,(a.2.length:Int)≤9223372036854775807) {L:List Blk} {K:AV→List Blk→Prop} (h:K (.bool (E8 l)) L) :
   ab Tryz.prog 15 [.sl (aP l) l.length cap] L K:=by
 obtain ⟨R,hR⟩:∃ R,l.all (BO l.length)=R:=⟨_,rfl⟩
 rw [E8,hR] at h
 replace h:=hid h
 replace hR:=hid hR
 refine af Ar (by simp [rx]) ?_
 simp only [rx,an]
 refine wk ?_
 refine ai (fun m T' L'=>∃ (k:Nat) (X:List Blk),m=l.length - k∧k≤l.length∧Hid ((l.drop k).all (BO l.length)=R)∧T'=[(9,.int .i64 (k:Int)),(8,.int .i64 l.length),(7,.sl (aP l) l.length cap),(0,.sl (aP l) l.length cap)]∧L'=L++X) (CutS (b:=by simp)) ⟨0,[],rfl,Nat.zero_le _,hid (by simpa using hR.out),rfl,by simp⟩ ?_
 rintro _ _ _ ⟨k,X,rfl,hk,hI,rfl,rfl⟩
 by_cases hlt:k<l.length
 · have g1:(k:Int)<(l.length:Int):=by omega
   have g2:IntKind.i64.wrap ((k:Int)+1)=(k:Int)+1:=ae (by omega) (by omega)
   have e3:=iI hlt
   have e4:k * 2+2≤(aP l).length:=by rw [kP];omega
   obtain ⟨⟨nm,vs⟩,ha⟩:∃ a,l.getD k ([],[])=a:=⟨_,rfl⟩
   have hdr:l.drop k=(nm,vs)::l.drop (k+1):=by rw [List.drop_eq_getElem_cons hlt,← ha];simp [hlt]
   have hvs:=hz (nm,vs) (by rw [← ha];simp [hlt])
   simp only at hvs
   rw [ha] at e3
   simp only [atA] at e3
   have hI2:=hI.out
   rw [hdr,List.all_cons] at hI2
   have no:BO l.length (nm,vs)=false→K (.bool false) L:=fun e=>by
     rw [e,Bool.false_and] at hI2
     have:=h.out
     rwa [← hI2] at this
   replace no:=hid no
   clear hI hdr ha hz hR
   by_cases h1:(60:Int)<(l.length:Int)
   · have h':=hid (no.out (by simp [BO];omega))
     clear hI2
     refine wk ?_
     exact aa rfl h'.out
   by_cases h2:(60:Int)<(vs.length:Int)
   · have h':=hid (no.out (by simp [BO];omega))
     clear hI2
     refine wk ?_
     exact aa rfl h'.out
   obtain ⟨rv,hrv⟩:∃ r,vs.all (fun v=>decide (v.length≤5000))=r:=⟨_,rfl⟩
   have hfe:BO l.length (nm,vs)=rv:=by
     rw [BO,hrv,decide_eq_true (by omega),decide_eq_true (by simp only;omega)];rfl
   rw [hfe] at hI2
   replace hI2:=hid hI2
   replace hrv:=hid hrv
   replace no:=hid (fun e:rv=false=>no.out (hfe.trans e))
   clear hfe
   refine wk ?_
   refine ai (fun m T' L'=>∃ j:Nat,m=vs.length - j∧j≤vs.length∧Hid ((vs.drop j).all (fun v=>decide (v.length≤5000))=rv)∧T'=[(25,.int .i64 (j:Int)),(24,.int .i64 vs.length),(23,.sl (vs.map AV.str) vs.length none),(9,.int .i64 (k:Int)),(8,.int .i64 l.length),(7,.sl (aP l) l.length cap),(0,.sl (aP l) l.length cap)]∧L'=L++(X++[.cells [.str nm,.sl (vs.map AV.str) vs.length none]])) (CutS (b:=by simp)) ⟨0,rfl,Nat.zero_le _,hid (by simpa using hrv.out),rfl,by simp⟩ ?_
   rintro _ _ _ ⟨j,rfl,hj,hJ,rfl,rfl⟩
   by_cases hjl:j<vs.length
   · have j1:(j:Int)<(vs.length:Int):=by omega
     have j2:IntKind.i64.wrap ((j:Int)+1)=(j:Int)+1:=ae (by omega) (by omega)
     obtain ⟨v,hv⟩:∃ v,vs.getD j []=v:=⟨_,rfl⟩
     have g3:(vs.map AV.str).getD j .undef=.str v:=by rw [← hv];simp [hjl]
     have hdr:vs.drop j=v::vs.drop (j+1):=by rw [List.drop_eq_getElem_cons hjl,← hv];simp [hjl]
     have hJ2:=hJ.out
     rw [hdr,List.all_cons] at hJ2
     clear hv hdr hJ
     by_cases h3:(5000:Int)<(v.length:Int)
     · have h':=hid (no.out (by rw [← hJ2,decide_eq_false (by omega),Bool.false_and]))
       clear hJ2
       refine wk ?_
       exact aa rfl h'.out
     · rw [decide_eq_true (by omega),Bool.true_and] at hJ2
       replace hJ2:=hid hJ2
       refine wk ?_
       exact ao _ _ _ (by omega) (CutL (b:=by simp)) ⟨j+1,rfl,hjl,hJ2,rfl,rfl⟩
   · have j1:¬ (j:Int)<(vs.length:Int):=by omega
     have hJ2:=hJ.out
     rw [List.drop_eq_nil_of_le (by omega),List.all_nil] at hJ2
     have hI3:=hI2.out
     rw [← hJ2,Bool.true_and] at hI3
     replace hI3:=hid hI3
     clear hJ hJ2
     refine wk ?_
     exact ao _ _ _ (by omega) (CutL (b:=by simp)) ⟨k+1,_,rfl,hlt,hI3,rfl,rfl⟩
 · have hke:k=l.length:=by omega
   subst hke
   have g1:¬ (l.length:Int)<(l.length:Int):=by omega
   have hI2:=hI.out
   rw [List.drop_length,List.all_nil] at hI2
   have h':=h.out
   rw [← hI2] at h'
   replace h':=hid h'
   clear hI hI2 hR
   refine wk ?_
   exact aa rfl h'.out
end Go.Proofs.YtgpnbkdcdmfgcaaGreat.Av
