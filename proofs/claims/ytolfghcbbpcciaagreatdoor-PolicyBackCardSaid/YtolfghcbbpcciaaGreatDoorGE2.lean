/- Joined texts of the walk, made small by a program. -/
import Derived.Test.YtolfghcbbpcciaaGreatDoorGP4
import Derived.Test.YtolfghcbbpcciaaGreatDoorRows
import Derived.KernelRfl
import Derived.Test.YtolfghcbbpcciaaGreatDoorGE1
import Derived.Test.YtolfghcbbpcciaaGreatDoorGP5
import Derived.Test.YtolfghcbbpcciaaGreatDoorGS1
set_option linter.unusedSimpArgs false
set_option linter.unusedVariables false
set_option maxRecDepth 100000
namespace Go.Proofs.YtolfghcbbpcciaaGreatDoor.Av
open Go
def uY:LSO:=[Ab 4 0,Ah 5]
def uX:LSO:=[Aa 6 0,Aa 7 1,Al 8 78 7,o1 9 (.call 77 [(tm 6),(tm 8),(.av (.func 79 []))]),Ar 10 9,As 11 9,Aa 4 10,Aa 5 11]
def fG:ba:=⟨12,(.seq (.sreg uY [])
 (.seq (.sreg uX Cm)
 .ret)),[(.tmp 4),(.tmp 5)]⟩
attribute [push_cast] uY uX
theorem pE:bb Tryz.prog (fun _ _=>1) 60=some fG.raw:=by kernel_rfl
def kI:LSO:=[A6 2 0,Ab 4 0]
def kH:LSO:=[Ad 5 0 2,Ac 6 1 5,Al 7 78 6,Aa 8 1,Ay 9 80 7 8,Aa 4 9]
def eT:ba:=⟨10,(.seq (.sreg kI [])
 (.seq (.sreg kH BZ)
 .ret)),[(.tmp 4)]⟩
attribute [push_cast] kI kH
theorem jJ:bb Tryz.prog (fun _ _=>1) 79=some eT.raw:=by kernel_rfl
def EK:LSO:=[Ai 4]
def EJ:LSO:=[Aa 8 0,Aa 9 1,Ay 10 60 8 9,Aa 7 10,Ar 11 7,As 12 7,Aa 5 11,Aa 6 12]
def EI:LSO:=[Aa 13 6]
def EH:LSO:=[Aa 14 0,Aa 15 5,Ao 16 2 14 15,Ad 17 1 16,Ac 18 1 17,Al 19 61 18,Aa 4 19]
def EG:LSO:=[Ai 4]
def fh:ba:=⟨20,(.seq (.sreg EK [])
 (.seq (.seq (.sreg EJ Cm)
 (.seq (.sreg EI [])
 (.cond (tm 13) (.seq (.sreg EH Cb)
 .ret)
 .skip)))
 (.seq (.sreg EG [])
 .ret))),[(.tmp 4)]⟩
attribute [push_cast] EK EJ EI EH EG
theorem jK:bb Tryz.prog (fun _ _=>1) 41=some fh.raw:=by kernel_rfl
def bE:LSO:=[Ab 6 0,Ah 7]
def bD:LSO:=[Aa 12 0,Ak 13 12,Aa 8 13]
def bC:LSO:=[Aa 14 8,Ab 9 0,Aa 10 14]
def bB:LSO:=[Aa 15 9,Aa 16 10,Aj 17 15 16]
def bA:LSO:=[Aa 18 9,Aa 19 10,AE 20 18 19,o1 21 (.conv .u64 (tm 20)),o1 22 (.bin .shr (tm 21) (.av (.int .u64 1))),AZ 23 22,
 Aa 11 23]
def bz:LSO:=[Aa 24 2,Aa 25 0,Aa 26 11,Ao 27 2 25 26,Au 28 2 27,Aa 29 1,o1 30 (.callv (tm 24) [(tm 28),(tm 29)]),AK 31 30 0]
def bx:LSO:=[Aa 32 11,Ag 33 32 1,Aa 9 33]
def bw:LSO:=[Aa 34 11,Aa 10 34]
def bv:LSO:=[Aa 35 9,Aa 36 9,Aa 37 8,Aj 38 36 37,Aa 39 38,.grp none 39 true
 [Ae 40 39 2,Ae 41 39 0,Ae 42 39 9,Bo 43 39 2 41 42,B8 44 39 2 43,Ae 45 39 1,og 46 39 true (.callv (tm 40) [(tm 44),(tm 45)]),Bd 47 39 46 0]
 48 (tm 47),Aa 6 35,Aa 7 48]
def aY:ba:=⟨49,(.seq (.sreg bE [])
 (.seq (.sreg bD BW)
 (.seq (.sreg bC Ca)
 (.seq (.block 0 (.loop (.seq (.seq (.sreg bB BW)
 (.cond (tm 17) .skip
 (.exit 0)))
 (.block 1 (.seq (.sreg bA Cb)
 (.seq (.sreg bz Ce)
 (.cond (tm 31) (.sreg bx BW)
 (.sreg bw BV))))))))
 (.seq (.sreg bv Cm)
 .ret))))),[(.tmp 6),(.tmp 7)]⟩
attribute [push_cast] bE bD bC bB bA bz bx bw bv
theorem bu:bb Tryz.prog (fun _ _=>1) 77=some aY.raw:=by kernel_rfl
def d8:LSO:=[Ai 2]
def d7:LSO:=[Aa 3 0,o1 4 (.slnil false (tm 3))]
def d6:LSO:=[Ai 2]
def dZ:LSO:=[o1 5 (.bslice false 1 0 [] []),Aa 6 0,o1 7 (.app 2 1 16 [(.str [])] (tm 5) (tm 6)),Aa 2 7]
def bt:ba:=⟨8,(.seq (.sreg d8 [])
 (.seq (.seq (.sreg d7 BV)
 (.cond (tm 4) (.seq (.sreg d6 [])
 .ret)
 .skip))
 (.seq (.sreg dZ BX)
 .ret))),[(.tmp 2)]⟩
attribute [push_cast] d8 d7 d6 dZ
theorem dM:bb Tryz.prog (fun r i=>if r=3∧i=2 then 2 else 1) 61=some bt.raw:=by kernel_rfl
set_option maxHeartbeats 8000000
set_option maxRecDepth 100000
def WB (L:List Blk) (C:List AV) (n s:Nat) (v:AV):Prop:=(∃ cap,v=.sl C n cap)∨∃ i cp rest,v=.lsl i 0 n cp s∧L[i]?=some (.cells (C++rest))
def Xn (f:FuncId) (caps:List AV) (L:List Blk) (el:Nat→AV) (tg:AV) (n:Nat) (c:Nat→Int):Prop:=∀ (h:Nat) (K:AV→List Blk→Prop),h<n→K (.int .i64 (c h)) L→ao Tryz.prog f ([el h,tg]++caps) L K
theorem W6 {f:FuncId} {caps C:List AV} {n m:Nat} {tg v:AV} {c:Nat→Int} {L:List Blk} (hn:n≤1100000) (hC:C.length=n * 2) (hm:m≤n) (hrow:WB L C n 2 v) (hf:Xn f caps L (fun h=>.agg ((C.drop (h * 2)).take 2)) tg n c) (hc:∀ h,h<n→(c h<0↔h<m))
   {K:AV→List Blk→Prop} (h:K (.tup [.int .i64 (m:Nat),.bool (decide (m<n) && decide (c m=0))]) L) :
   ao Tryz.prog 77 [v,tg,.func f caps] L K:=by
 replace h:=hid h
 replace hf:=hid hf
 replace hc:=hid hc
 rcases hrow with ⟨cap,rfl⟩|⟨bi,cp,rest,rfl,hL⟩
 · refine ag bu (by simp [aY]) ?_
   simp only [aY,aN]
   refine wk ?_
   refine aI (fun q T' L'=>∃ a b:Nat,q=b - a∧a≤m∧m≤b∧b≤n∧T'=[(10,.int .i64 (b:Int)),(9,.int .i64 (a:Int)),(8,.int .i64 (n:Nat)),(0,.sl C n cap),(1,tg),(2,.func f caps)]∧L=L') (CutS (b:=Nat.le_refl _)) ⟨0,n,rfl,Nat.zero_le _,hm,Nat.le_refl _,rfl,rfl⟩ ?_
   rintro _ _ L' ⟨a,b,rfl,ham,hmb,hb,rfl,e⟩
   subst e
   by_cases hlt:a<b
   · have g1:(a:Int)<(b:Int):=by omega
     obtain ⟨z,hz⟩:∃ z,z=(a+b) / 2:=⟨_,rfl⟩
     have g2:IntKind.i64.wrap ((a:Int)+b)=(a:Int)+b:=ac (by omega) (by omega)
     have g3:IntKind.u64.wrap ((a:Int)+b)=(a:Int)+b:=FJ (by omega) (by omega)
     have g4:Int.fdiv ((a:Int)+b) (2 ^ (min 1 IntKind.u64.bits))=(z:Int):=by
       have:(2:Int) ^ (min 1 IntKind.u64.bits)=2:=by decide
       rw [this,Int.fdiv_eq_ediv_of_nonneg _ (by omega)];omega
     have g5:IntKind.i64.wrap (z:Int)=z:=ac (by omega) (by omega)
     have g6:IntKind.i64.wrap ((z:Int)+1)=(z:Int)+1:=ac (by omega) (by omega)
     have g8:a≤z∧z<b:=by omega
     have g9:(z:Int)<(n:Int):=by omega
     have hzn:z<n:=by omega
     have hcz:=hc.out z hzn
     have e2:z * 2+2≤C.length:=by omega
     replace g8:=hid g8
     replace hcz:=hid hcz
     replace hC:=hid hC
     clear hz
     refine wk ?_
     refine hf.out z _ hzn ?_
     refine sk ?_
     obtain ⟨w,hw⟩:∃ w,c z=w:=⟨_,rfl⟩
     rw [hw] at hcz
     simp only [hw]
     by_cases hneg:w<0
     · have hzm:=hcz.out.1 hneg
       clear hcz hw
       have hg8:=g8.out
       refine wk ?_
       exact az _ _ _ (by omega) (CutL (b:=by simp)) ⟨z+1,b,rfl,hzm,hmb,hb,rfl,rfl⟩
     · have hzm:m≤z:=by
         rcases Nat.lt_or_ge z m with e|e
         · exact absurd (hcz.out.2 e) hneg
         · exact e
       clear hcz hw
       have hg8:=g8.out
       refine wk ?_
       exact az _ _ _ (by omega) (CutL (b:=by simp)) ⟨a,z,rfl,ham,hzm,by omega,rfl,rfl⟩
   obtain rfl:a=m:=by omega
   obtain rfl:b=a:=by omega
   have g1:¬ (b:Int)<(b:Int):=by omega
   by_cases hbn:b<n
   · have g2:(b:Int)<(n:Int):=by omega
     have h':=h.out
     rw [decide_eq_true hbn,Bool.true_and] at h'
     obtain ⟨w,hw⟩:∃ w,c b=w:=⟨_,rfl⟩
     rw [hw] at h'
     replace h':=hid h'
     have e2:b * 2+2≤C.length:=by omega
     replace hC:=hid hC
     have kk1:Hid (∀ {K:AV→List Blk→Prop},K (.int .i64 w) L→ao Tryz.prog f (AV.agg ((C.drop (b * 2)).take 2)::tg::caps) L K):=hid fun q=>hf.out b _ hbn (by rw [hw];exact q)
     refine wk ?_
     exact ab h'.out
   · have g2:¬ (b:Int)<(n:Int):=by omega
     have h':=h.out
     rw [decide_eq_false hbn,Bool.false_and] at h'
     replace h':=hid h'
     refine wk ?_
     exact ab h'.out
 · refine ag bu (by simp [aY]) ?_
   simp only [aY,aN]
   refine wk ?_
   refine aI (fun q T' L'=>∃ a b:Nat,q=b - a∧a≤m∧m≤b∧b≤n∧T'=[(10,.int .i64 (b:Int)),(9,.int .i64 (a:Int)),(8,.int .i64 (n:Nat)),(0,.lsl bi 0 n cp 2),(1,tg),(2,.func f caps)]∧L=L') (CutS (b:=Nat.le_refl _)) ⟨0,n,rfl,Nat.zero_le _,hm,Nat.le_refl _,rfl,rfl⟩ ?_
   rintro _ _ L' ⟨a,b,rfl,ham,hmb,hb,rfl,e⟩
   subst e
   by_cases hlt:a<b
   · have g1:(a:Int)<(b:Int):=by omega
     obtain ⟨z,hz⟩:∃ z,z=(a+b) / 2:=⟨_,rfl⟩
     have g2:IntKind.i64.wrap ((a:Int)+b)=(a:Int)+b:=ac (by omega) (by omega)
     have g3:IntKind.u64.wrap ((a:Int)+b)=(a:Int)+b:=FJ (by omega) (by omega)
     have g4:Int.fdiv ((a:Int)+b) (2 ^ (min 1 IntKind.u64.bits))=(z:Int):=by
       have:(2:Int) ^ (min 1 IntKind.u64.bits)=2:=by decide
       rw [this,Int.fdiv_eq_ediv_of_nonneg _ (by omega)];omega
     have g5:IntKind.i64.wrap (z:Int)=z:=ac (by omega) (by omega)
     have g6:IntKind.i64.wrap ((z:Int)+1)=(z:Int)+1:=ac (by omega) (by omega)
     have g8:a≤z∧z<b:=by omega
     have g9:(z:Int)<(n:Int):=by omega
     have hzn:z<n:=by omega
     have hcz:=hc.out z hzn
     have e1:((C++rest).drop (z * 2)).take 2=(C.drop (z * 2)).take 2:=by
       rw [List.drop_append_of_le_length (by omega),List.take_append_of_le_length (by simp;omega)]
     have e2:z * 2+2≤C.length+rest.length:=by omega
     replace g8:=hid g8
     replace hcz:=hid hcz
     replace hC:=hid hC
     clear hz
     refine wk ?_
     refine hf.out z _ hzn ?_
     refine sk ?_
     obtain ⟨w,hw⟩:∃ w,c z=w:=⟨_,rfl⟩
     rw [hw] at hcz
     simp only [hw]
     by_cases hneg:w<0
     · have hzm:=hcz.out.1 hneg
       clear hcz hw
       have hg8:=g8.out
       refine wk ?_
       exact az _ _ _ (by omega) (CutL (b:=by simp)) ⟨z+1,b,rfl,hzm,hmb,hb,rfl,rfl⟩
     · have hzm:m≤z:=by
         rcases Nat.lt_or_ge z m with e|e
         · exact absurd (hcz.out.2 e) hneg
         · exact e
       clear hcz hw
       have hg8:=g8.out
       refine wk ?_
       exact az _ _ _ (by omega) (CutL (b:=by simp)) ⟨a,z,rfl,ham,hzm,by omega,rfl,rfl⟩
   obtain rfl:a=m:=by omega
   obtain rfl:b=a:=by omega
   have g1:¬ (b:Int)<(b:Int):=by omega
   by_cases hbn:b<n
   · have g2:(b:Int)<(n:Int):=by omega
     have h':=h.out
     rw [decide_eq_true hbn,Bool.true_and] at h'
     obtain ⟨w,hw⟩:∃ w,c b=w:=⟨_,rfl⟩
     rw [hw] at h'
     replace h':=hid h'
     have e1:((C++rest).drop (b * 2)).take 2=(C.drop (b * 2)).take 2:=by
       rw [List.drop_append_of_le_length (by omega),List.take_append_of_le_length (by simp;omega)]
     have e2:b * 2+2≤C.length+rest.length:=by omega
     replace hC:=hid hC
     have kk1:Hid (∀ {K:AV→List Blk→Prop},K (.int .i64 w) L→ao Tryz.prog f (AV.agg ((C.drop (b * 2)).take 2)::tg::caps) L K):=hid fun q=>hf.out b _ hbn (by rw [hw];exact q)
     refine wk ?_
     exact ab h'.out
   · have g2:¬ (b:Int)<(n:Int):=by omega
     have h':=h.out
     rw [decide_eq_false hbn,Bool.false_and] at h'
     replace h':=hid h'
     refine wk ?_
     exact ab h'.out
variable {L:List Blk} {K:AV→List Blk→Prop}
theorem IJ {L:List Blk} {i n:Nat} (h:∀ k∈L,k.refs (fun i=>decide (i<n))=true):∀ k∈L.set i .dead,k.refs (fun i=>decide (i<n))=true:=fun k hk=>by
 rcases List.mem_or_eq_of_mem_set hk with h1|h1
 · exact h k h1
 · subst h1;rfl
theorem Ut {L0 L:List Blk} {i off n s:Nat} {cp:Option Nat} {Q:AV→List Blk→Prop} (h:Fin L0 (.lsl i off n none s) L Q):Fin L0 (.lsl i off n cp s) L Q:=fun w0 S0 E0 E w v h0 hn hw hR hv=>by
 refine h w0 S0 E0 E w v h0 hn hw hR ?_
 simp only [VR] at hv ⊢
 obtain ⟨c,rc,d,h1,h2,h3,h4,_,h6⟩:=hv
 exact ⟨c,rc,d,h1,h2,h3,h4,by simp,h6⟩
theorem R3 {cap:Option Nat} (h:K (.sl [] 0 (some 0)) L):ao Tryz.prog 61 [.sl [] 0 cap] L K:=by
 refine ag dM (by simp [bt]) ?_
 simp only [bt,aN]
 repeat' first
   | refine aT ?_
   | (first|refine aG (by kernel_rfl) ?_|refine ap (by kernel_rfl) ?_|refine aq ?_|refine aZ ?_|refine aO (fun _=>?_)|refine aj ?_|refine aK ?_)
     refine sm ?_
   | (first|refine aC (by kernel_rfl) ?_|refine aH ?_|refine aJ ?_|refine aU (ai ?_))
     refine sl ?_
   | exact aP
   | first|apply aQ|apply aD|apply aR|apply aE|apply aS|apply aF
   | refine aw ?_
   | first|refine ar rfl ?_|refine au rfl ?_|refine af rfl ?_ ?_|refine ay rfl (fun _=>?_) (fun _=>?_)|refine ax rfl (fun _=>?_) (fun _=>?_)
   | ((first|refine ae (fun _=>?_) (fun _=>?_)|refine ah (fun _=>?_) (fun _=>?_))<;>try refine sm ?_)
   | refine And.intro trivial ?_
   | refine And.intro (by omega) ?_
   | refine aA rfl (fun _=>?_) (fun _=>?_)
   | refine And.intro ?_ ?_
 all_goals (first|refine aa rfl (Kto h ?_)|refine ab (Kto h ?_)|refine aa (by simp only [AV.refs,AV.refsL, *];rfl) (Kto h ?_)|refine aX (aa rfl (Kto h ?_))|(trace_state;fail))
 all_goals (first|(simp [*];done)|(simp [*];omega)|(simp [*];intros;omega)|(simp_all [Hid,Hid];done)|(simp_all [Hid,Hid];omega))
theorem T8 {xs:List (List UInt8)} {cap:Option Nat} (h0:xs.length≠0) (hn:xs.length≤1100000) (h:K (.lsl L.length 0 xs.length none 1) (L++[.cells (xs.map AV.str)])) :
   ao Tryz.prog 61 [.sl (xs.map AV.str) xs.length cap] L K:=by
 have h1:=S6 xs
 refine ag dM (by simp [bt]) ?_
 simp only [bt,aN]
 repeat' first
   | refine aT ?_
   | (first|refine aG (by kernel_rfl) ?_|refine ap (by kernel_rfl) ?_|refine aq ?_|refine aZ ?_|refine aO (fun _=>?_)|refine aj ?_|refine aK ?_)
     refine sm ?_
   | (first|refine aC (by kernel_rfl) ?_|refine aH ?_|refine aJ ?_|refine aU (ai ?_))
     refine sl ?_
   | exact aP
   | first|apply aQ|apply aD|apply aR|apply aE|apply aS|apply aF
   | refine aw ?_
   | first|refine ar rfl ?_|refine au rfl ?_|refine af rfl ?_ ?_|refine ay rfl (fun _=>?_) (fun _=>?_)|refine ax rfl (fun _=>?_) (fun _=>?_)
   | ((first|refine ae (fun _=>?_) (fun _=>?_)|refine ah (fun _=>?_) (fun _=>?_))<;>try refine sm ?_)
   | refine And.intro trivial ?_
   | refine And.intro (by omega) ?_
   | refine aA rfl (fun _=>?_) (fun _=>?_)
   | refine And.intro ?_ ?_
 refine N3 L.length (.cells (xs.map AV.str)) rfl (Nat.le_refl _) (by simp) (by simp [AV.refs]) (fM _ _) ?_
 simpa [AV.ren] using h
abbrev bH (s:List UInt8):Prop:=(s.length:Int)≤140737488351232
theorem T7 (a b:List UInt8):Lib.compareBytes a b<0↔a<b:=by
 rw [NV]
 by_cases h:a<b
 · simp [h]
 · by_cases h2:b<a<;>simp [h,h2]
theorem R2 (a b:List UInt8):Lib.compareBytes a b=0↔a=b:=by
 rw [NV]
 by_cases h:a<b
 · simp only [h,if_true]
   exact ⟨fun e=>by omega,fun e=>by subst e;exact absurd h (List.lt_irrefl _)⟩
 · by_cases h2:b<a
   · simp only [h,h2,if_true,if_false]
     exact ⟨fun e=>by omega,fun e=>by subst e;exact absurd h2 (List.lt_irrefl _)⟩
   · simp only [h,h2,if_false,true_iff]
     exact List.le_antisymm (List.not_lt.1 h2) (List.not_lt.1 h)
def VT (w:AV):Prop:=(∃ l n cap,w=.sl l n cap)∨∃ i off n cp s,w=.lsl i off n cp s
theorem S2 {x n:List UInt8} {w:AV} (hx:bH x) (hw:VT w) (h:K (.int .i64 (Lib.compareBytes (ak x) n)) L) :
   ao Tryz.prog 79 [.agg [.str x,w],.str n] L K:=by
 replace h:=hid h
 rcases hw with ⟨l,m,cap,rfl⟩|⟨i,off,m,cp,s,rfl⟩
 · refine ag jJ (by simp [eT]) ?_
   simp only [eT,aN]
   have kk1:=@hid _ (fun L K=>H9 hx (L:=L) (K:=K))
   have kk2:=@hid _ @KU
   refine wk ?_
   exact aa rfl h.out
 · refine ag jJ (by simp [eT]) ?_
   simp only [eT,aN]
   have kk1:=@hid _ (fun L K=>H9 hx (L:=L) (K:=K))
   have kk2:=@hid _ @KU
   refine wk ?_
   exact aa rfl h.out
def Xi (l:List Atr) (C:List AV):Prop:=C.length=l.length * 2∧∀ h:Nat,h<l.length→∃ w,VT w∧(C.drop (h * 2)).take 2=[.str (l.getD h ([],[])).1,w]
def RW {α:Type} (key:α→List UInt8) (l:List α) (k:List UInt8):Bool:=l.any fun a=>decide (key a=k)
theorem P8 {α:Type} {key:α→List UInt8} {l:List α} {k:List UInt8} (hr:gR key l) {d:α}:RW key l k=(decide (fm key l k<l.length) && decide (key (l.getD (fm key l k) d)=k)):=by
 rw [RW,R0 hr]
 by_cases hc:fm key l k<l.length
 · rw [List.getElem?_eq_getElem hc,decide_eq_true hc,Bool.true_and]
   simp [hc]
 · rw [List.getElem?_eq_none (by omega),decide_eq_false hc]
   rfl
theorem U7 {l:List Atr} {C:List AV} {v:AV} {n:List UInt8} {L:List Blk} (hl:l.length≤1100000) (hC:Xi l C) (hrow:WB L C l.length 2 v) (hr:gR du l) (hn:bH n) (hz:∀ a∈l,bH a.1)
   {K:AV→List Blk→Prop} (h:K (.tup [.int .i64 (fm du l (ak n):Nat),.bool (RW du l (ak n))]) L) :
   ao Tryz.prog 60 [v,.str n] L K:=by
 have hbs:∀ {K:AV→List Blk→Prop},K (.tup [.int .i64 (fm du l (ak n):Nat),.bool (RW du l (ak n))]) L→ao Tryz.prog 77 [v,.str (ak n),.func 79 []] L K:=fun {K} q=>by
   refine W6 (m:=fm du l (ak n)) (c:=fun h=>Lib.compareBytes (du (l.getD h ([],[]))) (ak n)) hl hC.1 (QS _ _ _) hrow (fun h K hh hk=>?_) (fun h hh=>?_) ?_
   · obtain ⟨w,hw,e⟩:=hC.2 h hh
     simp only [e]
     refine S2 (hz _ ?_) hw hk
     simp [hh]
   · simp only [T7]
     have:=T5 (key:=du) (k:=ak n) hr h hh
     simpa [hh] using this
   · have:=P8 (key:=du) (k:=ak n) hr (d:=([],[]))
     rw [this] at q
     simpa only [R2] using q
 replace hbs:=@hid _ @hbs
 replace h:=hid h
 rcases hrow with ⟨cap,rfl⟩|⟨bi,cp,rest,rfl,hL⟩
 · refine ag pE (by simp [fG]) ?_
   simp only [fG,aN]
   have kk2:=@hid _ @hbs.out
   have kk1:=@hid _ (fun L K=>H9 hn (L:=L) (K:=K))
   refine wk ?_
   exact ab h.out
 · refine ag pE (by simp [fG]) ?_
   simp only [fG,aN]
   have kk2:=@hid _ @hbs.out
   have kk1:=@hid _ (fun L K=>H9 hn (L:=L) (K:=K))
   refine wk ?_
   exact ab h.out
abbrev tyC (ty:Typ):List AV:=[.str ty.1,.int .i64 ty.2.1,.bool ty.2.2.1,.bool ty.2.2.2]
def cv (ts:List Typ):List AV:=ts.flatMap tyC
theorem KN (ts:List Typ):(cv ts).length=ts.length * 4:=by
 induction ts with
 | nil=>rfl
 | cons a l ih=>simp only [cv,List.flatMap_cons,List.length_append,tyC,List.length_cons,List.length_nil] at ih ⊢;omega
abbrev Mo:Typ:=([],0,false,false)
theorem Gs:∀ {ts:List Typ} {k:Nat},k<ts.length→((cv ts).drop (k * 4)).take 4=tyC (ts.getD k Mo)
 | a::l,0,_=>rfl
 | a::l,k+1,h=>by
   have ih:=@Gs l k (by simpa using h)
   rw [show (k+1) * 4=k * 4+1+1+1+1 by omega]
   simpa [cv,tyC] using ih
theorem LI {α:Type} {q:α→Bool} {d:α}:∀ {l:List α} {k:Nat},k<l.length→(∀ j,j<k→q (l.getD j d)=false)→q (l.getD k d)=true→l.find? q=some (l.getD k d)
 | a::t,0,_,_,h=>by
   simp only [List.getD_cons_zero] at h ⊢
   rw [List.find?_cons,h]
 | a::t,k+1,hk,hp,h=>by
   have h0:=hp 0 (by omega)
   simp only [List.getD_cons_zero] at h0
   rw [List.find?_cons,h0]
   simp only [List.getD_cons_succ] at h ⊢
   exact LI (by simpa using hk) (fun j hj=>by simpa using hp (j+1) (by omega)) h
end Go.Proofs.YtolfghcbbpcciaaGreatDoor.Av
