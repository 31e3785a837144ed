/- Joined texts of the walk, made small by a program. -/
import Derived.Test.YtohflefnbajajaaGreatDoorVE1
import Derived.Test.YtohflefnbajajaaGreatDoorVP4
import Derived.Test.YtohflefnbajajaaGreatDoorRows
import Derived.KernelRfl
import Derived.Test.YtohflefnbajajaaGreatDoorVE4
import Derived.Test.YtohflefnbajajaaGreatDoorVEoH
set_option linter.unusedSimpArgs false
set_option linter.unusedVariables false
namespace Go.Proofs.YtohflefnbajajaaGreatDoor.Av
open Go
set_option maxHeartbeats 8000000
set_option maxRecDepth 100000
theorem Z9 (syn:Int) (v:List UInt8):∀ l:List (List UInt8),(∀ x∈l,cx syn x<cx syn v)→eU syn v false l=l++[v]
 | [],_=>rfl
 | x::t,h=>by
   have hx:=h x (by simp)
   have hx2:¬ cx syn v<cx syn x:=fun e=>List.lt_irrefl _ (List.lt_trans e hx)
   rw [eU,if_neg (fun e=>hx2 e.2),decide_eq_false hx2,Bool.or_false,Z9 syn v t (fun y hy=>h y (by simp [hy]))]
   rfl
theorem abG {syn:Int} {single:Bool}:∀ {vs l:List (List UInt8)},InV syn (l++vs)→(single=true→(l++vs).length≤1)→dp syn single l vs=(l++vs,0)
 | [],l,_,h1=>by
   rw [dp,List.append_nil] at *
   rw [if_neg]
   rintro ⟨hs,hl⟩
   have:=h1 hs
   omega
 | v::vs,l,h,h1=>by
   have hv:=h.2 v (by simp)
   obtain ⟨n,hn⟩:=Option.isSome_iff_exists.1 hv
   have hk:cx syn v=n:=by simp [cx,hn]
   have hlt:∀ x∈l,cx syn x<cx syn v:=fun x hx=>(List.pairwise_append.1 h.1).2.2 x hx v (by simp)
   rw [dp,hn]
   simp only
   rw [if_neg]
   · rw [Z9 syn v l hlt,abG (by simpa using h) (by simpa using h1)]
     simp
   · simp only [inM,List.any_eq_true,decide_eq_true_eq,not_exists,not_and]
     intro x hx e
     have:=hlt x hx
     rw [e,hk] at this
     exact List.lt_irrefl _ this
theorem VY {n:List UInt8} {vs:List (List UInt8)}:∀ {l:List Atr},(∀ a∈l,ae a.1<ae n)→fp n vs false l=l++[(n,vs)]
 | [],_=>rfl
 | a::t,h=>by
   have ha:=h a (by simp)
   rw [fp,if_neg (fun e=>e.2 ha),if_pos (fun e=>by rw [e] at ha;exact List.lt_irrefl _ ha),decide_eq_true ha]
   simp only [Bool.not_true,Bool.or_false]
   rw [VY fun b hb=>h b (by simp [hb])]
   rfl
theorem aae {ts:List Typ}:∀ {l out:List Atr},InA ts (out++l)→wV ts out l=(out++l,0)
 | [],out,_=>by rw [wV,List.append_nil]
 | a::t,out,h=>by
   obtain ⟨ty,h1,h2,h3,h4,h5⟩:=h.2 a (by simp)
   have hlt:∀ b∈out,ae b.1<ae a.1:=fun b hb=>(List.pairwise_append.1 h.1).2.2 b hb a (by simp)
   have hno:∀ b∈out,ae b.1≠ae a.1:=fun b hb e=>by
     have:=hlt b hb
     rw [e] at this
     exact List.lt_irrefl _ this
   have hadd:dp ty.2.1 ty.2.2.1 (eB out a.1) a.2=(a.2,0):=by
     rw [VU hno]
     exact abG (by simpa using h4) (by simpa using h5)
   rw [wV,h1]
   simp only
   rw [if_neg h3,hadd]
   simp only
   rw [if_neg (by simp),h2]
   rw [show a.2.isEmpty=false by simpa using h3,VY hlt]
   rw [aae (by simpa using h)]
   simp
set_option maxHeartbeats 8000000
set_option maxRecDepth 100000
theorem abw {ts:List Typ}:∀ {ms:List Mdf} {l:List Atr},InA ts l→(aby ts l ms).2=0→InA ts (aby ts l ms).1
 | [],l,h,_=>h
 | m::ms,l,h,h0=>by
   rw [aby] at h0 ⊢
   split
   · rename_i hc;rw [if_pos hc] at h0;exact absurd h0 hc
   · rename_i hc
     rw [if_neg hc] at h0
     simp only [ne_eq,Decidable.not_not] at hc
     exact abw (ZV h hc) h0
set_option maxHeartbeats 8000000
set_option maxRecDepth 100000
theorem abx {ts:List Typ}:∀ {ms:List Mdf} {l:List Atr},(aby ts l ms).2≠0→(aby ts l ms).1=[]
 | [],l,h=>by rw [aby] at h;exact absurd rfl h
 | m::ms,l,h=>by
   rw [aby] at h ⊢
   split
   · rfl
   · rename_i hc
     rw [if_neg hc] at h
     exact abx h
theorem aaf {ts:List Typ}:∀ {l out:List Atr},(wV ts out l).2≠0→(wV ts out l).1=[]
 | [],out,h=>by rw [wV] at h;exact absurd rfl h
 | a::t,out,h=>by
   rw [wV] at h ⊢
   rcases ht:gq ts a.1 with _|ty
   · rfl
   · rw [ht] at h
     simp only at h ⊢
     split
     · rfl
     · rename_i hc
       rw [if_neg hc] at h
       split
       · rfl
       · rename_i hd
         rw [if_neg hd] at h
         exact aaf h
end Go.Proofs.YtohflefnbajajaaGreatDoor.Av
set_option maxRecDepth 100000
namespace Go.Proofs.YtohflefnbajajaaGreatDoor.Av
open Go
def Xs:List SOp :=
 [o1 2 (.box (tm 0)),
 o1 4 (.mv (.av (.bool false)))]
def Xr:List SOp :=
 [o1 12 (.mv (tm 1)),
 o1 13 (.len false (tm 12)),
 o1 14 (.mv (iv 0))]
def Xk:List SOp :=
 [o1 15 (.bin .lss (tm 14) (tm 13))]
def Xj:List SOp :=
 [o1 16 (.mv (tm 14)),
 o1 17 (.iaddr 2 (tm 12) (tm 14)),
 o1 18 (.load true 2 (tm 17)),
 o1 6 (.alloc [(.str []),(.sl [] 0 (some 0))]),
 o1 5 (.mv (tm 16)),
 o0 (.store 2 (tm 6) (tm 18))]
def Xi:List SOp :=
 [o1 19 (.faddr 0 (tm 2)),
 o1 20 (.load false 1 (tm 19)),
 o1 21 (.faddr 0 (tm 6)),
 o1 22 (.load false 1 (tm 21)),
 o1 23 (.call 35 [(tm 20),(tm 22)]),
 o1 7 (.mv (tm 23))]
def Xh:List SOp :=
 [o1 24 (.mv (tm 7)),
 o1 25 (.bin .lss (tm 24) (iv 0)),
 o1 26 (.mv (tm 25)),
 .grp none 26 false
 [og 27 26 false (.faddr 0 (tm 2)),
 og 28 26 false (.load false 1 (tm 27)),
 og 29 26 false (.mv (tm 7)),
 og 30 26 false (.iaddr 4 (tm 28) (tm 29)),
 og 31 26 false (.faddr 0 (tm 30)),
 og 32 26 false (.load false 1 (tm 31)),
 og 33 26 false (.faddr 0 (tm 6)),
 og 34 26 false (.load false 1 (tm 33)),
 og 35 26 false (.bin .neq (tm 32) (tm 34))]
 36 (tm 35),
 o1 37 (.mv (tm 36)),
 .grp none 37 false
 [og 38 37 false (.faddr 1 (tm 6)),
 og 39 37 false (.load false 1 (tm 38)),
 og 40 37 false (.len false (tm 39)),
 og 41 37 false (.bin .eql (tm 40) (iv 0))]
 42 (tm 41),
 o1 43 (.mv (tm 42)),
 .grp none 43 false
 [og 44 43 false (.faddr 0 (tm 2)),
 og 45 43 false (.load false 1 (tm 44)),
 og 46 43 false (.mv (tm 7)),
 og 47 43 false (.iaddr 4 (tm 45) (tm 46)),
 og 48 43 false (.faddr 2 (tm 47)),
 og 49 43 false (.load false 1 (tm 48)),
 og 50 43 false (.mv (tm 49)),
 .grp (some (43,false)) 50 true
 [og 51 50 true (.faddr 1 (tm 6)),
 og 52 50 true (.load false 1 (tm 51)),
 og 53 50 true (.len false (tm 52)),
 og 54 50 true (.bin .gtr (tm 53) (iv 1))]
 55 (tm 54)]
 56 (tm 55),
 o1 57 (.mv (tm 56)),
 .grp none 57 false
 [og 58 57 false (.mv (tm 5)),
 og 59 57 false (.bin .gtr (tm 58) (iv 0)),
 og 60 57 false (.mv (tm 59)),
 .grp (some (57,false)) 60 true
 [og 61 60 true (.mv (tm 1)),
 og 62 60 true (.mv (tm 5)),
 og 63 60 true (.bin .sub (tm 62) (iv 1)),
 og 64 60 true (.iaddr 2 (tm 61) (tm 63)),
 og 65 60 true (.faddr 0 (tm 64)),
 og 66 60 true (.load false 1 (tm 65)),
 og 67 60 true (.call 51 [(tm 66)]),
 og 68 60 true (.faddr 0 (tm 6)),
 og 69 60 true (.load false 1 (tm 68)),
 og 70 60 true (.call 51 [(tm 69)]),
 og 71 60 true (.bin .geq (tm 67) (tm 70))]
 72 (tm 71)]
 73 (tm 72)]
def Xg:List SOp :=
 [o1 4 (.mv (.av (.bool false)))]
def Xf:List SOp :=
 [o1 74 (.faddr 1 (tm 6)),
 o1 75 (.load false 1 (tm 74)),
 o1 76 (.len false (tm 75)),
 o1 77 (.mv (iv 0))]
def Xe:List SOp :=
 [o1 78 (.bin .lss (tm 77) (tm 76))]
def Xd:List SOp :=
 [o1 79 (.mv (tm 77)),
 o1 80 (.iaddr 1 (tm 75) (tm 77)),
 o1 81 (.load false 1 (tm 80)),
 o1 8 (.mv (tm 79)),
 o1 9 (.mv (tm 81))]
def Xq:List SOp :=
 [o1 83 (.faddr 0 (tm 2)),
 o1 84 (.load false 1 (tm 83)),
 o1 85 (.mv (tm 7)),
 o1 86 (.iaddr 4 (tm 84) (tm 85)),
 o1 87 (.faddr 1 (tm 86)),
 o1 88 (.load false 1 (tm 87)),
 o1 89 (.mv (tm 9)),
 o1 90 (.call 52 [(tm 88),(tm 89)]),
 o1 82 (.mv (tm 90)),
 o1 91 (.extract (tm 82) 0),
 o1 92 (.extract (tm 82) 1),
 o1 10 (.mv (tm 91)),
 o1 11 (.mv (tm 92))]
def Xp:List SOp :=
 [o1 93 (.mv (tm 11)),
 o1 94 (.un .not (tm 93)),
 o1 95 (.mv (tm 94)),
 .grp none 95 false
 [og 96 95 false (.mv (tm 8)),
 og 97 95 false (.bin .gtr (tm 96) (iv 0)),
 og 98 95 false (.mv (tm 97)),
 .grp (some (95,false)) 98 true
 [og 99 98 true (.faddr 0 (tm 2)),
 og 100 98 true (.load false 1 (tm 99)),
 og 101 98 true (.mv (tm 7)),
 og 102 98 true (.iaddr 4 (tm 100) (tm 101)),
 og 103 98 true (.faddr 1 (tm 102)),
 og 104 98 true (.load false 1 (tm 103)),
 og 105 98 true (.faddr 1 (tm 6)),
 og 106 98 true (.load false 1 (tm 105)),
 og 107 98 true (.mv (tm 8)),
 og 108 98 true (.bin .sub (tm 107) (iv 1)),
 og 109 98 true (.iaddr 1 (tm 106) (tm 108)),
 og 110 98 true (.load false 1 (tm 109)),
 og 111 98 true (.call 53 [(tm 104),(tm 110)]),
 og 112 98 true (.faddr 0 (tm 2)),
 og 113 98 true (.load false 1 (tm 112)),
 og 114 98 true (.mv (tm 7)),
 og 115 98 true (.iaddr 4 (tm 113) (tm 114)),
 og 116 98 true (.faddr 1 (tm 115)),
 og 117 98 true (.load false 1 (tm 116)),
 og 118 98 true (.mv (tm 9)),
 og 119 98 true (.call 53 [(tm 117),(tm 118)]),
 og 120 98 true (.bin .geq (tm 111) (tm 119))]
 121 (tm 120)]
 122 (tm 121)]
def Xo:List SOp :=
 [o1 4 (.mv (.av (.bool false)))]
def Xn:List SOp :=
 [o1 123 (.bin .add (tm 77) (iv 1)),
 o1 77 (.mv (tm 123))]
def Xm:List SOp :=
 [o1 124 (.bin .add (tm 14) (iv 1)),
 o1 14 (.mv (tm 124))]
def Xl:List SOp :=
 [o1 4 (.mv (.av (.bool true)))]
def aaZ:aU:=⟨125,(.seq (.sreg Xs [])
 (.seq (.seq (.sreg Xr [])
 (.block 0 (.loop (.seq (.sreg Xk [])
 (.seq (.cond (tm 15) .skip
 (.exit 0))
 (.seq (.block 1 (.seq (.sreg Xj [true,true,false,false,false])
 (.seq (.sreg Xi [true,false,false,false,false,false])
 (.seq (.seq (.sdreg Xh [.pure,.pure,.pure,.pure,(.read 0 0),.pure,(.read 0 0),.pure,(.read 0 0),.pure,(.read 0 0),.pure,.pure,.pure,.pure,(.read 0 0),(.read 0 0),.pure,.pure,.pure,.pure,(.read 0 0),.pure,(.read 0 0),.pure,(.read 0 0),.pure,.pure,(.read 0 0),(.read 0 0),.pure,.pure,.pure,.pure,.pure,.pure,.pure,.pure,.pure,.pure,(.read 0 0),.pure,(.read 0 0),(.read 0 0),.pure,(.read 0 0)] [true,false,false,false,false,false,false,false,false,false])
 (.cond (tm 73) (.seq (.sreg Xg [])
 .ret)
 .skip))
 (.seq (.sreg Xf [true,true,true,false])
 (.block 2 (.loop (.seq (.sreg Xe [])
 (.seq (.cond (tm 78) .skip
 (.exit 2))
 (.seq (.block 3 (.seq (.sreg Xd [true,true,false,false,false])
 (.seq (.sreg Xq [true,false,false,false,false,false,false,false,false,false,false,false,false])
 (.seq (.sdreg Xp [.pure,.pure,.pure,.pure,.pure,.pure,.pure,(.read 0 0),.pure,(.read 0 0),.pure,(.read 0 0),.pure,(.read 0 0),.pure,.pure,(.read 0 0),(.read 0 0),(.read 0 0),.pure,(.read 0 0),.pure,(.read 0 0),.pure,(.read 0 0),.pure] [true,false,false,false])
 (.cond (tm 122) (.seq (.sreg Xo [])
 .ret)
 .skip)))))
 (.sreg Xn [true,false])))))))))))
 (.sreg Xm [true,false])))))))
 (.seq (.sreg Xl [])
 .ret))),[(.tmp 4)]⟩
attribute [push_cast] Xs Xr Xk Xj Xi Xh Xg Xf Xe Xd Xq Xp Xo Xn Xm Xl
theorem aaY:aW Tryz.prog (fun _ _=>1) 27=some aaZ.raw:=by kernel_rfl
def X9:List SOp :=
 [o1 2 (.box (tm 0)),
 o1 3 (.box (tm 1)),
 o1 4 (.mv (.av (.bool false)))]
def X8:List SOp :=
 [o1 10 (.load true 2 (tm 2)),
 o1 11 (.call 20 [(tm 10)]),
 o1 12 (.un .not (tm 11)),
 o1 13 (.mv (tm 12)),
 .grp none 13 false
 [og 14 13 false (.faddr 0 (tm 3)),
 og 15 13 false (.load false 1 (tm 14)),
 og 16 13 false (.call 9 [(tm 15)]),
 og 17 13 false (.un .not (tm 16))]
 18 (tm 17),
 o1 19 (.mv (tm 18)),
 .grp none 19 false
 [og 20 19 false (.faddr 1 (tm 3)),
 og 21 19 false (.load false 1 (tm 20)),
 og 22 19 false (.call 21 [(tm 21)]),
 og 23 19 false (.un .not (tm 22))]
 24 (tm 23)]
def X7:List SOp :=
 [o1 25 (.call 22 []),
 o1 4 (.mv (tm 25))]
def X6:List SOp :=
 [o1 27 (.load true 2 (tm 2)),
 o1 28 (.faddr 0 (tm 3)),
 o1 29 (.load false 1 (tm 28)),
 o1 30 (.call 26 [(tm 27),(tm 29)]),
 o1 26 (.mv (tm 30)),
 o1 31 (.extract (tm 26) 0),
 o1 32 (.extract (tm 26) 1),
 o1 5 (.mv (tm 31)),
 o1 6 (.mv (tm 32))]
def X5:List SOp :=
 [o1 33 (.mv (tm 6)),
 o1 34 (.bin .neq (tm 33) (iv 0))]
def X4:List SOp :=
 [o1 35 (.call 22 []),
 o1 36 (.mv (tm 35)),
 .grp none 36 true
 [og 37 36 true (.mv (tm 5)),
 og 38 36 true (.len false (tm 37)),
 og 39 36 true (.bin .eql (tm 38) (iv 0))]
 40 (tm 39),
 o1 4 (.mv (tm 40))]
def X3:List SOp :=
 [o1 42 (.load true 2 (tm 2)),
 o1 43 (.mv (tm 5)),
 o1 44 (.call 26 [(tm 42),(tm 43)]),
 o1 41 (.mv (tm 44)),
 o1 45 (.extract (tm 41) 0),
 o1 46 (.extract (tm 41) 1),
 o1 7 (.mv (tm 45)),
 o1 8 (.mv (tm 46))]
def X2:List SOp :=
 [o1 48 (.load true 2 (tm 2)),
 o1 49 (.mv (tm 5)),
 o1 50 (.faddr 1 (tm 3)),
 o1 51 (.load false 1 (tm 50)),
 o1 52 (.call 24 [(tm 48),(tm 49),(tm 51)]),
 o1 47 (.mv (tm 52)),
 o1 53 (.extract (tm 47) 0),
 o1 54 (.extract (tm 47) 1),
 o1 9 (.mv (tm 53)),
 o1 6 (.mv (tm 54))]
def X0:List SOp :=
 [o1 55 (.call 22 []),
 o1 56 (.mv (tm 55)),
 .grp none 56 true
 [og 57 56 true (.load true 2 (tm 2)),
 og 58 56 true (.mv (tm 5)),
 og 59 56 true (.call 27 [(tm 57),(tm 58)])]
 60 (tm 59),
 o1 61 (.mv (tm 60)),
 .grp none 61 true
 [og 62 61 true (.mv (tm 7)),
 og 63 61 true (.mv (tm 5)),
 og 64 61 true (.call 25 [(tm 62),(tm 63)])]
 65 (tm 64),
 o1 66 (.mv (tm 65)),
 .grp none 66 true
 [og 67 66 true (.load true 2 (tm 2)),
 og 68 66 true (.mv (tm 9)),
 og 69 66 true (.call 27 [(tm 67),(tm 68)])]
 70 (tm 69),
 o1 71 (.mv (tm 70)),
 .grp none 71 true
 [og 72 71 true (.mv (tm 6)),
 og 73 71 true (.bin .eql (tm 72) (iv 0)),
 og 74 71 true (.mv (tm 73)),
 .grp (some (71,true)) 74 false
 [og 75 74 false (.mv (tm 9)),
 og 76 74 false (.len false (tm 75)),
 og 77 74 false (.bin .eql (tm 76) (iv 0))]
 78 (tm 77)]
 79 (tm 78),
 o1 4 (.mv (tm 79))]
def aa9:aU:=⟨80,(.seq (.sreg X9 [])
 (.seq (.seq (.sreg X8 [true,false,false,false,false,false,false])
 (.cond (tm 24) (.seq (.sreg X7 [true,false])
 .ret)
 .skip))
 (.seq (.sreg X6 [true,true,false,false,false,false,false,false,false])
 (.seq (.seq (.sreg X5 [true,false])
 (.cond (tm 34) (.seq (.sreg X4 [true,false,false,false])
 .ret)
 .skip))
 (.seq (.sreg X3 [false,true,false,false,false,false,false,false])
 (.seq (.sreg X2 [true,true,false,false,false,false,false,false,false,false])
 (.seq (.sreg X0 [true,false,false,false,false,false,false,false,false,false])
 .ret))))))),[(.tmp 4)]⟩
attribute [push_cast] X9 X8 X7 X6 X5 X4 X3 X2 X0
theorem aa8:aW Tryz.prog (fun _ _=>1) 6=some aa9.raw:=by kernel_rfl
set_option maxHeartbeats 8000000
set_option maxRecDepth 100000
theorem NO {α:Type} {key:α→List UInt8} {l:List α} (h:fT key l) {i:Nat} {d:α} (hi:i+1<l.length):key (l.getD i d)<key (l.getD (i+1) d):=by
 have:=List.pairwise_iff_getElem.1 h i (i+1) (by omega) hi (by omega)
 simpa [show i<l.length by omega,hi] using this
theorem NG {ts:List Typ} {capT:Option Nat} {c2:List AV} {n2:Nat} {cap2:Option Nat} {l:List Atr} {cap:Option Nat} (hts:Ql ts) (hin:InA ts l) (hl:l.length≤1000000) (hz:∀ a∈l,a.2.length≤1000000) {L:List Blk} {K:AV→List Blk→Prop} (h:K (.bool true) L) :
   af Tryz.prog 27 [.agg [.sl (b9 ts) ts.length capT,.sl c2 n2 cap2],.sl (a7 l) l.length cap] L K:=by
 replace h:=hid h
 replace hin:=hid hin
 replace hz:=hid hz
 refine ai aaY (by simp [aaZ]) ?_
 simp only [aaZ,ar]
 refine wk ?_
 obtain ⟨sC,hsC⟩:∃ s,AV.sl c2 n2 cap2=s:=⟨_,rfl⟩
 rw [hsC]
 clear hsC
 refine am (fun m T' L'=>∃ (i:Nat) (X:List Blk),m=l.length - i∧i≤l.length∧T'=[(14,.int .i64 (i:Int)),(13,.int .i64 l.length),(12,.sl (a7 l) l.length cap),(1,.sl (a7 l) l.length cap),(2,.ptr L.length 0)]∧L'=L++(.cells [.sl (b9 ts) ts.length capT,sC]::X)) (CutS (b:=by simp)) ⟨0,[],rfl,Nat.zero_le _,rfl,by simp⟩ ?_
 rintro _ _ _ ⟨i,X,rfl,hi,rfl,rfl⟩
 by_cases hlt:i<l.length
 rotate_left
 · have g1:¬ (i:Int)<(l.length:Int):=by omega
   refine wk ?_
   exact ad rfl h.out
 have g1:(i:Int)<(l.length:Int):=by omega
 have g2:IntKind.i64.wrap ((i:Int)+1)=(i:Int)+1:=ab (by omega) (by omega)
 have e3:=iW hlt
 have e4:i * 2+2≤(a7 l).length:=by rw [im];omega
 obtain ⟨⟨nm,vs⟩,ha⟩:∃ a,l.getD i ([],[])=a:=⟨_,rfl⟩
 have hm:(nm,vs)∈l:=by rw [← ha];simp [hlt]
 obtain ⟨ty,t1,t2,t3,t4,t5⟩:=hin.out.2 _ hm
 have hvs:=hz.out _ hm
 simp only at t1 t2 t3 t4 t5 hvs
 have hnm:a6 nm:=by rw [← t2];exact hts.2.1 ty (CO t1).1
 rw [ha] at e3
 simp only [atA] at e3
 have hprev:0<i→∃ pn,a6 pn∧(a7 l).getD ((i - 1) * 2) .undef=.str pn∧Op.bytesLess (ae pn) (ae nm)=true:=fun h0=>by
   have hpm:l.getD (i - 1) ([],[])∈l:=by simp [show i - 1<l.length by omega]
   obtain ⟨ty',u1,u2,_⟩:=hin.out.2 _ hpm
   refine ⟨(l.getD (i - 1) ([],[])).1,by rw [← u2];exact hts.2.1 ty' (CO u1).1,?_,?_⟩
   · have h3:=congrArg (fun l=>l[0]?) (iW (l:=l) (k:=i - 1) (by omega))
     simp only [List.getElem?_take_of_lt (show 0<2 by omega),List.getElem?_drop,Nat.add_zero] at h3
     rw [List.getD_eq_getElem?_getD,h3];rfl
   · rw [bytesLess_eq,decide_eq_true_eq]
     have:=NO hin.out.1 (i:=i - 1) (d:=([],[])) (by omega)
     rw [show i - 1+1=i by omega,ha] at this
     exact this
 replace hprev:=hid hprev
 clear ha
 refine wk ?_
 refine VP hts.1 hts.2.1 hnm (fun hty=>?_) (fun k hk hty=>?_)
 · rw [t1] at hty;cases hty
 rw [t1] at hty
 have hty:ts.getD k fW=ty:=(Option.some.inj hty).symm
 have e5:=iQ hk
 rw [hty] at e5
 have eg:∀ z,z<4→(b9 ts).getD (k * 4+z) .undef=(tyC ty).getD z .undef:=fun z hz4=>by
   have h3:=congrArg (fun l=>l[z]?) e5
   simp only [List.getElem?_take_of_lt hz4,List.getElem?_drop] at h3
   rw [List.getD_eq_getElem?_getD,h3,List.getD_eq_getElem?_getD]
 have e6:k * 4+4≤(b9 ts).length:=by rw [gG];omega
 have f0:(b9 ts).getD (k * 4) .undef=.str nm:=by rw [← t2];exact eg 0 (by omega)
 have f1:(b9 ts).getD (k * 4+1) .undef=.int .i64 ty.2.1:=eg 1 (by omega)
 have f2:(b9 ts).getD (k * 4+2) .undef=.bool ty.2.2.1:=eg 2 (by omega)
 have f3:k * 4<(b9 ts).length:=by omega
 have f4:k * 4+1<(b9 ts).length:=by omega
 have f5:k * 4+2<(b9 ts).length:=by omega
 have g3:¬ (k:Int)<0:=by omega
 have g4:(k:Int)<(ts.length:Int):=by omega
 have g5:¬ (vs.length:Int)=0:=fun e=>t3 (List.length_eq_zero_iff.1 (by omega))
 have g6:(ty.2.2.1 && decide ((1:Int)<(vs.length:Int)))=false:=by
   cases hsg:ty.2.2.1 with
   | false=>rfl
   | true =>
     have:=t5 hsg
     simp;omega
 obtain ⟨sg,hsg⟩:∃ sg,ty.2.2.1=sg:=⟨_,rfl⟩
 obtain ⟨syn,hsyn⟩:∃ sg,ty.2.1=sg:=⟨_,rfl⟩
 rw [hsg] at f2 g6
 rw [hsyn] at f1 t4
 replace t4:=hid t4
 clear eg e5 hty t1 t2 t3 t5 hsg hsyn hin hz hm
 replace hts:=hid hts
 by_cases h0:i=0
 rotate_left
 have q0:(0:Int)<(i:Int):=by omega
 have q1:IntKind.i64.wrap ((i:Int) - 1)=(i:Int) - 1:=ab (by omega) (by omega)
 have q2:((i:Int) - 1).toNat=i - 1:=by omega
 have q3:(i:Int) - 1<(l.length:Int):=by omega
 have q4:(i - 1) * 2<(a7 l).length:=by omega
 obtain ⟨pn,hpn,q5,q6⟩:=hprev.out (by omega)
 have kk1:=@hid _ (fun L K=>aX hpn (L:=L) (K:=K))
 have kk2:=@hid _ (fun L K=>aX hnm (L:=L) (K:=K))
 refine sk ?_
 refine wk ?_
 clear q0 q1 q2 q3 q4 q5 q6 kk1 kk2 hpn pn
 rotate_left
 have q0:¬ (0:Int)<(i:Int):=by omega
 replace h0:=hid h0
 refine sk ?_
 refine wk ?_
 clear q0
 all_goals
   clear h0 g6 f0 f2 f3 f5 e3 e4 hprev g5
   refine am (fun m T' L'=>∃ j:Nat,m=vs.length - j∧j≤vs.length∧T'=[(77,.int .i64 (j:Int)),(76,.int .i64 vs.length),(75,.sl (vs.map AV.str) vs.length none),(7,.int .i64 k),(6,.ptr (L.length+(X.length+1)) 0),(14,.int .i64 (i:Int)),(13,.int .i64 l.length),(12,.sl (a7 l) l.length cap),(1,.sl (a7 l) l.length cap),(2,.ptr L.length 0)]∧L'=L++(.cells [.sl (b9 ts) ts.length capT,sC]::(X++[.cells [.str nm,.sl (vs.map AV.str) vs.length none]]))) (CutS (b:=by simp)) ⟨0,rfl,Nat.zero_le _,rfl,rfl⟩ ?_
   rintro _ _ _ ⟨j,rfl,hj,rfl,rfl⟩
   by_cases hjl:j<vs.length
   rotate_left
   · have j1:¬ (j:Int)<(vs.length:Int):=by omega
     refine wk ?_
     exact aj _ _ _ (by omega) (CutL (b:=by simp)) ⟨i+1,_,rfl,hlt,rfl,rfl⟩
   have j1:(j:Int)<(vs.length:Int):=by omega
   have j2:IntKind.i64.wrap ((j:Int)+1)=(j:Int)+1:=ab (by omega) (by omega)
   obtain ⟨v,hv⟩:∃ v,vs.getD j []=v:=⟨_,rfl⟩
   have j3:(vs.map AV.str).getD j .undef=.str v:=by rw [← hv];simp [hjl]
   have hvm:v∈vs:=by rw [← hv];simp [hjl]
   obtain ⟨n,hn⟩:=Option.isSome_iff_exists.1 (t4.out.2 v hvm)
   have hpv:0<j→∃ pv,(vs.map AV.str).getD (j - 1) .undef=.str pv∧Op.bytesLess (cx syn pv) (cx syn v)=true:=fun h0=>by
     refine ⟨vs.getD (j - 1) [],by simp [show j - 1<vs.length by omega],?_⟩
     rw [bytesLess_eq,decide_eq_true_eq]
     have:=NO t4.out.1 (i:=j - 1) (d:=[]) (by omega)
     rw [show j - 1+1=j by omega,hv] at this
     exact this
   clear hv hvm
   replace hpv:=hid hpv
   replace hn:=hid hn
   refine wk ?_
   refine DC ?_
   rw [hn.out]
   simp only [sP]
   by_cases h0:j=0
   · have q0:¬ (0:Int)<(j:Int):=by omega
     replace h0:=hid h0
     refine sk ?_
     refine wk ?_
     exact aj _ _ _ (by omega) (CutL (b:=by simp)) ⟨j+1,rfl,hjl,rfl,rfl⟩
   · have q0:(0:Int)<(j:Int):=by omega
     have q1:IntKind.i64.wrap ((j:Int) - 1)=(j:Int) - 1:=ab (by omega) (by omega)
     have q2:((j:Int) - 1).toNat=j - 1:=by omega
     have q3:(j:Int) - 1<(vs.length:Int):=by omega
     have q4:j - 1<vs.length:=by omega
     obtain ⟨pv,q5,q6⟩:=hpv.out (by omega)
     have kk1:=@hid _ (fun L K=>z6 (syn:=syn) (v:=pv) (L:=L) (K:=K))
     have kk2:=@hid _ (fun L K=>z6 (syn:=syn) (v:=v) (L:=L) (K:=K))
     refine sk ?_
     refine wk ?_
     exact aj _ _ _ (by omega) (CutL (b:=by simp)) ⟨j+1,rfl,hjl,rfl,rfl⟩
set_option maxHeartbeats 8000000
set_option maxRecDepth 100000
theorem N7 {ts:List Typ} {cs:List Cls} {l:List Atr} {ms:List Mdf} {capT capC cap capM:Option Nat} (hs:U2 ts cs) (hl:VL l) (hm:NZ ms) {L:List Blk} {K:AV→List Blk→Prop} (h:K (.bool true) L) :
   af Tryz.prog 6 [.agg [.sl (b9 ts) ts.length capT,.sl (ft cs) cs.length capC],.agg [.sl (a7 l) l.length cap,.sl (bS ms) ms.length capM]] L K:=by
 replace h:=hid h
 obtain ⟨fb,hfb⟩:∃ b,Pt l=b:=⟨_,rfl⟩
 obtain ⟨fd,hfd⟩:∃ b,NU ms=b:=⟨_,rfl⟩
 have kk1:Hid (∀ {L:List Blk} {K:AV→List Blk→Prop},K (.bool true) L→af Tryz.prog 22 [] L K):=hid fun q=>Mv q
 have kk2:Hid (∀ {L:List Blk} {K:AV→List Blk→Prop},K (.bool fb) L→af Tryz.prog 9 [.sl (a7 l) l.length cap] L K):=hid fun q=>Vt hl.1 (fun a ha=>(hl.2 a ha).2) (by rw [hfb];exact q)
 have kk3:Hid (∀ {L:List Blk} {K:AV→List Blk→Prop},K (.bool fd) L→af Tryz.prog 21 [.sl (bS ms) ms.length capM] L K):=hid fun q=>NT hm (by rw [hfd];exact q)
 refine ai aa8 (by simp [aa9]) ?_
 simp only [aa9,ar]
 refine wk ?_
 refine Q1 hs fun b hb=>?_
 cases b with
 | false =>
   refine sk ?_
   refine wk ?_
   exact ad rfl h.out
 | true =>
 have hts:=hb rfl
 clear hb
 cases fb with
 | false =>
   refine sk ?_
   refine wk ?_
   exact ad rfl h.out
 | true =>
 cases fd with
 | false =>
   refine sk ?_
   refine wk ?_
   exact ad rfl h.out
 | true =>
 have hf:=Tg hfb
 have hg:=NL hfd
 clear hfb hfd
 obtain ⟨R,hR⟩:∃ R,wV ts [] l=R:=⟨_,rfl⟩
 have hv:∀ a∈l,a6 a.1∧a.2.length≤9000:=fun a ha=>⟨(hl.2 a ha).1,by have:=(hf.2 a ha).1;omega⟩
 have hR1:R.1.length≤60∧∀ a∈R.1,a.2.length≤3600:=by
   have:=OZ (ts:=ts) (l:=l) (out:=[]) (i:=0) (B:=60) (Nat.le_refl _) (by simp) (fun a ha=>(hf.2 a ha).1)
   rw [hR] at this
   exact ⟨by have:=this.1;omega,fun a ha=>by have:=this.2 a ha;omega⟩
 have hR2:R.2=0→InA ts R.1:=fun e=>by rw [← hR] at e ⊢;exact aad (Z4 ts) e
 have hR3:R.2≠0→R.1=[]:=fun e=>by rw [← hR] at e ⊢;exact aaf e
 replace hl:=hid hl
 replace hm:=hid hm
 refine sk ?_
 refine wk ?_
 refine K5 hts (by omega) hv hR ?_
 clear kk2 kk3 hR
 by_cases h0:R.2=0
 rotate_left
 · have hnil:=hR3 h0
   have h3:R.1.length=0:=by rw [hnil];rfl
   replace hnil:=hid hnil
   clear hR1 hR2 hR3 hf hg hv hts
   refine sk ?_
   refine wk ?_
   exact ad rfl h.out
 have hin:=hR2 h0
 have hrr:∀ a∈R.1,a6 a.1:=fun a ha=>(LR hts hin ha).1
 obtain ⟨A,hA⟩:∃ A,aby ts R.1 ms=A:=⟨_,rfl⟩
 have hmv:∀ m∈ms,a6 m.2.1∧m.2.2.length≤1000:=fun m hm'=>⟨(hm.out.2 m hm').1,by have:=hg.2 m hm';omega⟩
 have hA1:A.1.length≤1000000∧∀ a∈A.1,a.2.length≤1000000:=by
   have:=NM (ts:=ts) (l:=R.1) (ms:=ms) (B:=3600) (C:=60) hR1.2 hg.2
   rw [hA] at this
   exact ⟨by have:=this.1;omega,fun a ha=>by have:=this.2 a ha;omega⟩
 have hAin:InA ts A.1:=by
   by_cases hA2:A.2=0
   · rw [← hA] at hA2 ⊢
     exact abw hin hA2
   · have:A.1=[]:=by rw [← hA] at hA2 ⊢;exact abx hA2
     rw [this];exact Z4 ts
 have hA4:A.2=0∨(A.1.length:Int)=0:=by
   by_cases hA2:A.2=0
   · exact .inl hA2
   · have:A.1=[]:=by rw [← hA] at hA2 ⊢;exact abx hA2
     right;rw [this];rfl
 have hmk:wV ts [] R.1=(R.1,0):=by
   have:=aae (ts:=ts) (l:=R.1) (out:=[]) (by simpa using hin)
   simpa using this
 have kk2:Hid (∀ {L:List Blk} {K:AV→List Blk→Prop},K (.tup [.sl (a7 R.1) R.1.length none,.int .i64 0]) L→af Tryz.prog 26 [.agg [.sl (b9 ts) ts.length capT,.sl (ft cs) cs.length capC],.sl (a7 R.1) R.1.length none] L K):=hid fun q=>K5 hts (by omega) (fun a ha=>⟨hrr a ha,by have:=hR1.2 a ha;omega⟩) hmk q
 have kk3:Hid (∀ {L:List Blk} {K:AV→List Blk→Prop},K (.tup [.sl (a7 A.1) A.1.length none,.int .i64 A.2]) L→af Tryz.prog 24 [.agg [.sl (b9 ts) ts.length capT,.sl (ft cs) cs.length capC],.sl (a7 R.1) R.1.length none,.sl (bS ms) ms.length capM] L K):=hid fun q=>En hts hin (by omega) (fun a ha=>by have:=hR1.2 a ha;omega) (by omega) hmv hA q
 have kk4:Hid (∀ {L:List Blk} {K:AV→List Blk→Prop},K (.bool true) L→af Tryz.prog 27 [.agg [.sl (b9 ts) ts.length capT,.sl (ft cs) cs.length capC],.sl (a7 R.1) R.1.length none] L K):=hid fun q=>NG hts hin (by omega) (fun a ha=>by have:=hR1.2 a ha;omega) q
 have kk5:Hid (∀ {L:List Blk} {K:AV→List Blk→Prop},K (.bool true) L→af Tryz.prog 27 [.agg [.sl (b9 ts) ts.length capT,.sl (ft cs) cs.length capC],.sl (a7 A.1) A.1.length none] L K):=hid fun q=>NG hts hAin hA1.1 hA1.2 q
 have kk6:Hid (∀ {L:List Blk} {K:AV→List Blk→Prop},K (.bool true) L→af Tryz.prog 25 [.sl (a7 R.1) R.1.length none,.sl (a7 R.1) R.1.length none] L K):=hid fun q=>M6 (by omega) (fun a ha=>by have:=hR1.2 a ha;omega) q
 clear hR1 hR2 hR3 hf hg hv hts hin hrr hA hmv hA1 hAin hmk
 by_cases hA2:A.2=0
 · clear hA4
   refine sk ?_
   refine wk ?_
   exact ad rfl h.out
 · have hA5:=hA4.resolve_left hA2
   clear hA4
   refine sk ?_
   refine wk ?_
   exact ad rfl h.out
end Go.Proofs.YtohflefnbajajaaGreatDoor.Av
