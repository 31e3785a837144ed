/- Joined texts of the walk, made small by a program. -/
import Derived.Test.YtkkgmgmgcgiffaaGreatDoorUS1
import Derived.Test.YtkkgmgmgcgiffaaGreatDoorUO1
import Derived.Test.YtkkgmgmgcgiffaaGreatDoorUA1
import Derived.Test.YtkkgmgmgcgiffaaGreatDoorUE1
import Derived.Test.YtkkgmgmgcgiffaaGreatDoorUP4
import Derived.Test.YtkkgmgmgcgiffaaGreatDoorRows
import Derived.KernelRfl
import Derived.Test.YtkkgmgmgcgiffaaGreatDoorUE4
import Derived.Test.YtkkgmgmgcgiffaaGreatDoorUE2
import Derived.Test.YtkkgmgmgcgiffaaGreatDoorUE3
import Derived.WalkKit
import Derived.ProofKit
import Derived.OpenShut
import Derived.JoinedCond
import Derived.Test.YtkkgmgmgcgiffaaGreatDoorUP5
import Derived.Test.YtkkgmgmgcgiffaaGreatDoorUE6
import Derived.Test.YtkkgmgmgcgiffaaGreatDoorUT4
import Derived.Test.YtkkgmgmgcgiffaaGreatDoorUT5
set_option linter.unusedSimpArgs false
set_option linter.unusedVariables false
namespace Go.Proofs.YtkkgmgmgcgiffaaGreatDoor.Av
open Go
variable {L:List Blk} {K:AV→List Blk→Prop}
set_option maxHeartbeats 8000000
set_option maxRecDepth 100000
def agW (syn:Int):List (List UInt8)→List (List UInt8)→List (List UInt8)×Int
 | l,[]=>(l,0)
 | l,v::vs=>match bU syn v with
   | none=>([],21)
   | some n=>if inM syn l n=false then ([],16) else agW syn (l.filter fun x=>decide (dj syn x≠n)) vs
abbrev Mdf:=Int×List UInt8×List (List UInt8)
def afJ (ts:List Typ) (l:List Atr) (m:Mdf):List Atr×Int :=
 if m.1<0∨2<m.1 then ([],2) else match fJ ts m.2.1 with
   | none=>([],17)
   | some ty=>if m.1=1 then
       (if m.2.2 = [] ∧ dU l m.2.1 = [] then ([], 16)
        else if (agW ty.2.1 (dU l m.2.1) m.2.2).2≠0 then ([],(agW ty.2.1 (dU l m.2.1) m.2.2).2)
        else (kM ty.1 (if m.2.2=[] then [] else (agW ty.2.1 (dU l m.2.1) m.2.2).1) (if m.2.2=[] then true else (agW ty.2.1 (dU l m.2.1) m.2.2).1.isEmpty) l,0))
     else if m.1=0∧m.2.2=[] then ([],2)
     else if (dx ty.2.1 ty.2.2.1 (if m.1=2 then [] else dU l m.2.1) m.2.2).2≠0 then ([],(dx ty.2.1 ty.2.2.1 (if m.1=2 then [] else dU l m.2.1) m.2.2).2)
     else (kM ty.1 (dx ty.2.1 ty.2.2.1 (if m.1=2 then [] else dU l m.2.1) m.2.2).1 (dx ty.2.1 ty.2.2.1 (if m.1=2 then [] else dU l m.2.1) m.2.2).1.isEmpty l,0)
def aib (ts:List Typ):List Atr→List Mdf→List Atr×Int
 | l,[]=>(l,0)
 | l,m::ms=>if (afJ ts l m).2≠0 then ([],(afJ ts l m).2) else aib ts (afJ ts l m).1 ms
section
variable {α:Type} (key:α→List UInt8)
end
variable {L:List Blk} {K:AV→List Blk→Prop}
set_option maxHeartbeats 8000000
set_option maxRecDepth 100000
theorem afU {syn:Int} {v:List UInt8} {l:List (List UInt8)} (h:inM syn l (dj syn v)=false) {x:List UInt8}:x∈eM syn v false l↔x=v∨x∈l:=by
 rw [Mo syn v l h,LE]
theorem ail {syn:Int} {single:Bool}:∀ {vs l:List (List UInt8)},(dx syn single l vs).2=0→∀ x∈l,x∈(dx syn single l vs).1∧∀ v∈vs,dj syn v≠dj syn x
 | [],l,h0,x,hx=>by
   rw [dx] at h0 ⊢
   split
   · rename_i hc;rw [if_pos hc] at h0;cases h0
   · exact ⟨hx,fun v hv=>by cases hv⟩
 | v::vs,l,h0,x,hx=>by
   obtain ⟨h1,h2,h3⟩:=S9 h0
   rw [h3] at h0 ⊢
   obtain ⟨h4,h5⟩:=ail h0 x ((afU h2).2 (.inr hx))
   refine ⟨h4,fun u hu=>?_⟩
   rcases List.mem_cons.1 hu with rfl|hu
   · intro e
     simp only [inM,List.any_eq_false,decide_eq_true_eq] at h2
     exact h2 x hx e.symm
   · exact h5 u hu
theorem YG {n m:List UInt8} (h:ah n=ah m):∀ l:List Atr,dU l n=dU l m
 | []=>rfl
 | a::t=>by rw [dU,dU,h,YG h t]
theorem YD {n:List UInt8} {vs:List (List UInt8)}:∀ {l:List Atr},dU (kM n vs false l) n=vs
 | []=>by simp [kM,dU]
 | a::t=>by
   rw [kM]
   by_cases ha:ah a.1<ah n
   · have hne:¬ ah a.1=ah n:=fun e=>by rw [e] at ha;exact List.lt_irrefl _ ha
     rw [if_neg (fun e=>e.2 ha),if_pos (fun e=>hne e.symm),decide_eq_true ha]
     simp only [Bool.not_true,Bool.or_false,List.nil_append,List.singleton_append]
     rw [dU,if_neg hne,YD]
   · rw [if_pos ⟨rfl,ha⟩,List.append_assoc,List.singleton_append,dU,if_pos rfl]
theorem YX (n:List UInt8):∀ l:List Atr,kM n [] true l=l.filter fun a=>decide (ah a.1≠ah n)
 | []=>rfl
 | a::t=>by
   rw [kM,if_neg (by simp),Bool.true_or,YX n t]
   by_cases h:ah a.1=ah n
   · rw [if_neg (fun e=>e h.symm),List.filter_cons_of_neg (by simp [h])];rfl
   · rw [if_pos (fun e=>h e.symm),List.filter_cons_of_pos (by simp [h])];rfl
theorem agU {syn:Int}:∀ {vs l:List (List UInt8)},InV syn l→(agW syn l vs).2=0→InV syn (agW syn l vs).1∧(agW syn l vs).1.length≤l.length
 | [],l,h,_=>⟨h,Nat.le_refl _⟩
 | v::vs,l,h,h0=>by
   rw [agW] at h0 ⊢
   rcases hv:bU syn v with _|n
   · rw [hv] at h0;cases h0
   · rw [hv] at h0
     simp only at h0 ⊢
     split
     · rename_i hc;rw [if_pos hc] at h0;cases h0
     · rename_i hc
       rw [if_neg hc] at h0
       obtain ⟨h1,h2⟩:=agU (l:=l.filter fun x=>decide (dj syn x≠n)) ⟨h.1.filter _,fun x hx=>h.2 x (List.mem_filter.1 hx).1⟩ h0
       exact ⟨h1,Nat.le_trans h2 (List.length_filter_le _ _)⟩
theorem agq {ts:List Typ} {l:List Atr} (n:List UInt8) (h:InA ts l):InA ts (kM n [] true l):=by
 rw [YX]
 exact ⟨h.1.filter _,fun a ha=>h.2 a (List.mem_filter.1 ha).1⟩
theorem YH {ts:List Typ} {l:List Atr} {n:List UInt8} {ty:Typ} (h:InA ts l) (ht:fJ ts n=some ty) (hs:ty.2.2.1=true):(dU l n).length≤1:=by
 rw [On n l h.1]
 rcases hg:l[dK db l (ah n)]? with _|a
 · simp
 · simp only
   split
   · rename_i he
     obtain ⟨ty',h1,_,_,_,h5⟩:=h.2 a (List.mem_of_getElem? hg)
     rw [JJ he,ht] at h1
     cases h1
     exact h5 hs
   · simp
theorem afp {ts:List Typ} {l:List Atr} {n:List UInt8} {ty:Typ} {vs:List (List UInt8)} (h:InA ts l) (ht:fJ ts n=some ty) (hi:InV ty.2.1 vs) (h1:ty.2.2.1=true→vs.length≤1):InA ts (kM ty.1 vs vs.isEmpty l):=by
 rcases vs with _|⟨v,vs⟩
 · exact agq ty.1 h
 · exact VO h (by rw [JJ (Dw ht).2];exact ht) rfl (by simp) hi h1
theorem afH {ts:List Typ} {l:List Atr} {m:Mdf} (h:InA ts l) (h0:(afJ ts l m).2=0):InA ts (afJ ts l m).1:=by
 unfold afJ at h0 ⊢
 split
 · rename_i hc;rw [if_pos hc] at h0;cases h0
 rename_i hc
 rw [if_neg hc] at h0
 rcases ht:fJ ts m.2.1 with _|ty
 · rw [ht] at h0;cases h0
 rw [ht] at h0
 simp only at h0 ⊢
 have hval:=VA h ht
 have hsin:=YH h ht
 split
 · rename_i h1
   rw [if_pos h1] at h0
   split
   · rename_i hd;rw [if_pos hd] at h0;cases h0
   rename_i hd
   rw [if_neg hd] at h0
   split
   · rename_i hd2;rw [if_pos hd2] at h0;exact absurd h0 hd2
   rename_i hd2
   simp only [ne_eq,Decidable.not_not] at hd2
   obtain ⟨h3,h4⟩:=agU hval hd2
   split
   · exact agq ty.1 h
   · exact afp h ht h3 (fun hs=>Nat.le_trans h4 (hsin hs))
 · rename_i h1
   rw [if_neg h1] at h0
   split
   · rename_i hd;rw [if_pos hd] at h0;cases h0
   rename_i hd
   rw [if_neg hd] at h0
   obtain ⟨was,hwas⟩:∃ w,(if m.1=2 then [] else dU l m.2.1)=w:=⟨_,rfl⟩
   have hw:InV ty.2.1 was:=by
     rw [← hwas]
     split
     · exact ⟨List.Pairwise.nil,fun v hv=>by cases hv⟩
     · exact hval
   rw [hwas] at h0 ⊢
   split
   · rename_i hd2;rw [if_pos hd2] at h0;exact absurd h0 hd2
   rename_i hd2
   simp only [ne_eq,Decidable.not_not] at hd2
   exact afp h ht (RV hw hd2) (K4 hd2)
theorem ah9 {ts:List Typ}:∀ {ms:List Mdf} {l:List Atr},InA ts l→(aib ts l ms).2=0→InA ts (aib ts l ms).1
 | [],l,h,_=>h
 | m::ms,l,h,h0=>by
   rw [aib] at h0 ⊢
   split
   · rename_i hc;rw [if_pos hc] at h0;exact absurd h0 hc
   · rename_i hc
     rw [if_neg hc] at h0
     simp only [ne_eq,Decidable.not_not] at hc
     exact ah9 (afH h hc) h0
end Go.Proofs.YtkkgmgmgcgiffaaGreatDoor.Av
set_option maxRecDepth 100000
namespace Go.Proofs.YtkkgmgmgcgiffaaGreatDoor.Av
open Go
variable {L:List Blk} {K:AV→List Blk→Prop}
def ack:LSO:=[A3 3 0,A3 5 2,Am 6,Ab 7 0]
def acj:LSO:=[Ac 20 0 5,Ad 21 1 20,AB 22 21 0,Aa 23 22,.grp none 23 false
 [AA 24 23 0 5,A8 25 23 1 24,A5 26 23 25 2]
 27 (tm 26)]
def ab7:LSO:=[Am 6,Ab 7 2]
def abW:LSO:=[Ac 28 0 3,Ad 29 1 28,Ac 30 1 5,Ad 31 1 30,Aw 32 50 29 31,Aa 8 32]
def abM:LSO:=[Aa 33 8,AB 34 33 0]
def abL:LSO:=[Am 6,Ab 7 17]
def abK:LSO:=[Ac 35 0 3,Ad 36 1 35,Aa 37 8,Aq 38 4 36 37,Ap 39 4 38,Bo 9,Ai 4 9 39]
def abJ:LSO:=[Aa 40 1,Ac 41 1 5,Ad 42 1 41,Aw 43 53 40 42,Aa 10 43]
def abI:LSO:=[Ac 44 0 5,Ad 45 1 44,Al 46 45 1]
def abH:LSO:=[Ac 47 2 5,Ad 48 1 47,An 49 48,Al 50 49 0,Aa 51 50,.grp none 51 true
 [Ae 52 51 10,Bu 53 51 52,AX 54 51 53 0]
 55 (tm 54)]
def aci:LSO:=[Am 6,Ab 7 16]
def ach:LSO:=[Ac 56 2 5,Ad 57 1 56,An 58 57,Ab 59 0]
def acg:LSO:=[Ak 60 59 58]
def acf:LSO:=[Aq 61 1 57 59,Ad 62 1 61,Aa 12 62]
def ace:LSO:=[Ac 64 1 9,Ad 65 1 64,Aa 66 12,Aw 67 51 65 66,Aa 63 67,As 68 63,Au 69 63,Aa 13 68,Aa 14 69]
def acd:LSO:=[Aa 70 14,Ay 71 70]
def acb:LSO:=[Am 6,Ab 7 21]
def aca:LSO:=[Ac 72 1 9,Ad 73 1 72,Aa 74 10,Aa 75 13,AD 76 71 73 74 75,Ay 77 76]
def ab9:LSO:=[Am 6,Ab 7 16]
def ab8:LSO:=[Am 15]
def ab6:LSO:=[Aa 78 10,An 79 78,Ab 80 0]
def ab5:LSO:=[Ak 81 80 79]
def ab4:LSO:=[Aq 82 1 78 80,Ad 83 1 82,Aa 17 83]
def ab3:LSO:=[Ac 84 1 9,Ad 85 1 84,Aa 86 17,Aw 87 72 85 86,Aa 88 13,o1 89 (.bin .neq (tm 87) (tm 88))]
def ab2:LSO:=[Aa 90 15,Aa 91 17,Bw 92 91,Bn 93 90 92,Aa 15 93]
def ab1:LSO:=[Ah 94 80 1,Aa 80 94]
def ab0:LSO:=[Aa 95 15,Aa 10 95]
def abZ:LSO:=[Ah 96 59 1,Aa 59 96]
def abY:LSO:=[Ac 97 2 5,Ad 98 1 97,An 99 98,Al 100 99 0]
def abX:LSO:=[Am 10]
def abV:LSO:=[Aa 101 1,Ac 102 0 9,Ad 103 1 102,Aa 104 10,AD 105 75 101 103 104,Aa 6 105,Ab 7 0]
def abU:LSO:=[Ac 106 0 5,Ad 107 1 106,Al 108 107 0,Aa 109 108,.grp none 109 true
 [A7 110 109 2 5,A4 111 109 1 110,Bu 112 109 111,AX 113 109 112 0]
 114 (tm 113)]
def abT:LSO:=[Am 6,Ab 7 2]
def abS:LSO:=[Ac 115 0 5,Ad 116 1 115,Al 117 116 2]
def abR:LSO:=[Am 10]
def abQ:LSO:=[Ap 119 4 9,Aa 120 10,Ac 121 2 5,Ad 122 1 121,AD 123 74 119 120 122,Aa 118 123,As 124 118,Au 125 118,Aa 18 124,Aa 19 125]
def abP:LSO:=[Aa 126 19,AF 127 126 0]
def abO:LSO:=[Aa 128 19,Am 6,Aa 7 128]
def abN:LSO:=[Aa 129 1,Ac 130 0 9,Ad 131 1 130,Aa 132 18,AD 133 75 129 131 132,Aa 6 133,Ab 7 0]
def ahz:aW:=⟨134,(.seq (.sreg ack [])
 (.seq (.seq (.sreg acj Cj)
 (.cond (tm 27) (.seq (.sreg ab7 [])
 .ret)
 .skip))
 (.seq (.sreg abW Ck)
 (.seq (.seq (.sreg abM Cg)
 (.cond (tm 34) (.seq (.sreg abL [])
 .ret)
 .skip))
 (.seq (.sreg abK Ck)
 (.seq (.sreg abJ Cj)
 (.seq (.seq (.sreg abI Ch)
 (.cond (tm 46) (.seq (.seq (.sreg abH Ck)
 (.cond (tm 55) (.seq (.sreg aci [])
 .ret)
 .skip))
 (.seq (.seq (.sreg ach Ct)
 (.block 0 (.loop (.seq (.sreg acg [])
 (.seq (.cond (tm 60) .skip
 (.exit 0))
 (.seq (.block 1 (.seq (.sreg acf Ch)
 (.seq (.sreg ace C3)
 (.seq (.seq (.sreg acd Cg)
 (.cond (tm 71) (.seq (.sreg acb [])
 .ret)
 .skip))
 (.seq (.seq (.sreg aca Ck)
 (.cond (tm 77) (.seq (.sreg ab9 [])
 .ret)
 .skip))
 (.seq (.sreg ab8 [])
 (.seq (.seq (.sreg ab6 [])
 (.block 2 (.loop (.seq (.sreg ab5 [])
 (.seq (.cond (tm 81) .skip
 (.exit 2))
 (.seq (.block 3 (.seq (.sreg ab4 Ch)
 (.seq (.sreg ab3 Ck)
 (.cond (tm 89) (.sreg ab2 Cj)
 .skip))))
 (.sreg ab1 Cg)))))))
 (.sreg ab0 Cg))))))))
 (.sreg abZ Cg)))))))
 (.seq (.seq (.sreg abY Ci)
 (.cond (tm 100) (.sreg abX [])
 .skip))
 (.seq (.sreg abV Cz)
 .ret))))
 .skip))
 (.seq (.seq (.sreg abU Cj)
 (.cond (tm 114) (.seq (.sreg abT [])
 .ret)
 .skip))
 (.seq (.seq (.sreg abS Ch)
 (.cond (tm 117) (.sreg abR [])
 .skip))
 (.seq (.sreg abQ [true,true,false,false,false,false,false,false,false,false])
 (.seq (.seq (.sreg abP Cg)
 (.cond (tm 127) (.seq (.sreg abO Cm)
 .ret)
 .skip))
 (.seq (.sreg abN Cz)
 .ret)))))))))))),[(.tmp 6),(.tmp 7)]⟩
attribute [push_cast] ack acj ab7 abW abM abL abK abJ abI abH aci ach acg acf ace acd acb aca ab9 ab8 ab6 ab5 ab4 ab3 ab2 ab1 ab0 abZ abY abX abV abU abT abS abR abQ abP abO abN
theorem ahy:bb Tryz.prog (fun _ _=>1) 57=some ahz.raw:=by kernel_rfl
def adh:LSO:=[A3 3 0,Am 6,Ab 7 0]
def adg:LSO:=[Aa 13 1,Aj 14 56 13,Aa 8 14]
def ade:LSO:=[Aa 15 2,An 16 15,Ab 17 0]
def adc:LSO:=[Ak 18 17 16]
def adb:LSO:=[Aq 19 3 15 17,Ap 20 3 19,o1 10 (.alloc [(.int .i64 0),(.str []),(.sl [] 0 (some 0))]),Ai 3 10 20]
def ada:LSO:=[Ap 22 2 3,Aa 23 8,Ap 24 3 10,AD 25 57 22 23 24,Aa 21 25,As 26 21,Au 27 21,Aa 11 26,Aa 12 27]
def ac9:LSO:=[Aa 28 12,AF 29 28 0]
def ac8:LSO:=[Aa 30 12,Am 6,Aa 7 30]
def ac7:LSO:=[Aa 31 11,Aa 8 31]
def ac6:LSO:=[Ah 32 17 1,Aa 17 32]
def adf:LSO:=[Aa 33 8,Aa 6 33,Ab 7 0]
def ahJ:aW:=⟨34,(.seq (.sreg adh [])
 (.seq (.sreg adg Ch)
 (.seq (.seq (.sreg ade [])
 (.block 0 (.loop (.seq (.sreg adc [])
 (.seq (.cond (tm 18) .skip
 (.exit 0))
 (.seq (.block 1 (.seq (.sreg adb Ch)
 (.seq (.sreg ada C3)
 (.seq (.seq (.sreg ac9 Cg)
 (.cond (tm 29) (.seq (.sreg ac8 Cm)
 .ret)
 .skip))
 (.sreg ac7 Cg)))))
 (.sreg ac6 Cg)))))))
 (.seq (.sreg adf Cm)
 .ret)))),[(.tmp 6),(.tmp 7)]⟩
attribute [push_cast] adh adg ade adc adb ada ac9 ac8 ac7 ac6 adf
theorem ahI:bb Tryz.prog (fun _ _=>1) 18=some ahJ.raw:=by kernel_rfl
end Go.Proofs.YtkkgmgmgcgiffaaGreatDoor.Av
set_option maxRecDepth 100000
namespace Go.Proofs.YtkkgmgmgcgiffaaGreatDoor.Av
open Go
variable {L:List Blk} {K:AV→List Blk→Prop}
def act:LSO:=[Am 2]
def acs:LSO:=[Am 3]
def acr:LSO:=[Aa 6 0,An 7 6,Ab 8 0]
def acq:LSO:=[Ak 9 8 7]
def acp:LSO:=[Aq 10 2 6 8,Ap 11 2 10,B6 5,Ai 2 5 11]
def aco:List (an×Kd) :=
 [Bc 12 3,AL 13 0 5,AM 14 1 13 0 1,od 15 (.bslice false 1 0 [] []) (.read 0 0),AL 16 1 5,AM 17 1 16 0 0,od 18 (.app 0 1 16 [(.str [])] (tm 15) (tm 17)) .eff,
 od 19 (.build [(.str []),(.sl [] 0 (some 0))] [(0,(1,(tm 14))),(1,(1,(tm 18)))]) .pure,od 20 (.bslice false 2 1 [(.str []),(.sl [] 0 (some 0))] [(0,(2,(tm 19)))]) (.read 0 0)]
def acn:List an :=
 [⟨(some 21),(.app 1 2 40 [(.str []),(.sl [] 0 (some 0))] (tm 12) (tm 20)),none⟩,⟨(some 3),(.mv (tm 21)),none⟩]
def acm:LSO:=[Ah 22 8 1,Aa 8 22]
def acl:LSO:=[Aa 23 3,Aa 2 23]
def ahB:aW:=⟨24,(.seq (.sreg act [])
 (.seq (.sreg acs [])
 (.seq (.seq (.sreg acr [])
 (.block 0 (.loop (.seq (.sreg acq [])
 (.seq (.cond (tm 9) .skip
 (.exit 0))
 (.seq (.block 1 (.seq (.sreg acp Ch)
 (.dregM aco acn CB)))
 (.sreg acm Cg)))))))
 (.seq (.sreg acl Cg)
 .ret)))),[(.tmp 2)]⟩
attribute [push_cast] act acs acr acq acp aco acn acm acl
theorem ahA:bb Tryz.prog (fun r i=>if r=5∧i=6 then 0 else 1) 56=some ahB.raw:=by kernel_rfl
set_option maxHeartbeats 8000000
set_option maxRecDepth 100000
theorem Y1 {l:List Atr} {cap:Option Nat} (hl:l.length≤1100000) (hz:∀ a∈l,a.2.length≤1100000) (h:K (.sl (bn l) l.length none) L) :
   ad Tryz.prog 56 [.sl (bn l) l.length cap] L K:=by
 replace h:=hid h
 refine ae ahA (by simp [ahB]) ?_
 simp only [ahB,ar]
 refine wk ?_
 refine ch (l:=[]) (n:=0) 3 2 rfl (Nat.zero_mul 2).symm ?_
 refine am (fun m T' L'=>∃ (k:Nat) (C:List AV) (X:List Blk),m=l.length - k∧k≤l.length∧C=bn (l.take k)∧T'=[(8,.int .i64 (k:Int)),(7,.int .i64 l.length),(6,.sl (bn l) l.length cap),(3,.gsl C k L.length 2)]∧L'=L++(.spare k 2::X)) (CutS (b:=by simp)) ⟨0,[],[],rfl,Nat.zero_le _,rfl,rfl,rfl⟩ ?_
 rintro _ _ _ ⟨k,C,X,rfl,hk,hC,rfl,rfl⟩
 by_cases hlt:k<l.length
 · have g1:(k:Int)<(l.length:Int):=by omega
   have g2:IntKind.i64.wrap ((k:Int)+1)=(k:Int)+1:=ac (by omega) (by omega)
   have e3:=mw hlt
   have e4:k * 2+2≤(bn l).length:=by rw [jR];omega
   obtain ⟨⟨nm,vs⟩,ha⟩:∃ a,l.getD k ([],[])=a:=⟨_,rfl⟩
   have htk:bn (l.take (k+1))=bn (l.take k)++[.str nm,.sl (vs.map AV.str) vs.length none]:=by
     rw [List.take_succ_eq_append_getElem hlt,Qg,show l[k]=(nm,vs) by rw [← ha];simp [hlt]]
     rfl
   have hvs:=hz (nm,vs) (by rw [← ha];simp [hlt])
   simp only at hvs
   rw [ha] at e3
   simp only [atA] at e3
   have e0:AV.frzL (vs.map AV.str)=vs.map AV.str:=eN vs
   replace htk:=hid htk
   replace hC:=hid hC
   clear ha hz
   refine wk ?_
   exact ak _ _ _ (by omega) (CutL (b:=by simp)) ⟨k+1,_,_,rfl,hlt,by rw [htk.out,hC.out],rfl,rfl⟩
 · have hke:k=l.length:=by omega
   subst hke
   have g1:¬ (l.length:Int)<(l.length:Int):=by omega
   rw [List.take_length] at hC
   subst hC
   have e0:=Dl l
   refine wk ?_
   refine bE ?_
   simp only [AV.frz,e0]
   exact ab (by simp only [AV.refs,rb]) h.out
theorem agS {syn:Int} {l:List (List UInt8)} {v:List UInt8} {vs:List (List UInt8)} (h:bU syn v=none):agW syn l (v::vs)=([],21):=by rw [agW,h]
theorem agR {syn:Int} {l:List (List UInt8)} {v n:List UInt8} {vs:List (List UInt8)} (h:bU syn v=some n):agW syn l (v::vs)=if inM syn l n=false then ([],16) else agW syn (l.filter fun x=>decide (dj syn x≠n)) vs:=by rw [agW,h]
abbrev mdC (m:Mdf):List AV:=[.int .i64 m.1,.str m.2.1,.sl (m.2.2.map AV.str) m.2.2.length none]
def af0 (ms:List Mdf):List AV:=ms.flatMap mdC
theorem afY (ms:List Mdf):(af0 ms).length=ms.length * 3:=by
 induction ms with
 | nil=>rfl
 | cons a l ih=>simp only [af0,List.flatMap_cons,List.length_append,mdC,List.length_cons,List.length_nil] at ih ⊢;omega
abbrev noM:Mdf:=(0,[],[])
theorem afZ:∀ {ms:List Mdf} {k:Nat},k<ms.length→((af0 ms).drop (k * 3)).take 3=mdC (ms.getD k noM)
 | a::l,0,_=>rfl
 | a::l,k+1,h=>by
   have ih:=@afZ l k (by simpa using h)
   rw [show (k+1) * 3=k * 3+1+1+1 by omega]
   simpa [af0,mdC] using ih
theorem agT {syn:Int}:∀ {vs l:List (List UInt8)},(agW syn l vs).1.length≤l.length
 | [],l=>Nat.le_refl _
 | v::vs,l=>by
   rw [agW]
   rcases hv:bU syn v with _|n
   · simp
   · simp only
     split
     · simp
     · exact Nat.le_trans agT (List.length_filter_le _ _)
theorem afI {ts:List Typ} {l:List Atr} {m:Mdf} {B:Nat} (hB:∀ a∈l,a.2.length≤B):(afJ ts l m).1.length≤l.length+1∧∀ a∈(afJ ts l m).1,a.2.length≤B+m.2.2.length:=by
 have nil:([]:List Atr).length≤l.length+1∧∀ a∈([]:List Atr),a.2.length≤B+m.2.2.length:=⟨by simp,fun a ha=>by cases ha⟩
 have set:∀ (n:List UInt8) (us:List (List UInt8)) (d:Bool),us.length≤B+m.2.2.length→(kM n us d l).length≤l.length+1∧∀ a∈kM n us d l,a.2.length≤B+m.2.2.length:=fun n us d hu=>by
   refine ⟨?_,fun a ha=>?_⟩
   · have:=@Ot n us d l
     split at this<;>omega
   · rcases LW ha with e|e
     · rw [e];exact hu
     · have:=hB a e;omega
 have hv:∀ n,(dU l n).length≤B:=fun n=>Qu hB
 unfold afJ
 split
 · exact nil
 rcases hty:fJ ts m.2.1 with _|ty
 · exact nil
 simp only
 split
 · split
   · exact nil
   · split
     · exact nil
     · refine set _ _ _ ?_
       split
       · simp
       · have:=@agT ty.2.1 m.2.2 (dU l m.2.1)
         have:=hv m.2.1
         omega
 · split
   · exact nil
   · obtain ⟨was,hwas⟩:∃ w,(if m.1=2 then [] else dU l m.2.1)=w:=⟨_,rfl⟩
     have hwl:was.length≤B:=by
       rw [← hwas]
       split
       · simp
       · exact hv m.2.1
     rw [hwas]
     split
     · exact nil
     · rename_i hc
       simp only [ne_eq,Decidable.not_not] at hc
       have h1:=No hc
       refine set _ _ _ ?_
       omega
open Go Go.ChangeShapes Go.WideShapes Go.ChangeAt Go.RowKit
theorem afM {P:Program} {w:World} {base:Nat} {t:TypeId} {v:Value} (hg:jm P t=some false) (h:Value.okWide P w .any base t v):v.cells.toList=[v]:=by
 unfold jm at hg
 unfold Value.okWide at h
 split at hg
 · cases hg
 · cases hg
 · rename_i d h1 h2 hu
   rw [hu] at h
   split at h
   · rename_i e;cases e;exact absurd rfl (h1 _)
   · rename_i e;cases e;exact absurd rfl (h2 _ _)
   · cases v<;>try rfl
     rename_i cs
     unfold Cell.okWide at h
     split at h<;>try (rename_i e1 e2;cases e2)
     unfold Cell.ok at h
     split at h<;>first|(rename_i e1 e2;cases e2;done)|cases h
 · cases hg
open Go Go.ChangeShapes Go.WideShapes Go.ChangeAt
theorem Zd {P:Program} {t:TypeId} {ts:List TypeId} {X Y:Type} {a:X→AV} {ok:X→Prop} {ec':Y→List AV} {ok':Y→Prop} (hg:jm P t=some false) (h:RdU P t (fun y=>[a y]) ok) (r:WE P ts ec' ok') :
   WE P (t::ts) (fun y:X×Y=>a y.1::ec' y.2) (fun y=>ok y.1∧ok' y.2):=fun H enc w base vs ds ps hok hx hwt=>by
 obtain ⟨v,vs',d,ds',p,q,rfl,rfl,rfl,h1,h2⟩:=trodAll_cons hx
 obtain ⟨fuel,h1⟩:=h1
 obtain ⟨y,h3,h4⟩:=h (fuel+1) H enc w fuel _ _ (Nat.lt_succ_self _) h1 (by simp only [Rows.uptoBulkAll] at hwt;show Rows.uptoBulk d≤1048576;omega)
 obtain ⟨z,h5,h6⟩:=r H enc w base vs' ds' q (fun j t v a b=>hok (j+1) t v a b) h2 (by simp only [Rows.uptoBulkAll] at hwt;omega)
 refine ⟨(y,z),⟨h3,h5⟩,?_⟩
 rw [afM hg (hok 0 t v rfl rfl)] at h4
 simp only [VRL] at h4 ⊢
 obtain ⟨x,xs,e,h7,_⟩:=h4
 cases e
 exact ⟨v,vs',rfl,h7,h6⟩
theorem afG {ts:List Typ} {l:List Atr} {m:Mdf} (hts:O4 ts) (h:∀ a∈l,bf a.1):∀ a∈(afJ ts l m).1,bf a.1:=by
 have set:∀ (n:List UInt8) (us:List (List UInt8)) (d:Bool),bf n→∀ a∈kM n us d l,bf a.1:=fun n us d hn a ha=>by
   rcases LW ha with e|e
   · rw [e];exact hn
   · exact h a e
 have nil:∀ a∈([]:List Atr),bf a.1:=fun a ha=>by cases ha
 unfold afJ
 split
 · exact nil
 rcases hty:fJ ts m.2.1 with _|ty
 · exact nil
 have htr:=hts.2.1 ty (Dw hty).1
 simp only
 split
 · split
   · exact nil
   · split
     · exact nil
     · exact set _ _ _ htr
 · split
   · exact nil
   · obtain ⟨was,hwas⟩:∃ w,(if m.1=2 then [] else dU l m.2.1)=w:=⟨_,rfl⟩
     rw [hwas]
     split
     · exact nil
     · exact set _ _ _ htr
theorem Y5 {ts:List Typ} {capT:Option Nat} {c2:List AV} {n2:Nat} {cap2:Option Nat} {l:List Atr} {m:Mdf} {cap:Option Nat} (hts:O4 ts) (hl:l.length≤1100000) (hz:∀ a∈l,bf a.1∧a.2.length+m.2.2.length≤1100000) (hvs:m.2.2.length≤1100000) (hn:bf m.2.1)
   {R:List Atr×Int} (hR:afJ ts l m=R) {L:List Blk} {K:AV→List Blk→Prop} (h:K (.tup [.sl (bn R.1) R.1.length none,.int .i64 R.2]) L) :
   ad Tryz.prog 57 [.agg [.sl (bc ts) ts.length capT,.sl c2 n2 cap2],.sl (bn l) l.length cap,.agg (mdC m)] L K:=by
 obtain ⟨o,n,vs⟩:=m
 simp only at hz hvs hn
 simp only [mdC]
 obtain ⟨sC,hsC⟩:∃ s,AV.sl c2 n2 cap2=s:=⟨_,rfl⟩
 rw [hsC]
 clear hsC
 replace h:=hid h
 replace hz:=hid hz
 refine ae ahy (by simp [ahz]) ?_
 simp only [ahz,ar]
 unfold afJ at hR
 by_cases ho:o<0∨2<o
 · have gg:(decide (o<0) || decide (2<o))=true:=by
     rcases ho with e|e
     · rw [decide_eq_true e,Bool.true_or]
     · rw [decide_eq_true e,Bool.or_true]
   rw [if_pos ho] at hR
   have h':=h.out
   rw [← hR] at h'
   replace h':=hid h'
   clear h hR ho
   refine wk ?_
   exact bE (ab rfl h'.out)
 have gg:(decide (o<0) || decide (2<o))=false:=by
   rw [decide_eq_false (fun e=>ho (.inl e)),decide_eq_false (fun e=>ho (.inr e))];rfl
 rw [if_neg ho] at hR
 simp only at hR
 replace hR:=hid hR
 refine wk ?_
 refine Yz hts.1 hts.2.1 hn (fun hty=>?_) (fun t ht hty=>?_)
 · have hR2:=hR.out
   rw [hty] at hR2
   simp only at hR2
   have h':=h.out
   rw [← hR2] at h'
   replace h':=hid h'
   clear hR hR2 hty h
   refine sk ?_
   refine wk ?_
   exact bE (ab rfl h'.out)
 have hR2:=hR.out
 rw [hty] at hR2
 simp only at hR2
 have e5:=kz ht
 have e6:t * 4+4≤(bc ts).length:=by rw [jw];omega
 have g3:¬ (t:Int)<0:=by omega
 have g4:(t:Int)<(ts.length:Int):=by omega
 have htn:=Dw hty
 obtain ⟨ty,hte⟩:∃ ty,ts.getD t iy=ty:=⟨_,rfl⟩
 rw [hte] at e5 htn hR2
 simp only [tyC] at e5
 have htr:=hts.2.1 ty htn.1
 obtain ⟨V,hV⟩:∃ V,dU l n=V:=⟨_,rfl⟩
 have hVl:V.length+vs.length≤1100000:=by
   by_cases hl0:l=[]
   · rw [← hV,hl0];simp [dU];omega
   · have:=Qu (l:=l) (n:=n) (m:=1100000 - vs.length) fun a ha=>by have:=(hz.out a ha).2;omega
     rw [hV] at this;omega
 rw [hV] at hR2
 have kk1:Hid (Ctr Tryz.prog 53 [.sl (bn l) l.length cap,.str n] (.sl (V.map AV.str) V.length none)):=hid fun q=>Sj hl (fun a ha=>⟨(hz.out a ha).1,by have:=(hz.out a ha).2;omega⟩) hn (by rw [hV];exact q)
 have hset:∀ us:List (List UInt8),∀ cu:Option Nat,∀ {L:List Blk} {K:AV→List Blk→Prop},K (.sl (bn (kM ty.1 us us.isEmpty l)) (kM ty.1 us us.isEmpty l).length none) L→ad Tryz.prog 75 [.sl (bn l) l.length cap,.str ty.1,.sl (us.map AV.str) us.length cu] L K:=fun us cu {L K} q=>W5 hl (fun a ha=>⟨(hz.out a ha).1,by have:=(hz.out a ha).2;omega⟩) htr q
 replace hset:=@hid _ @hset
 replace hts:=hid hts
 clear hR hV hty htn hte
 by_cases h1:o=1
 · subst h1
   rw [if_pos rfl] at hR2
   by_cases hne:vs=[]∧V=[]
   · rw [if_pos hne] at hR2
     obtain ⟨rfl,rfl⟩:=hne
     have h':=h.out
     rw [← hR2] at h'
     replace h':=hid h'
     clear hR2 h
     refine sk ?_
     refine wk ?_
     exact bE (ab rfl h'.out)
   rw [if_neg hne] at hR2
   have gv:(decide ((vs.length:Int)=0) && decide ((V.length:Int)=0))=false:=by
     rw [Bool.and_eq_false_iff]
     by_cases e:vs=[]
     · right
       have:V≠[]:=fun e2=>hne ⟨e,e2⟩
       rw [decide_eq_false_iff_not]
       intro e3
       exact this (List.length_eq_zero_iff.1 (by omega))
     · left
       rw [decide_eq_false_iff_not]
       intro e3
       exact e (List.length_eq_zero_iff.1 (by omega))
   obtain ⟨D,hD⟩:∃ D,agW ty.2.1 V vs=D:=⟨_,rfl⟩
   rw [hD] at hR2
   replace hD:=hid hD
   replace hR2:=hid hR2
   clear hne
   refine sk ?_
   refine wk ?_
   obtain ⟨mC,hmC⟩:∃ b,Blk.cells [.int .i64 1,.str n,.sl (vs.map AV.str) vs.length none]=b:=⟨_,rfl⟩
   obtain ⟨tC,htC⟩:∃ b,Blk.cells [.str ty.1,.int .i64 ty.2.1,.bool ty.2.2.1,.bool ty.2.2.2]=b:=⟨_,rfl⟩
   obtain ⟨sB,hsB⟩:∃ b,Blk.cells [.sl (bc ts) ts.length capT,sC]=b:=⟨_,rfl⟩
   refine am (fun m T' L'=>∃ (i:Nat) (u:List (List UInt8)) (cu:Option Nat) (X:List Blk),m=vs.length - i∧i≤vs.length∧u.length≤V.length∧Hid (agW ty.2.1 u (vs.drop i)=D)∧T'=[(59,.int .i64 (i:Int)),(58,.int .i64 vs.length),(57,.sl (vs.map AV.str) vs.length none),(10,.sl (u.map AV.str) u.length cu),(9,.ptr (L.length+2) 0),(5,.ptr (L.length+1) 0),(1,.sl (bn l) l.length cap)]∧L'=L++(sB::mC::tC::X)) (CutS (b:=by simp)) ⟨0,V,none,[],rfl,Nat.zero_le _,Nat.le_refl _,hid (by simpa using hD.out),rfl,by rw [← hmC,← htC,← hsB]⟩ ?_
   rintro _ _ _ ⟨i,u,cu,X,rfl,hi,hul,hI,rfl,rfl⟩
   subst hmC htC hsB
   by_cases hlt:i<vs.length
   rotate_left
   · have hke:i=vs.length:=by omega
     subst hke
     have q1:¬ (vs.length:Int)<(vs.length:Int):=by omega
     have hI2:=hI.out
     rw [List.drop_length,agW] at hI2
     have hR3:=hR2.out
     rw [← hI2,if_neg (by simp)] at hR3
     simp only at hR3
     by_cases hvn:vs=[]
     · rw [if_pos hvn,if_pos hvn] at hR3
       have h':=h.out
       rw [← hR3] at h'
       replace h':=hid h'
       have kk1:=@hid _ (fun L K=>hset.out [] (some 0) (L:=L) (K:=K))
       simp only [List.map_nil,List.length_nil,List.isEmpty_nil] at kk1
       subst hvn
       clear h hset hR2 hR3 hI hI2 hD
       refine wk ?_
       refine bE (ab ?_ ?_)
       · simp only [AV.frz,AV.frzL,Dl,AV.refs,AV.refsL,rb];rfl
       · simp only [AV.frz,AV.frzL,Dl];exact h'.out
     · rw [if_neg hvn,if_neg hvn] at hR3
       have q2:¬ (vs.length:Int)=0:=fun e=>hvn (List.length_eq_zero_iff.1 (by omega))
       have h':=h.out
       rw [← hR3] at h'
       replace h':=hid h'
       have kk1:=@hid _ (fun L K=>hset.out u cu (L:=L) (K:=K))
       clear h hset hR2 hR3 hI hI2 hD hvn
       refine wk ?_
       refine bE (ab ?_ ?_)
       · simp only [AV.frz,AV.frzL,Dl,AV.refs,AV.refsL,rb];rfl
       · simp only [AV.frz,AV.frzL,Dl];exact h'.out
   have q1:(i:Int)<(vs.length:Int):=by omega
   have q2:IntKind.i64.wrap ((i:Int)+1)=(i:Int)+1:=ac (by omega) (by omega)
   obtain ⟨v,hv⟩:∃ v,vs.getD i []=v:=⟨_,rfl⟩
   have q3:(vs.map AV.str).getD i .undef=.str v:=by rw [← hv];simp [hlt]
   have hdr:vs.drop i=v::vs.drop (i+1):=by rw [List.drop_eq_getElem_cons hlt,← hv];simp [hlt]
   have hI2:=hI.out
   rw [hdr] at hI2
   have hu1:u.length≤1100000:=by omega
   clear hv hdr hI hD
   refine wk ?_
   refine Kr ?_
   rcases hn:bU ty.2.1 v with _|nv
   · rw [agS hn] at hI2
     have hR3:=hR2.out
     rw [← hI2,if_pos (by simp)] at hR3
     have h':=h.out
     rw [← hR3] at h'
     replace h':=hid h'
     simp only [fD]
     clear hI2 hn hR2 hR3 h
     refine sk ?_
     refine wk ?_
     exact bE (ab rfl h'.out)
   rw [agR hn] at hI2
   simp only [fD]
   rcases hb:inM ty.2.1 u nv with _|_
   · rw [if_pos hb] at hI2
     have hR3:=hR2.out
     rw [← hI2,if_pos (by simp)] at hR3
     have h':=h.out
     rw [← hR3] at h'
     replace h':=hid h'
     clear hI2 hn hR2 hR3 h
     refine sk ?_
     have kk1:=@hid _ (fun L K=>X9 (syn:=ty.2.1) (n:=nv) (cap:=cu) hu1 (L:=L) (K:=K))
     refine wk ?_
     exact bE (ab rfl h'.out)
   rw [if_neg (by rw [hb];simp)] at hI2
   replace hI2:=hid hI2
   clear hn
   refine sk ?_
   have kk1:=@hid _ (fun L K=>X9 (syn:=ty.2.1) (n:=nv) (cap:=cu) hu1 (L:=L) (K:=K))
   refine wk ?_
   clear kk1 hb
   obtain ⟨F,hF⟩:∃ F,u.filter (fun x=>decide (dj ty.2.1 x≠nv))=F:=⟨_,rfl⟩
   rw [hF] at hI2
   have hFl:F.length≤u.length:=by rw [← hF];exact List.length_filter_le _ _
   replace hF:=hid hF
   refine ch (l:=[]) (n:=0) 15 1 rfl (Nat.zero_mul 1).symm ?_
   refine am (fun m T' L'=>∃ (j:Nat) (C:List AV) (z:Nat),m=u.length - j∧j≤u.length∧z≤j∧Hid (C=((u.take j).filter (fun x=>decide (dj ty.2.1 x≠nv))).map AV.str∧z=((u.take j).filter (fun x=>decide (dj ty.2.1 x≠nv))).length)∧T'=[(80,.int .i64 (j:Int)),(79,.int .i64 u.length),(78,.sl (u.map AV.str) u.length cu),(15,.gsl C z (L.length+(X.length+3)) 1),(13,.str nv),(59,.int .i64 (i:Int)),(58,.int .i64 vs.length),(57,.sl (vs.map AV.str) vs.length none),(9,.ptr (L.length+2) 0),(5,.ptr (L.length+1) 0),(1,.sl (bn l) l.length cap)]∧L'=L++(Blk.cells [.sl (bc ts) ts.length capT,sC]::Blk.cells [.int .i64 1,.str n,.sl (vs.map AV.str) vs.length none]::Blk.cells [.str ty.1,.int .i64 ty.2.1,.bool ty.2.2.1,.bool ty.2.2.2]::(X++[.spare z 1]))) (Qt (by repeat' first|exact Qn|refine DF rfl rfl ?_|refine Nq rfl rfl ?_|refine DF rfl (by simp) ?_) (by simp)) ⟨0,[],0,rfl,Nat.zero_le _,Nat.le_refl _,hid ⟨rfl,rfl⟩,rfl,by simp⟩ ?_
   rintro _ _ _ ⟨j,C,z,rfl,hj,hz1,hC,rfl,rfl⟩
   by_cases hjl:j<u.length
   rotate_left
   · have hke:j=u.length:=by omega
     subst hke
     have j1:¬ (u.length:Int)<(u.length:Int):=by omega
     have hC2:=hC.out
     rw [List.take_length,hF.out] at hC2
     clear hC
     refine wk ?_
     obtain ⟨rfl,rfl⟩:=hC2
     exact ak _ _ _ (by omega) (Qt (by repeat' first|exact Qn|refine DF rfl rfl ?_|refine Nq rfl (by simp only [AV.frz,eN]) ?_|refine DF rfl (congrArg (AV.int _) (by omega)) ?_) (by simp)) ⟨i+1,F,none,_,rfl,hlt,by omega,hI2,rfl,rfl⟩
   have j1:(j:Int)<(u.length:Int):=by omega
   have j2:IntKind.i64.wrap ((j:Int)+1)=(j:Int)+1:=ac (by omega) (by omega)
   obtain ⟨x,hx⟩:∃ x,u.getD j []=x:=⟨_,rfl⟩
   have j3:(u.map AV.str).getD j .undef=.str x:=by rw [← hx];simp [hjl]
   have htk:u.take (j+1)=u.take j++[x]:=by rw [List.take_succ_eq_append_getElem hjl,← hx];simp [hjl]
   clear hx
   have kk1:=@hid _ (fun L K=>GY (syn:=ty.2.1) (v:=x) (L:=L) (K:=K))
   by_cases he:dj ty.2.1 x=nv
   · have hC2:C=((u.take (j+1)).filter (fun x=>decide (dj ty.2.1 x≠nv))).map AV.str∧z=((u.take (j+1)).filter (fun x=>decide (dj ty.2.1 x≠nv))).length:=by
       rw [htk,List.filter_append,List.filter_cons_of_neg (by simpa using he),List.filter_nil,List.append_nil]
       exact hC.out
     replace hC2:=hid hC2
     clear hC htk
     refine wk ?_
     exact ak _ _ _ (by omega) (CutL (b:=by simp)) ⟨j+1,C,z,rfl,hjl,by omega,hC2,rfl,rfl⟩
   · have hC2:C++[.str x]=((u.take (j+1)).filter (fun x=>decide (dj ty.2.1 x≠nv))).map AV.str∧z+1=((u.take (j+1)).filter (fun x=>decide (dj ty.2.1 x≠nv))).length:=by
       rw [htk,List.filter_append,List.filter_cons_of_pos (by simpa using he),List.filter_nil]
       obtain ⟨e1,e2⟩:=hC.out
       exact ⟨by rw [e1];simp,by rw [e2];simp⟩
     replace hC2:=hid hC2
     clear hC htk
     refine wk ?_
     exact ak _ _ _ (by omega) (CutL (b:=by simp)) ⟨j+1,C++[.str x],z+1,rfl,hjl,by omega,hC2,rfl,rfl⟩
 rw [if_neg h1] at hR2
 by_cases h0:o=0
 · subst h0
   by_cases hv:vs=[]
   · rw [if_pos ⟨rfl,hv⟩] at hR2
     subst hv
     have h':=h.out
     rw [← hR2] at h'
     replace h':=hid h'
     clear hR2 h h1 ho
     refine sk ?_
     refine wk ?_
     exact bE (ab rfl h'.out)
   rw [if_neg (fun e=>hv e.2),if_neg (show ¬ ((0:Int)=2) by decide)] at hR2
   have g5:¬ (vs.length:Int)=0:=fun e=>hv (List.length_eq_zero_iff.1 (by omega))
   obtain ⟨A,hA⟩:∃ A,dx ty.2.1 ty.2.2.1 V vs=A:=⟨_,rfl⟩
   rw [hA] at hR2
   have kk2:Hid (Ctr Tryz.prog 74 [.agg [.str ty.1,.int .i64 ty.2.1,.bool ty.2.2.1,.bool ty.2.2.2],.sl (V.map AV.str) V.length none,.sl (vs.map AV.str) vs.length none] (.tup [.sl (A.1.map AV.str) A.1.length none,.int .i64 A.2])):=hid fun q=>Xb (ty:=ty) (by omega) hA q
   have kk3:=@hid _ (fun L K=>hset.out A.1 none (L:=L) (K:=K))
   clear hset hA hv h1 ho
   by_cases hc0:A.2=0
   · rw [if_neg (by rw [hc0];simp)] at hR2
     have h':=h.out
     rw [← hR2] at h'
     replace h':=hid h'
     clear hR2 h
     refine sk ?_
     refine wk ?_
     refine bE (ab ?_ ?_)
     · simp only [AV.frz,AV.frzL,Dl,AV.refs,AV.refsL,rb];rfl
     · simp only [AV.frz,AV.frzL,Dl];exact h'.out
   · rw [if_pos hc0] at hR2
     have h':=h.out
     rw [← hR2] at h'
     replace h':=hid h'
     clear hR2 h
     refine sk ?_
     refine wk ?_
     exact bE (ab rfl h'.out)
 have h2:o=2:=by omega
 subst h2
 rw [if_neg (fun e=>by cases e.1),if_pos rfl] at hR2
 obtain ⟨A,hA⟩:∃ A,dx ty.2.1 ty.2.2.1 [] vs=A:=⟨_,rfl⟩
 rw [hA] at hR2
 have kk2:Hid (Ctr Tryz.prog 74 [.agg [.str ty.1,.int .i64 ty.2.1,.bool ty.2.2.1,.bool ty.2.2.2],.sl [] 0 (some 0),.sl (vs.map AV.str) vs.length none] (.tup [.sl (A.1.map AV.str) A.1.length none,.int .i64 A.2])):=hid fun q=>Xb (ty:=ty) (l:=[]) (by simp;omega) hA q
 have kk3:=@hid _ (fun L K=>hset.out A.1 none (L:=L) (K:=K))
 clear hset hA h1 ho h0
 by_cases hc0:A.2=0
 · rw [if_neg (by rw [hc0];simp)] at hR2
   have h':=h.out
   rw [← hR2] at h'
   replace h':=hid h'
   clear hR2 h
   refine sk ?_
   refine wk ?_
   refine bE (ab ?_ ?_)
   · simp only [AV.frz,AV.frzL,Dl,AV.refs,AV.refsL,rb];rfl
   · simp only [AV.frz,AV.frzL,Dl];exact h'.out
 · rw [if_pos hc0] at hR2
   have h':=h.out
   rw [← hR2] at h'
   replace h':=hid h'
   clear hR2 h
   refine sk ?_
   refine wk ?_
   exact bE (ab rfl h'.out)
theorem Zp {ts:List Typ} {capT:Option Nat} {c2:List AV} {n2:Nat} {cap2:Option Nat} {l:List Atr} {ms:List Mdf} {cap capM:Option Nat} (hts:O4 ts) (hl:l.length≤100000) (hv:∀ a∈l,bf a.1∧a.2.length≤100000) (hm:ms.length≤100) (hmv:∀ m∈ms,bf m.2.1∧m.2.2.length≤1000)
   {R:List Atr×Int} (hR:aib ts l ms=R) {L:List Blk} {K:AV→List Blk→Prop} (h:K (.tup [.sl (bn R.1) R.1.length none,.int .i64 R.2]) L) :
   ad Tryz.prog 18 [.agg [.sl (bc ts) ts.length capT,.sl c2 n2 cap2],.sl (bn l) l.length cap,.sl (af0 ms) ms.length capM] L K:=by
 replace h:=hid h
 replace hR:=hid hR
 replace hmv:=hid hmv
 refine ae ahI (by simp [ahJ]) ?_
 simp only [ahJ,ar]
 obtain ⟨sC,hsC⟩:∃ s,AV.sl c2 n2 cap2=s:=⟨_,rfl⟩
 rw [hsC]
 have kk1:Hid (Ctr Tryz.prog 56 [.sl (bn l) l.length cap] (.sl (bn l) l.length none)):=hid fun q=>Y1 (by omega) (fun a ha=>by have:=(hv a ha).2;omega) q
 refine wk ?_
 clear kk1
 refine am (fun n T' L'=>∃ (i:Nat) (out:List Atr) (X:List Blk),n=ms.length - i∧i≤ms.length∧out.length≤l.length+i∧Hid (aib ts out (ms.drop i)=R)∧Hid (∀ a∈out,bf a.1∧a.2.length≤100000+1000 * i)∧T'=[(17,.int .i64 (i:Int)),(16,.int .i64 ms.length),(15,.sl (af0 ms) ms.length capM),(8,.sl (bn out) out.length none),(3,.ptr L.length 0)]∧L'=L++(.cells [.sl (bc ts) ts.length capT,sC]::X)) (CutS (b:=by simp)) ⟨0,l,[],rfl,Nat.zero_le _,by omega,hid (by simpa using hR.out),hid (by simpa using hv),rfl,by simp⟩ ?_
 clear hv
 rintro _ _ _ ⟨i,out,X,rfl,hi,hol,hI,ho,rfl,rfl⟩
 by_cases hlt:i<ms.length
 · have g1:(i:Int)<(ms.length:Int):=by omega
   have g2:IntKind.i64.wrap ((i:Int)+1)=(i:Int)+1:=ac (by omega) (by omega)
   have e3:=afZ hlt
   have e4:i * 3+3≤(af0 ms).length:=by rw [afY];omega
   obtain ⟨m,ha⟩:∃ a,ms.getD i noM=a:=⟨_,rfl⟩
   have hdr:ms.drop i=m::ms.drop (i+1):=by rw [List.drop_eq_getElem_cons hlt,← ha];simp [hlt]
   obtain ⟨hnm,hvs⟩:=hmv.out m (by rw [← ha];simp [hlt])
   rw [ha] at e3
   simp only [mdC] at e3
   have hI2:=hI.out
   rw [hdr,aib] at hI2
   obtain ⟨A,hA⟩:∃ A,afJ ts out m=A:=⟨_,rfl⟩
   have hbd:=afI (ts:=ts) (l:=out) (m:=m) (B:=100000+1000 * i) (fun a ha=>(ho.out a ha).2)
   have hnr:∀ a∈A.1,bf a.1:=fun a ha=>by
     rw [← hA] at ha
     exact afG hts (fun b hb=>(ho.out b hb).1) a ha
   rw [hA] at hI2 hbd
   have kk1:Hid (Ctr Tryz.prog 57 [.agg [.sl (bc ts) ts.length capT,sC],.sl (bn out) out.length none,.agg [.int .i64 m.1,.str m.2.1,.sl (m.2.2.map AV.str) m.2.2.length none]] (.tup [.sl (bn A.1) A.1.length none,.int .i64 A.2])):=hid fun q=>by
     rw [← hsC]
     exact Y5 hts (by omega) (fun a ha=>⟨(ho.out a ha).1,by have:=(ho.out a ha).2;omega⟩) (by omega) hnm hA q
   obtain ⟨A1,A2⟩:=A
   simp only at hI2 kk1 hbd hnr
   replace hbd:=hid hbd
   replace hnr:=hid hnr
   clear hI hdr ha hA
   by_cases hc0:A2=0
   · subst hc0
     rw [if_neg (by simp)] at hI2
     replace hI2:=hid hI2
     have hol':A1.length≤l.length+(i+1):=by have:=hbd.out.1;omega
     have ho':∀ a∈A1,bf a.1∧a.2.length≤100000+1000 * (i+1):=fun a ha=>⟨hnr.out a ha,by have:=hbd.out.2 a ha;omega⟩
     replace ho':=hid ho'
     refine wk ?_
     exact ak _ _ _ (by omega) (CutL (b:=by simp)) ⟨i+1,A1,_,rfl,hlt,hol',hI2,ho',rfl,rfl⟩
   · rw [if_pos hc0] at hI2
     have h':=h.out
     rw [← hI2] at h'
     replace h':=hid h'
     clear hI2
     refine wk ?_
     exact bE (ab rfl h'.out)
 · have hke:i=ms.length:=by omega
   subst hke
   have g1:¬ (ms.length:Int)<(ms.length:Int):=by omega
   have hI2:=hI.out
   rw [List.drop_length,aib] at hI2
   have h':=h.out
   rw [← hI2] at h'
   replace h':=hid h'
   clear hI hI2 hR
   have e0:=Dl out
   refine wk ?_
   refine bE ?_
   simp only [AV.frz,AV.frzL,e0]
   exact ab (by simp only [AV.refs,AV.refsL,rb];rfl) h'.out
def ain (ms:List Mdf):Prop:=ms.length≤2000000∧∀ m∈ms,bf m.2.1∧m.2.2.length≤2000000
theorem Zj:RdU Tryz.prog 46 mdC (fun m=>bf m.2.1∧m.2.2.length≤1048576) :=
 (ji Tryz.underlying46 (N:=3) (by kernel_rfl) (ce (sz:=1) rfl (by kernel_rfl) (Rd.u (Oy Tryz.underlying3)) (ce (sz:=1) rfl (by kernel_rfl) (lD Tryz.underlying9) (ce (sz:=1) rfl (by kernel_rfl) Ox (kO rfl))))).map
   fun y hy=>⟨(y.1,y.2.1,y.2.2.1),⟨rch hy.2.1,hy.2.2.1.1⟩,rfl⟩
theorem Zi:RdU Tryz.prog 43 (fun l=>[.sl (af0 l) l.length none]) ain :=
 (mX Tryz.underlying43 Zj (by kernel_rfl)).map fun l hl=>⟨l,⟨by have:=hl.1;omega,fun a ha=>⟨(hl.2 a ha).1,by have:=(hl.2 a ha).2;omega⟩⟩,rfl⟩
end Go.Proofs.YtkkgmgmgcgiffaaGreatDoor.Av
set_option maxRecDepth 100000
namespace Go.Proofs.YtkkgmgmgcgiffaaGreatDoor.Av
open Go
variable {L:List Blk} {K:AV→List Blk→Prop}
def adJ:LSO:=[A3 1 0,Af 2]
def adI:LSO:=[Ac 6 0 1,Ad 7 1 6,Al 8 7 2,Aa 3 8]
def adH:LSO:=[Ac 9 4 1,Ad 10 1 9,An 11 10,Ab 12 0]
def adG:LSO:=[Ak 13 12 11]
def adF:LSO:=[Aq 14 5 10 12,Ap 15 5 14,AT 5,Ai 5 5 15]
def adE:LSO:=[Aa 16 3,Aa 17 16,.grp none 17 false
 [og 18 17 false (.load true 5 (tm 5)),AI 19 17 17 18]
 20 (tm 19),Aa 3 20]
def adD:LSO:=[Ah 21 12 1,Aa 12 21]
def adC:LSO:=[Aa 22 3,Aa 2 22]
def ahR:aW:=⟨23,(.seq (.sreg adJ [])
 (.seq (.sreg adI Ci)
 (.seq (.seq (.sreg adH Ct)
 (.block 0 (.loop (.seq (.sreg adG [])
 (.seq (.cond (tm 13) .skip
 (.exit 0))
 (.seq (.block 1 (.seq (.sreg adF Ch)
 (.sreg adE Ci)))
 (.sreg adD Cg)))))))
 (.seq (.sreg adC Cg)
 .ret)))),[(.tmp 2)]⟩
attribute [push_cast] adJ adI adH adG adF adE adD adC
theorem ahQ:bb Tryz.prog (fun _ _=>1) 17=some ahR.raw:=by kernel_rfl
def ad4:LSO:=[A3 3 0,A3 4 1,Af 6]
def ad3:LSO:=[Ap 15 2 3,Ap 16 6 4,Aw 17 9 15 16,Aa 14 17,As 18 14,Au 19 14,Aa 7 18,Aa 8 19]
def adW:LSO:=[Aa 20 8,Ay 21 20,Aa 22 21,.grp none 22 false
 [Ag 23 22 2,Bm 24 22 23,A5 25 22 24 10]
 26 (tm 25),Aa 27 26,.grp none 27 false
 [AA 28 27 1 4,og 29 27 false (.load true 5 (tm 28)),AI 30 27 17 29]
 31 (tm 30)]
def adV:LSO:=[o1 32 (.call 10 []),Aa 6 32]
def adU:LSO:=[Am 9]
def adT:LSO:=[Aa 33 2,An 34 33,Ab 35 0]
def adS:LSO:=[Ak 36 35 34]
def adR:LSO:=[Aq 37 3 33 35,Ap 38 3 37,o1 11 (.alloc [(.int .i64 0),(.str []),(.sl [] 0 (some 0))]),Ai 3 11 38]
def adQ:LSO:=[Ac 39 2 11,Ad 40 1 39,An 41 40,A0 42 41 10]
def adP:LSO:=[o1 43 (.call 10 []),Aa 6 43]
def ad2:LSO:=[Aa 44 9,Ac 45 1 11,Ad 46 1 45,Ac 47 2 11,Ad 48 1 47,
 o1 49 (.build [(.int .i64 0),(.str []),(.sl [] 0 (some 0))] [(0,(1,(iv 0))),(1,(1,(tm 46))),(2,(1,(tm 48)))]),
 o1 50 (.bslice false 3 1 [(.int .i64 0),(.str []),(.sl [] 0 (some 0))] [(0,(3,(tm 49)))]),o1 51 (.app 1 3 48 [(.int .i64 0),(.str []),(.sl [] 0 (some 0))] (tm 44) (tm 50)),
 Aa 9 51]
def ad1:LSO:=[Ah 52 35 1,Aa 35 52]
def ad0:LSO:=[Ap 54 2 3,Aa 55 7,Aa 56 9,AD 57 18 54 55 56,Aa 53 57,As 58 53,Au 59 53,Aa 12 58,Aa 13 59]
def adZ:LSO:=[Aa 60 13,AF 61 60 0]
def adY:LSO:=[o1 62 (.call 10 []),Aa 6 62]
def adX:LSO:=[o1 63 (.call 10 []),Aa 64 63,.grp none 64 true
 [A6 65 64 2 3,A7 66 64 1 4,A6 67 64 5 66,Ae 68 64 7,og 69 64 true (.call 11 [(tm 65),(tm 67),(tm 68)]),Bl 70 64 69 1,Ae 71 64 70,.grp (some (64,true)) 71 false
 [og 72 71 false (.load true 2 (tm 3)),AA 73 71 1 4,og 74 71 false (.load true 5 (tm 73)),Ag 75 71 12,og 76 71 false (.call 11 [(tm 72),(tm 74),(tm 75)]),AC 77 71 76 1]
 78 (tm 77)]
 79 (tm 78),Aa 6 79]
def ahV:aW:=⟨80,(.seq (.sreg ad4 [])
 (.seq (.sreg ad3 Cs)
 (.seq (.seq (.sreg adW Ck)
 (.cond (tm 31) (.seq (.sreg adV Cg)
 .ret)
 .skip))
 (.seq (.sreg adU [])
 (.seq (.seq (.sreg adT [])
 (.block 0 (.loop (.seq (.sreg adS [])
 (.seq (.cond (tm 36) .skip
 (.exit 0))
 (.seq (.block 1 (.seq (.sreg adR Ch)
 (.seq (.seq (.sreg adQ Ci)
 (.cond (tm 42) (.seq (.sreg adP Cg)
 .ret)
 .skip))
 (.sreg ad2 C0))))
 (.sreg ad1 Cg)))))))
 (.seq (.sreg ad0 C3)
 (.seq (.seq (.sreg adZ Cg)
 (.cond (tm 61) (.seq (.sreg adY Cg)
 .ret)
 .skip))
 (.seq (.sreg adX Ci)
 .ret)))))))),[(.tmp 6)]⟩
attribute [push_cast] ad4 ad3 adW adV adU adT adS adR adQ adP ad2 ad1 ad0 adZ adY adX
theorem ahU:bb Tryz.prog (fun _ _=>1) 5=some ahV.raw:=by kernel_rfl
set_option maxHeartbeats 8000000
set_option maxRecDepth 100000
mutual
def ai1:Flt→Bool
 | .mk k _ _ _ ks=>decide (k=2) || ai8 ks
def ai8:List Flt→Bool
 | []=>false
 | f::r=>ai1 f || ai8 r
end
theorem ajg:∀ {l:List Flt},ai8 l=false→∀ x∈l,ai1 x=false
 | [],_,x,hx=>by cases hx
 | f::r,h,x,hx=>by
   simp only [ai8,Bool.or_eq_false_iff] at h
   rcases List.mem_cons.1 hx with rfl|e
   · exact h.1
   · exact ajg h.2 x e
theorem ajl:∀ (l:List Int) (o:Int),Nm o l=1↔o=1∧∀ x∈l,x=1
 | [],o=>by simp [Nm]
 | x::r,o=>by
   rw [Nm]
   by_cases h0:x=0
   · subst h0;simp
   · rw [if_neg h0]
     by_cases h1:x=1
     · subst h1;rw [if_pos rfl,ajl r o];simp
     · rw [if_neg h1,ajl r 2];simp [h1]
theorem ajc:∀ (l:List Int) (o:Int),o≠0→(Nm o l=0↔∃ x∈l,x=0)
 | [],o,h=>by simp [Nm,h]
 | x::r,o,h=>by
   rw [Nm]
   by_cases h0:x=0
   · subst h0;simp
   · rw [if_neg h0]
     by_cases h1:x=1
     · subst h1;rw [if_pos rfl,ajc r o h];simp
     · rw [if_neg h1,ajc r 2 (by decide)];simp [show ¬ (0:Int)=x from fun e=>h0 e.symm]
theorem ajy (v:Int):il v=0↔v=1:=by
 unfold il
 by_cases h:v=0
 · subst h;simp
 · rw [if_neg h]
   by_cases h1:v=1
   · simp [h1]
   · simp [h1]
theorem ajE (v:Int):il v=1↔v=0:=by
 unfold il
 by_cases h:v=0
 · subst h;simp
 · rw [if_neg h]
   by_cases h1:v=1
   · simp [h1]
   · simp [h1,h]
theorem ajH (l:List Int):orV l=1↔∃ x∈l,x=1:=by
 unfold orV rQ
 rw [ajE,ajc _ _ (by decide)]
 constructor
 · rintro ⟨x,hx,e⟩
   obtain ⟨y,hy,rfl⟩:=List.mem_map.1 hx
   exact ⟨y,hy,(ajy y).1 e⟩
 · rintro ⟨x,hx,e⟩
   exact ⟨il x,List.mem_map.2 ⟨x,hx,rfl⟩,(ajy x).2 e⟩
theorem ajt {b:Bool}:tf1 b=1↔b=true:=by cases b<;>simp [tf1]
theorem ajw {α:Type} {l r:List α} {p:α→Bool} (h:∀ x∈l,x∈r) (ha:l.any p=true):r.any p=true:=by
 obtain ⟨x,hx,e⟩:=List.any_eq_true.1 ha
 exact List.any_eq_true.2 ⟨x,h x hx,e⟩
theorem ajC {ts:List Typ} {l r:List Atr} (hs:∀ n x,x∈dU l n→x∈dU r n) {k:Int} {a v:List UInt8} {ps:List Pc} (h:Uo ts l k a v ps=1):Uo ts r k a v ps=1:=by
 unfold Uo at h ⊢
 rcases hty:fJ ts a with _|ty
 · rw [hty] at h;cases h
 · rw [hty] at h
   simp only at h ⊢
   split at h
   · cases h
   · rename_i h8
     rw [if_neg h8]
     unfold Us at h ⊢
     split at h
     · rename_i hk
       rw [if_pos hk]
       rw [ajt] at h ⊢
       rcases hv:dU l a with _|⟨x,t⟩
       · rw [hv] at h;simp at h
       · have:=hs a x (by rw [hv];simp)
         rcases hw:dU r a with _|⟨y,u⟩
         · rw [hw] at this;cases this
         · rfl
     · rename_i hk
       rw [if_neg hk]
       split at h
       · rename_i hk2
         rw [if_pos hk2]
         split at h
         · cases h
         · rename_i hn
           rw [if_neg hn]
           rw [ajt] at h ⊢
           unfold UB at h ⊢
           rw [hty] at h ⊢
           simp only at h ⊢
           rcases hm:bU ty.2.1 v with _|m
           · rw [hm] at h;simp at h
           · rw [hm] at h
             simp only [inM] at h ⊢
             exact ajw (hs a) h
       · rename_i hk2
         rw [if_neg hk2]
         split at h
         · rename_i hk3
           rw [if_pos hk3]
           split at h
           · cases h
           · rename_i hn
             rw [if_neg hn]
             rw [ajt] at h ⊢
             exact ajw (hs a) h
         · rename_i hk3
           rw [if_neg hk3]
           split at h
           · cases h
           · rename_i hn
             rw [if_neg hn]
             rw [ajt] at h ⊢
             exact ajw (hs a) h
theorem ajI {ts:List Typ} {l r:List Atr} (hs:∀ n x,x∈dU l n→x∈dU r n):∀ f:Flt,ai1 f=false→ofM ts l f=1→ofM ts r f=1:=by
 refine OR fun k a v ps ks ih hn h=>?_
 rw [ofM,CK] at h ⊢
 simp only [ai1,Bool.or_eq_false_iff,decide_eq_false_iff_not] at hn
 split at h
 · rename_i hk
   rw [if_pos hk]
   have hk2:k=0∨k=1:=by omega
   rcases hk2 with rfl|rfl
   · simp only [MB,if_true,rQ] at h ⊢
     rw [ajl] at h ⊢
     refine ⟨rfl,fun x hx=>?_⟩
     obtain ⟨f,hf,rfl⟩:=List.mem_map.1 hx
     exact ih f hf (ajg hn.2 f hf) (h.2 _ (List.mem_map.2 ⟨f,hf,rfl⟩))
   · simp only [MB,Int.reduceEq,if_false,if_true] at h ⊢
     rw [ajH] at h ⊢
     obtain ⟨x,hx,e⟩:=h
     obtain ⟨f,hf,rfl⟩:=List.mem_map.1 hx
     exact ⟨_,List.mem_map.2 ⟨f,hf,rfl⟩,ih f hf (ajg hn.2 f hf) e⟩
 · rename_i hk
   rw [if_neg hk]
   exact ajC hs h
theorem ajx {n m:List UInt8} {vs:List (List UInt8)} (h:ah m≠ah n):∀ (l:List Atr) (d:Bool),dU (kM n vs d l) m=dU l m
 | [],d=>by
   rw [kM]
   split
   · rfl
   · simp only [dU];rw [if_neg fun e=>h e.symm]
 | a::t,d=>by
   have ih:=ajx (vs:=vs) h t (d || !decide (ah a.1<ah n))
   rw [kM]
   have hskip:∀ r:List Atr,dU ((if d=false∧¬ ah a.1<ah n then [(n,vs)] else [])++r) m=dU r m:=fun r=>by
     split
     · rw [List.cons_append,List.nil_append,dU,if_neg fun e=>h e.symm]
     · rfl
   rw [List.append_assoc,hskip]
   split
   · rw [List.cons_append,List.nil_append,dU,dU,ih]
   · rename_i e
     simp only [ne_eq,Decidable.not_not] at e
     rw [List.nil_append,ih,dU,if_neg (fun e2=>h (e2.symm.trans e.symm))]
theorem ajD {ts:List Typ} {l:List Atr} {n:List UInt8} {vs:List (List UInt8)} (h0:(afJ ts l (0,n,vs)).2=0):∀ m x,x∈dU l m→x∈dU (afJ ts l (0,n,vs)).1 m:=by
 unfold afJ at h0 ⊢
 simp only [Int.reduceLT,or_self,if_false,Int.reduceEq] at h0 ⊢
 rcases hty:fJ ts n with _|ty
 · rw [hty] at h0;simp at h0
 · rw [hty] at h0
   simp only [true_and,if_true] at h0 ⊢
   split at h0
   · simp at h0
   · rename_i hv
     rw [if_neg hv]
     split at h0
     · rename_i hb
       exact absurd h0 hb
     · rename_i hb
       rw [if_neg hb]
       simp only [ne_eq,Decidable.not_not] at hb
       intro m x hx
       have hne:=RU (.inr hv) hb
       have he:((dx ty.2.1 ty.2.2.1 (dU l n) vs).1).isEmpty=false:=by
         rcases hh:(dx ty.2.1 ty.2.2.1 (dU l n) vs).1 with _|⟨_,_⟩
         · exact absurd hh hne
         · rfl
       rw [he]
       have hfn:=(Dw hty).2
       by_cases hf:ah m=ah ty.1
       · rw [YG hf,YD]
         rw [YG (hf.trans hfn)] at hx
         exact (ail hb x hx).1
       · rw [ajx hf];exact hx
theorem ajA {ts:List Typ}:∀ {ms:List Mdf} {l:List Atr},(∀ m∈ms,m.1=0)→(aib ts l ms).2=0→∀ n x,x∈dU l n→x∈dU (aib ts l ms).1 n
 | [],l,_,_,n,x,hx=>hx
 | m::ms,l,hm,h,n,x,hx=>by
   rw [aib] at h ⊢
   split at h
   · rename_i h0;exact absurd h h0
   · rename_i h0
     rw [if_neg h0]
     obtain ⟨o,nm,vs⟩:=m
     obtain rfl:o=0:=hm (o,nm,vs) (by simp)
     exact ajA (fun m hm'=>hm m (by simp [hm'])) h n x (ajD (by simpa using h0) n x hx)
theorem ajB {ts:List Typ} {B C:Nat}:∀ {ms:List Mdf} {l:List Atr},(∀ a∈l,a.2.length≤B)→(∀ m∈ms,m.2.2.length≤C)→(aib ts l ms).1.length≤l.length+ms.length∧∀ a∈(aib ts l ms).1,a.2.length≤B+C * ms.length
 | [],l,h,_=>by rw [aib];exact ⟨Nat.le_refl _,by simpa using h⟩
 | m::ms,l,h,hm=>by
   rw [aib]
   split
   · exact ⟨by simp,fun a ha=>by cases ha⟩
   · obtain ⟨h1,h2⟩:=afI (ts:=ts) (m:=m) h
     have h3:=hm m (by simp)
     have:=@ajB ts (B+C) C ms (afJ ts l m).1 (fun a ha=>by have:=h2 a ha;omega) (fun x hx=>hm x (by simp [hx]))
     rw [List.length_cons,Nat.mul_add_one]
     refine ⟨by have:=this.1;omega,fun a ha=>?_⟩
     have:=this.2 a ha
     omega
theorem ajJ:∀ (f:Flt),Dp f→∀ {L:List Blk} {K:AV→List Blk→Prop},K (.bool (ai1 f)) L→ad Tryz.prog 17 [.agg (fA f)] L K:=by
 refine OR fun k a v ps ks ih hrd L K h=>?_
 simp only [FlB] at hrd
 obtain ⟨r1,r2,r3,r4,r5,r6⟩:=hrd
 have ih2:∀ x∈ks,∀ {L:List Blk} {K:AV→List Blk→Prop},K (.bool (ai1 x)) L→ad Tryz.prog 17 [.agg (fA x)] L K:=fun x hx {L K} q=>ih x hx (Nr r6 x hx) q
 replace ih2:=@hid _ @ih2
 clear ih r6 r1 r2 r3 r4
 rw [ai1] at h
 obtain ⟨R,hR⟩:∃ R,(decide (k=2) || ai8 ks)=R:=⟨_,rfl⟩
 rw [hR] at h
 replace h:=hid h
 rw [ky]
 obtain ⟨PS,hPS⟩:∃ P,P=b9 ps:=⟨_,rfl⟩
 obtain ⟨KS,hKS⟩:∃ P,P=fsA ks:=⟨_,rfl⟩
 rw [← hPS,← hKS]
 clear hPS
 replace hKS:=hid hKS
 have stp:∀ i:Nat,i<ks.length→∃ q:Flt,Hid ((KS.drop (i * 5)).take 5=fA q∧i * 5+5≤KS.length∧(∀ {L:List Blk} {K:AV→List Blk→Prop},K (.bool (ai1 q)) L→ad Tryz.prog 17 [.agg (fA q)] L K)∧(i:Int)<(ks.length:Int)∧IntKind.i64.wrap ((i:Int)+1)=(i:Int)+1∧ai8 (ks.drop i)=(ai1 q || ai8 (ks.drop (i+1)))):=fun i hlt=>by
   refine ⟨ks.getD i RK,hid ⟨?_,?_,?_,by omega,ac (by omega) (by omega),?_⟩⟩
   · rw [hKS.out];exact Rc hlt
   · rw [hKS.out,OP];omega
   · exact fun q=>ih2.out _ (by simp [hlt]) q
   · rw [List.drop_eq_getElem_cons hlt,ai8];simp [hlt]
 replace stp:=hid stp
 clear ih2
 obtain ⟨b0,hb0⟩:∃ b,decide (k=2)=b:=⟨_,rfl⟩
 rw [hb0] at hR
 replace hR:=hid hR
 refine ae ahQ (by simp [ahR]) ?_
 simp only [ahR,ar]
 refine wk ?_
 refine am (fun m T' L'=>∃ (i:Nat) (o:Bool) (Y:List Blk),m=ks.length - i∧i≤ks.length∧Hid ((o || ai8 (ks.drop i))=R)∧T'=[(12,.int .i64 (i:Int)),(11,.int .i64 ks.length),(10,.sl KS ks.length none),(3,.bool o)]∧L'=L++(.cells [.int .i64 k,.str a,.str v,.sl PS ps.length none,.sl KS ks.length none]::Y)) (CutS (b:=by simp)) ⟨0,b0,[],rfl,Nat.zero_le _,hid (by simpa using hR.out),rfl,by simp⟩ ?_
 clear hR hb0
 rintro _ _ _ ⟨i,o,Y,rfl,hi,hI,rfl,rfl⟩
 by_cases hlt:i<ks.length
 · obtain ⟨q,hq⟩:=stp.out i hlt
   obtain ⟨e3,e4,e5,g1,g2,e6⟩:=hq.out
   obtain ⟨nq,hnq⟩:∃ b,ai1 q=b:=⟨_,rfl⟩
   have hI2:=hI.out
   rw [e6] at hI2
   rw [hnq] at e5 hI2
   have kk1:=@hid _ @e5
   clear e5 hq e6 hnq hI
   simp only [N9] at e3 kk1
   cases o with
   | true =>
     rw [Bool.true_or] at hI2
     replace hI2:=hid hI2
     refine wk ?_
     exact ak _ _ _ (by omega) (CutL (b:=by simp)) ⟨i+1,true,_,rfl,hlt,hid (by rw [Bool.true_or];exact hI2.out),rfl,rfl⟩
   | false =>
     rw [Bool.false_or] at hI2
     replace hI2:=hid hI2
     refine wk ?_
     exact ak _ _ _ (by omega) (CutL (b:=by simp)) ⟨i+1,nq,_,rfl,hlt,hI2,rfl,rfl⟩
 · have hke:i=ks.length:=by omega
   subst hke
   have g1:¬ (ks.length:Int)<(ks.length:Int):=by omega
   have hI2:=hI.out
   rw [List.drop_length,ai8,Bool.or_false] at hI2
   subst hI2
   clear hI stp
   refine wk ?_
   exact ab rfl h.out
def adM (m:Mdf):Mdf:=(0,m.2.1,m.2.2)
theorem ajz:∀ ms:List Mdf,AV.frzL (af0 ms)=af0 ms
 | []=>rfl
 | m::ms=>by
   have ih:=ajz ms
   rw [show af0 (m::ms)=mdC m++af0 ms from rfl]
   simp only [mdC,List.cons_append,List.nil_append,AV.frzL,AV.frz,eN,ih]
theorem ajF (l:List Mdf) (m:Mdf):af0 (l++[m])=af0 l++mdC m:=by simp [af0]
theorem ajG {ts:List Typ} {cs:List Cls} {l:List Atr} {f:Flt} {ms:List Mdf} (hs:WB ts cs) (hl:WI l) (hf:Ro f) (hm:ain ms) (h:K (.bool true) L) :
   ad Tryz.prog 5 [.agg [.sl (bc ts) ts.length none,.sl (df cs) cs.length none],.agg (.sl (bn l) l.length none::fA f),.sl (af0 ms) ms.length none] L K:=by
 obtain ⟨kf,af,vf,pf,sf⟩:=f
 have kk1:Hid (Ctr Tryz.prog 10 [] (.bool true)):=hid fun q=>S5 q
 have mk:∀ {L:List Blk} {K:AV→List Blk→Prop},(∀ C n c,K (.tup [.sl C n c,.bool false]) L)→(∀ R:List Atr,O4 ts→InA ts R→R.length≤100→(∀ a∈R,a.2.length≤6000)→Dp (.mk kf af vf pf sf)→K (.tup [.sl (bn R) R.length none,.bool true]) L)→ad Tryz.prog 9 [.agg [.sl (bc ts) ts.length none,.sl (df cs) cs.length none],.agg (.sl (bn l) l.length none::fA (.mk kf af vf pf sf))] L K:=fun a b=>Xg hs hl hf a b
 simp only [ky] at mk ⊢
 replace mk:=@hid _ @mk
 replace h:=hid h
 refine ae ahU (by simp [ahV]) ?_
 simp only [ahV,ar]
 refine wk ?_
 refine mk.out (fun C n c=>?_) (fun R hts hin h1 h2 hfs=>?_)
 · refine sk ?_
   refine wk ?_
   exact ab rfl h.out
 obtain ⟨nb,hnb⟩:∃ b,ai1 (.mk kf af vf pf sf)=b:=⟨_,rfl⟩
 have kk2:Hid (Ctr Tryz.prog 17 [.agg [.int .i64 kf,.str af,.str vf,.sl (b9 pf) pf.length none,.sl (fsA sf) sf.length none]] (.bool nb)):=hid fun z=>by
   rw [← ky]
   exact ajJ _ hfs (by rw [hnb];exact z)
 obtain ⟨x,hx⟩:∃ x,ofM ts R (.mk kf af vf pf sf)=x:=⟨_,rfl⟩
 have kk3:Hid (Ctr Tryz.prog 11 [.agg [.sl (bc ts) ts.length none,.sl (df cs) cs.length none],.agg [.int .i64 kf,.str af,.str vf,.sl (b9 pf) pf.length none,.sl (fsA sf) sf.length none],.sl (bn R) R.length none] (.int .i64 x)):=hid fun z=>by
   rw [← ky]
   exact V2 hts hin (by omega) (fun a ha=>by have:=h2 a ha;omega) _ hfs (by rw [hx];exact z)
 clear mk hs hl hf
 by_cases hml:10<(ms.length:Int)
 · clear hx hnb hts hin h1 h2 hfs hm kk3
   refine sk ?_
   refine wk ?_
   exact ab rfl h.out
 cases nb with
 | true =>
   clear hx hnb hts hin h1 h2 hfs hm kk3
   refine sk ?_
   refine wk ?_
   exact ab rfl h.out
 | false =>
 replace hm:=hid hm
 replace hts:=hid hts
 replace hin:=hid hin
 replace h1:=hid h1
 replace h2:=hid h2
 replace hfs:=hid hfs
 replace hx:=hid hx
 replace hnb:=hid hnb
 obtain ⟨CF,hCF⟩:∃ C,C=[AV.sl (bn l) l.length none,.int .i64 kf,.str af,.str vf,.sl (b9 pf) pf.length none,.sl (fsA sf) sf.length none]:=⟨_,rfl⟩
 clear CF hCF
 refine sk ?_
 refine wk ?_
 refine ch (l:=[]) (n:=0) 9 3 rfl (Nat.zero_mul 3).symm ?_
 have e2:∀ A B:Blk,(L++[A,B]).length=L.length+2:=fun A B=>by simp
 rw [e2]
 refine am (fun m T' L'=>∃ (i:Nat) (D:List AV) (Y:List Blk),m=ms.length - i∧i≤ms.length∧Hid (D=af0 ((ms.take i).map adM))∧Hid (∀ z∈ms.take i,z.2.2.length≤10)∧T'=[(35,.int .i64 (i:Int)),(34,.int .i64 ms.length),(33,.sl (af0 ms) ms.length none),(9,.gsl D i (L.length+2) 3),(7,.sl (bn R) R.length none),(4,.ptr (L.length+1) 0),(3,.ptr L.length 0)] ∧
   L'=L++(.cells [.sl (bc ts) ts.length none,.sl (df cs) cs.length none] :: .cells [.sl (bn l) l.length none,.int .i64 kf,.str af,.str vf,.sl (b9 pf) pf.length none,.sl (fsA sf) sf.length none] :: .spare i 3::Y)) (CutS (b:=by simp)) ⟨0,[],[],rfl,Nat.zero_le _,hid rfl,hid (by simp),rfl,by simp⟩ ?_
 rintro _ _ _ ⟨i,D,Y,rfl,hi,hD,hJ,rfl,rfl⟩
 by_cases hlt:i<ms.length
 · have g1:(i:Int)<(ms.length:Int):=by omega
   have g2:IntKind.i64.wrap ((i:Int)+1)=(i:Int)+1:=ac (by omega) (by omega)
   have e3:=afZ hlt
   have e4:i * 3+3≤(af0 ms).length:=by rw [afY];omega
   obtain ⟨⟨o,nm,vs⟩,ha⟩:∃ a,ms.getD i noM=a:=⟨_,rfl⟩
   have htk:ms.take (i+1)=ms.take i++[(o,nm,vs)]:=by rw [List.take_succ_eq_append_getElem hlt,show ms[i]=(o,nm,vs) by rw [← ha];simp [hlt]]
   rw [ha] at e3
   simp only [mdC] at e3
   have hD2:=hid (show D++[.int .i64 0,.str nm,.sl (vs.map AV.str) vs.length none]=af0 ((ms.take (i+1)).map adM) by rw [htk,List.map_append,hD.out,List.map_cons,List.map_nil,ajF];rfl)
   replace htk:=hid htk
   have e0:AV.frzL (vs.map AV.str)=vs.map AV.str:=eN vs
   clear ha hD kk3 kk2
   by_cases hv:10<(vs.length:Int)
   · refine wk ?_
     exact ab rfl h.out
   · have hJ3:=hid (show ∀ z∈ms.take (i+1),z.2.2.length≤10 by
       rw [htk.out]
       intro z hz
       rcases List.mem_append.1 hz with e|e
       · exact hJ.out z e
       · rw [List.mem_singleton] at e
         subst e
         show vs.length≤10
         omega)
     clear htk hJ
     refine wk ?_
     exact ak _ _ _ (by omega) (CutS (b:=by simp)) ⟨i+1,_,_,rfl,hlt,hD2,hJ3,rfl,rfl⟩
 have hke:i=ms.length:=by omega
 subst hke
 have g1:¬ (ms.length:Int)<(ms.length:Int):=by omega
 have hD2:=hD.out
 have hJ2:=hJ.out
 rw [List.take_length] at hD2 hJ2
 subst hD2
 clear hD hJ
 obtain ⟨A,hA⟩:∃ A,aib ts R (ms.map adM)=A:=⟨_,rfl⟩
 have hmd:∀ m∈ms.map adM,bf m.2.1∧m.2.2.length≤1000:=fun m hm'=>by
   obtain ⟨z,hz,rfl⟩:=List.mem_map.1 hm'
   exact ⟨(hm.out.2 z hz).1,by have:=hJ2 z hz;simp only [adM];omega⟩
 have hap:(∀ {i:Nat} {L:List Blk} {K:AV→List Blk→Prop},K (.tup [.sl (bn A.1) A.1.length none,.int .i64 A.2]) L→ad Tryz.prog 18 [.agg [.sl (bc ts) ts.length none,.sl (df cs) cs.length none],.sl (bn R) R.length none,.gsl (af0 (ms.map adM)) ms.length i 3] L K):=fun {i L K} q=>by
   refine fH ?_
   have:=Zp (capT:=none) (cap2:=none) (cap:=none) (capM:=none) (c2:=AV.frzL (df cs)) (n2:=cs.length) hts.out (by have:=h1.out;omega) (fun a ha=>⟨(N5 hts.out hin.out ha).1,by have:=h2.out a ha;omega⟩) (by simp;omega) hmd hA (L:=L) (K:=K) q
   simpa only [AV.frzL,AV.frz,wT,Dl,ajz,List.length_map] using this
 have kk4:=@hid _ @hap
 have hA1:A.1.length≤1100000∧∀ a∈A.1,a.2.length≤1100000:=by
   have:=ajB (ts:=ts) (l:=R) (ms:=ms.map adM) (B:=6000) (C:=10) h2.out (fun m hm'=>by
     obtain ⟨z,hz,rfl⟩:=List.mem_map.1 hm'
     exact hJ2 z hz)
   rw [hA,List.length_map] at this
   have hr:=h1.out
   exact ⟨by have:=this.1;omega,fun a ha=>by have:=this.2 a ha;omega⟩
 by_cases hz:A.2=0
 rotate_left
 · clear hA hmd hA1 hJ2 kk3 kk2 hap
   refine wk ?_
   exact ab rfl h.out
 have hinA:InA ts A.1:=by rw [← hA] at hz ⊢;exact ah9 hin.out hz
 obtain ⟨y,hy⟩:∃ y,ofM ts A.1 (.mk kf af vf pf sf)=y:=⟨_,rfl⟩
 have hxy:x=1→y=1:=fun e=>by
   rw [← hx.out] at e
   rw [← hy,← hA]
   refine ajI (ajA (fun m hm'=>?_) (by rw [hA];exact hz)) _ hnb.out e
   obtain ⟨z,_,rfl⟩:=List.mem_map.1 hm'
   rfl
 have kk5:Hid (Ctr Tryz.prog 11 [.agg [.sl (bc ts) ts.length none,.sl (df cs) cs.length none],.agg [.int .i64 kf,.str af,.str vf,.sl (b9 pf) pf.length none,.sl (fsA sf) sf.length none],.sl (bn A.1) A.1.length none] (.int .i64 y)):=hid fun z=>by
   rw [← ky]
   exact V2 hts.out hinA (by have:=hA1.1;omega) hA1.2 _ hfs.out (by rw [hy];exact z)
 clear hA hmd hA1 hJ2 kk2 hinA hy hap
 by_cases hx1:x=1
 · have hy1:=hxy hx1
   subst hx1 hy1
   refine wk ?_
   exact ab rfl h.out
 · clear hxy
   refine wk ?_
   exact ab rfl h.out
end Go.Proofs.YtkkgmgmgcgiffaaGreatDoor.Av
