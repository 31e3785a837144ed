/- Joined texts of the walk, made small by a program. -/
import Derived.Test.YtkkgmgmgcgiffaaGreatDoorUE3
import Derived.Test.YtkkgmgmgcgiffaaGreatDoorUS2
import Derived.Test.YtkkgmgmgcgiffaaGreatDoorUT2
import Derived.Test.YtkkgmgmgcgiffaaGreatDoorUP4
import Derived.Test.YtkkgmgmgcgiffaaGreatDoorRows
import Derived.KernelRfl
import Derived.Test.YtkkgmgmgcgiffaaGreatDoorUE2
import Derived.Test.YtkkgmgmgcgiffaaGreatDoorUP5
set_option linter.unusedSimpArgs false
set_option linter.unusedVariables false
namespace Go.Proofs.YtkkgmgmgcgiffaaGreatDoor.Av
open Go
set_option maxHeartbeats 8000000
set_option maxRecDepth 100000
inductive Flt where
 | mk (kind:Int) (attr val:List UInt8) (ps:List Pc) (kids:List Flt)
def Flt.kind:Flt→Int
 | .mk k _ _ _ _=>k
def Flt.attr:Flt→List UInt8
 | .mk _ a _ _ _=>a
def Flt.val:Flt→List UInt8
 | .mk _ _ v _ _=>v
def Flt.ps:Flt→List Pc
 | .mk _ _ _ p _=>p
def Flt.kids:Flt→List Flt
 | .mk _ _ _ _ l=>l
abbrev RK:Flt:=.mk 0 [] [] [] []
instance:Inhabited Flt:=⟨RK⟩
def tf1 (b:Bool):Int:=if b=true then 1 else 0
def Us (ts:List Typ) (l:List Atr) (ty:Typ) (k:Int) (a v:List UInt8) (ps:List Pc):Int :=
 if k=7 then tf1 (!(dU l a).isEmpty) else
 if k=3∨k=8 then (if (bU ty.2.1 v).isNone=true then 2 else tf1 (UB ts l a v)) else
 if k=4 then (if 3<ty.2.1∨CJ ps=false then 2 else tf1 ((dU l a).any fun x=>(CP ty.2.1 x ps).getD false)) else
 if (k7 ty.2.1 v v).isNone=true then 2 else tf1 ((dU l a).any fun x=>let o:=(k7 ty.2.1 x v).getD 0;decide (o=0) || (decide (0<o) == decide (k=5)))
def Uo (ts:List Typ) (l:List Atr) (k:Int) (a v:List UInt8) (ps:List Pc):Int:=match fJ ts a with
 | none=>2
 | some ty=>if k<0∨8<k then 2 else Us ts l ty k a v ps
def MB (k:Int) (l:List Int):Int:=if k=0 then rQ l else if k=1 then orV l else if l.length≠1 then 2 else il (l.getD 0 0)
mutual
def ofM (ts:List Typ) (l:List Atr):Flt→Int
 | .mk k a v ps ks=>if k=0∨k=1∨k=2 then MB k (V1 ts l ks) else Uo ts l k a v ps
def V1 (ts:List Typ) (l:List Atr):List Flt→List Int
 | []=>[]
 | f::r=>ofM ts l f::V1 ts l r
end
theorem CK (ts:List Typ) (l:List Atr):∀ ks:List Flt,V1 ts l ks=ks.map (ofM ts l)
 | []=>rfl
 | f::r=>by rw [V1,CK ts l r];rfl
mutual
def fA:Flt→List AV
 | .mk k a v ps ks=>[.int .i64 k,.str a,.str v,.sl (b9 ps) ps.length none,.sl (fsA ks) (fsN ks) none]
def fsA:List Flt→List AV
 | []=>[]
 | f::l=>fA f++fsA l
def fsN:List Flt→Nat
 | []=>0
 | _::l=>fsN l+1
end
theorem UT:∀ l:List Flt,fsN l=l.length
 | []=>rfl
 | _::l=>by simp only [fsN,List.length_cons,UT l]
theorem ky (k:Int) (a v:List UInt8) (ps:List Pc) (ks:List Flt):fA (.mk k a v ps ks)=[.int .i64 k,.str a,.str v,.sl (b9 ps) ps.length none,.sl (fsA ks) ks.length none]:=by rw [fA,UT]
theorem N9 (f:Flt):fA f=[.int .i64 f.kind,.str f.attr,.str f.val,.sl (b9 f.ps) f.ps.length none,.sl (fsA f.kids) f.kids.length none]:=by
 obtain ⟨k,a,v,ps,ks⟩:=f
 exact ky k a v ps ks
theorem OP:∀ l:List Flt,(fsA l).length=l.length * 5
 | []=>rfl
 | n::l=>by simp only [fsA,List.length_append,OP l,N9,List.length_cons,List.length_nil];omega
theorem Rc:∀ {l:List Flt} {k:Nat},k<l.length→((fsA l).drop (k * 5)).take 5=fA (l.getD k RK)
 | n::l,0,_=>by simp [fsA,N9]
 | n::l,k+1,h=>by
   have ih:=@Rc l k (by simpa using h)
   have e:(fsA (n::l)).drop ((k+1) * 5)=(fsA l).drop (k * 5):=by
     rw [fsA,List.drop_append,N9]
     simp only [List.length_cons,List.length_nil]
     rw [List.drop_eq_nil_of_le (by simp;omega),List.nil_append]
     congr 1;omega
   rw [e,ih];rfl
theorem VZ (l:List Pc):AV.frzL (b9 l)=b9 l:=by
 induction l with
 | nil=>rfl
 | cons a l ih =>
   rw [AV.frzL_eq] at ih ⊢
   simp only [b9,List.flatMap_cons,List.map_append] at ih ⊢
   rw [ih];rfl
theorem Jf (p:Nat→Bool) (l:List Pc):AV.refsL p (b9 l)=true:=by
 rw [AV.refsL_iff]
 intro a ha
 simp only [b9,List.mem_flatMap,pcA,List.mem_cons,List.not_mem_nil,or_false] at ha
 obtain ⟨x,_,rfl|rfl⟩:=ha<;>rfl
mutual
theorem Rf:∀ n:Flt,AV.frzL (fA n)=fA n
 | .mk k a v ps ks=>by
   have ih:=RQ ks
   simp only [fA,AV.frzL,AV.frz,ih,VZ]
theorem RQ:∀ l:List Flt,AV.frzL (fsA l)=fsA l
 | []=>rfl
 | n::l=>by
   have h1:=Rf n
   have h2:=RQ l
   rw [AV.frzL_eq] at h1 h2 ⊢
   rw [fsA,List.map_append,h1,h2]
end
mutual
theorem Wi (p:Nat→Bool):∀ n:Flt,AV.refsL p (fA n)=true
 | .mk k a v ps ks=>by
   have ih:=CR p ks
   simp only [fA,AV.refsL,AV.refs,ih,Jf,Bool.and_true]
theorem CR (p:Nat→Bool):∀ l:List Flt,AV.refsL p (fsA l)=true
 | []=>rfl
 | n::l=>by
   have h1:=Wi p n
   have h2:=CR p l
   rw [AV.refsL_iff] at h1 h2 ⊢
   intro a ha
   rw [fsA,List.mem_append] at ha
   exact ha.elim (h1 a) (h2 a)
end
def Tr (v:Int):Prop:=v=0∨v=1∨v=2
theorem RI (v:Int):Tr (il v):=by
 unfold il Tr
 split
 · simp
 · split<;>simp
theorem Nl:∀ (l:List Int) (o:Int),Tr o→Tr (Nm o l)
 | [],o,h=>h
 | v::r,o,h=>by
   rw [Nm]
   split
   · exact .inl rfl
   · split
     · exact Nl r o h
     · exact Nl r 2 (.inr (.inr rfl))
theorem Wz (l:List Int):Tr (rQ l):=Nl l 1 (.inr (.inl rfl))
theorem Oq (b:Bool):Tr (tf1 b):=by cases b<;>simp [tf1,Tr]
theorem Ur (k:Int) (l:List Int):Tr (MB k l):=by
 unfold MB
 split
 · exact Wz l
 · split
   · exact RI _
   · split
     · exact .inr (.inr rfl)
     · exact RI _
theorem T7 (ts:List Typ) (l:List Atr) (f:Flt):Tr (ofM ts l f):=by
 obtain ⟨k,a,v,ps,ks⟩:=f
 rw [ofM]
 split
 · exact Ur k _
 · unfold Uo
   split
   · exact .inr (.inr rfl)
   · split
     · exact .inr (.inr rfl)
     · unfold Us
       split
       · exact Oq _
       · split
         · split
           · exact .inr (.inr rfl)
           · exact Oq _
         · split
           · split
             · exact .inr (.inr rfl)
             · exact Oq _
           · split
             · exact .inr (.inr rfl)
             · exact Oq _
theorem V3 {v:Int} (h:Tr v):il (il v)=v:=by rcases h with rfl|rfl|rfl<;>decide
theorem Up {a b:Int} (ha:Tr a) (hb:Tr b):il (rQ [a,b])=orV [il a,il b]∧il (orV [a,b])=rQ [il a,il b]∧rQ [a,a]=a∧orV [a,a]=a∧rQ [a,b]=rQ [b,a]∧orV [a,b]=orV [b,a]:=by
 rcases ha with rfl|rfl|rfl<;>rcases hb with rfl|rfl|rfl<;>decide
mutual
theorem OR {P:Flt→Prop} (h:∀ k a v ps ks,(∀ x∈ks,P x)→P (.mk k a v ps ks)):∀ f,P f
 | .mk k a v ps ks=>h k a v ps ks (P1 h ks)
theorem P1 {P:Flt→Prop} (h:∀ k a v ps ks,(∀ x∈ks,P x)→P (.mk k a v ps ks)):∀ (l:List Flt),∀ x∈l,P x
 | [],x,hx=>by cases hx
 | f::r,x,hx=>by
   rcases List.mem_cons.1 hx with e|e
   · rw [e];exact OR h f
   · exact P1 h r x e
end
mutual
def FlB (A V N T M:Nat):Flt→Prop
 | .mk _ a v ps ks=>a.length≤A∧v.length≤V∧ps.length≤N∧(∀ p∈ps,p.2.length≤T)∧ks.length≤M∧LA A V N T M ks
def LA (A V N T M:Nat):List Flt→Prop
 | []=>True
 | f::r=>FlB A V N T M f∧LA A V N T M r
end
theorem Nr {A V N T M:Nat}:∀ {l:List Flt},LA A V N T M l→∀ x∈l,FlB A V N T M x
 | [],_,x,hx=>by cases hx
 | f::r,h,x,hx=>by
   rw [LA] at h
   rcases List.mem_cons.1 hx with rfl|e
   · exact h.1
   · exact Nr h.2 x e
theorem O9 {A V N T M:Nat}:∀ {l:List Flt},(∀ x∈l,FlB A V N T M x)→LA A V N T M l
 | [],_=>by rw [LA];trivial
 | f::r,h=>by rw [LA];exact ⟨h f (by simp),O9 fun x hx=>h x (by simp [hx])⟩
abbrev Ro:Flt→Prop:=FlB 1048576 1048576 1048576 1048576 1048576
abbrev Dp:Flt→Prop:=FlB 1048576 3000 20 100 60
end Go.Proofs.YtkkgmgmgcgiffaaGreatDoor.Av
set_option maxRecDepth 100000
namespace Go.Proofs.YtkkgmgmgcgiffaaGreatDoor.Av
open Go
def HW:LSO:=[A3 3 0,A3 4 1,Ab 6 0]
def HV:LSO:=[Ac 17 0 4,Ad 18 1 17]
def HU:LSO:=[Al 20 18 0,Aa 19 20]
def HT:LSO:=[Al 21 18 1,Aa 19 21]
def HS:LSO:=[Al 22 18 2,Aa 19 22]
def HR:LSO:=[Am 7]
def HQ:LSO:=[Ac 23 4 4,Ad 24 1 23,An 25 24,Ab 26 0]
def HP:LSO:=[Ak 27 26 25]
def HO:LSO:=[Aq 28 5 24 26,Ap 29 5 28,AT 9,Ai 5 9 29]
def HN:LSO:=[Aa 30 7,Ap 31 2 3,Ap 32 5 9,Aa 33 2,AD 34 11 31 32 33,o1 35 (.bslice false 1 1 [(.int .i64 0)] [(0,(1,(tm 34)))]),
 o1 36 (.app 1 1 8 [(.int .i64 0)] (tm 30) (tm 35)),Aa 7 36]
def Em:LSO:=[Ah 37 26 1,Aa 26 37]
def El:LSO:=[Ac 39 0 4,Ad 40 1 39,Al 41 40 0,Aa 38 41]
def Ek:LSO:=[Aa 42 7,Aj 43 34 42,Aa 6 43]
def Ej:LSO:=[Ac 45 0 4,Ad 46 1 45,Al 47 46 1,Aa 44 47]
def Ei:LSO:=[Aa 48 7,Aj 49 35 48,Aa 6 49]
def Eh:LSO:=[Aa 51 7,An 52 51,AF 53 52 1,Aa 50 53]
def Eg:LSO:=[Ab 6 2]
def Ef:LSO:=[Aa 54 7,o1 55 (.iaddr 1 (tm 54) (iv 0)),Ad 56 1 55,Aj 57 16 56,Aa 6 57]
def Ee:LSO:=[Ap 59 2 3,Ac 60 1 4,Ad 61 1 60,Aw 62 36 59 61,Aa 58 62,As 63 58,Au 64 58,Bo 10,Ai 4 10 63,Aa 11 64]
def Ed:LSO:=[Aa 65 11,Ay 66 65,Aa 67 66,.grp none 67 false
 [AA 68 67 0 4,A8 69 67 1 68,BA 70 67 69 0]
 71 (tm 70),Aa 72 71,.grp none 72 false
 [AA 73 72 0 4,A8 74 72 1 73,A5 75 72 74 8]
 76 (tm 75)]
def Ec:LSO:=[Ab 6 2]
def Eb:LSO:=[Aa 77 2,Ac 78 1 4,Ad 79 1 78,Aw 80 37 77 79,Aa 12 80]
def Ea:LSO:=[Ac 82 1 10,Ad 83 1 82,Ac 84 2 4,Ad 85 1 84,Aw 86 38 83 85,Aa 81 86,As 87 81,Au 88 81,Aa 13 87,Aa 14 88]
def D9:LSO:=[Ac 89 0 4,Ad 90 1 89]
def D8:LSO:=[Al 92 90 7,Aa 91 92]
def D7:LSO:=[Aa 93 12,An 94 93,A0 95 94 0,Aj 96 39 95,Aa 6 96]
def D6:LSO:=[Al 98 90 3,Aa 97 98]
def D5:LSO:=[Al 99 90 8,Aa 97 99]
def D4:LSO:=[Aa 100 14,Ay 101 100]
def D3:LSO:=[Ab 6 2]
def D2:LSO:=[Ap 102 2 3,Aa 103 2,Ac 104 1 4,Ad 105 1 104,Ac 106 2 4,Ad 107 1 106,o1 108 (.call 40 [(tm 102),(tm 103),(tm 105),(tm 107)]),Aj 109 39 108,Aa 6 109]
def D1:LSO:=[Al 111 90 4,Aa 110 111]
def D0:LSO:=[Ac 112 1 10,Ad 113 1 112,A0 114 113 3,Aa 115 114,.grp none 115 false
 [AA 116 115 3 4,A8 117 115 1 116,
 og 118 115 false (.build [(.int .i64 0),(.str []),(.str []),(.sl [] 0 (some 0)),(.sl [] 0 (some 0))] [(0,(1,(iv 4))),(1,(1,(.av (.str [97])))),(3,(1,(tm 117)))]),
 AI 119 115 41 118,Cc 120 115 119 0]
 121 (tm 120)]
def DZ:LSO:=[Ab 6 2]
def DY:LSO:=[Aa 122 12,o1 123 (.mkfn 43 [(tm 10),(tm 4)]),Aw 124 42 122 123,Aj 125 39 124,Aa 6 125]
def DX:LSO:=[Ac 127 1 10,Ad 128 1 127,Ac 129 2 4,Ad 130 1 129,Ac 131 2 4,Ad 132 1 131,AD 133 45 128 130 132,Aa 126 133,As 134 126,Au 135 126,Aa 15 134,Aa 16 135]
def DW:LSO:=[Aa 136 16,Ay 137 136]
def DV:LSO:=[Ab 6 2]
def DU:LSO:=[Aa 138 12,o1 139 (.mkfn 46 [(tm 10),(tm 4)]),Aw 140 42 138 139,Aj 141 39 140,Aa 6 141]
def ll:aW:=⟨142,(.seq (.sreg HW [])
 (.seq (.seq (.sreg HV Cg)
 (.block 0 (.seq (.seq (.sreg HU Cg)
 (.cond (tm 19) .skip
 (.seq (.sreg HT Cg)
 (.cond (tm 19) .skip
 (.sreg HS Cg)))))
 (.cond (tm 19) (.seq (.sreg HR [])
 (.seq (.seq (.sreg HQ Ct)
 (.block 1 (.loop (.seq (.sreg HP [])
 (.seq (.cond (tm 27) .skip
 (.exit 1))
 (.seq (.block 2 (.seq (.sreg HO Ch)
 (.sreg HN Cp)))
 (.sreg Em Cg)))))))
 (.seq (.block 3 (.seq (.sreg El Ci)
 (.cond (tm 38) (.seq (.sreg Ek Ch)
 .ret)
 (.seq (.sreg Ej Ci)
 (.cond (tm 44) (.seq (.sreg Ei Ch)
 .ret)
 (.seq (.sreg Eh Ci)
 (.cond (tm 50) (.seq (.sreg Eg [])
 .ret)
 .skip)))))))
 (.seq (.sreg Ef Cj)
 .ret))))
 .skip))))
 (.seq (.sreg Ee C3)
 (.seq (.seq (.sreg Ed Ck)
 (.cond (tm 76) (.seq (.sreg Ec [])
 .ret)
 .skip))
 (.seq (.sreg Eb Cj)
 (.seq (.sreg Ea Cx)
 (.seq (.seq (.sreg D9 Cg)
 (.block 4 (.seq (.sreg D8 Cg)
 (.cond (tm 91) (.seq (.sreg D7 Cj)
 .ret)
 (.seq (.seq (.sreg D6 Cg)
 (.cond (tm 97) .skip
 (.sreg D5 Cg)))
 (.cond (tm 97) (.seq (.seq (.sreg D4 Cg)
 (.cond (tm 101) (.seq (.sreg D3 [])
 .ret)
 .skip))
 (.seq (.sreg D2 C0)
 .ret))
 (.seq (.sreg D1 Cg)
 (.cond (tm 110) (.seq (.seq (.sreg D0 Cj)
 (.cond (tm 121) (.seq (.sreg DZ [])
 .ret)
 .skip))
 (.seq (.sreg DY Cj)
 .ret))
 .skip))))))))
 (.seq (.seq (.sreg DX Cv)
 (.seq (.sreg DW Cg)
 (.cond (tm 137) (.seq (.sreg DV [])
 .ret)
 .skip)))
 (.seq (.sreg DU Cj)
 .ret))))))))),[(.tmp 6)]⟩
attribute [push_cast] HW HV HU HT HS HR HQ HP HO HN Em El Ek Ej Ei Eh Eg Ef Ee Ed Ec Eb Ea D9 D8 D7 D6 D5 D4 D3 D2 D1 D0 DZ DY DX DW DV DU
theorem GR:bb Tryz.prog (fun _ _=>1) 11=some ll.raw:=by kernel_rfl
def xb:LSO:=[Af 4]
def xa:LSO:=[Ac 8 1 1,Ad 9 1 8,Aa 10 0,Ac 11 3 2,Ad 12 1 11,AD 13 44 9 10 12,Aa 7 13,As 14 7,Au 15 7,Aa 5 14,Aa 6 15]
def w9:LSO:=[Aa 16 5,Aa 4 16]
def rq:aW:=⟨17,(.seq (.sreg xb [])
 (.seq (.sreg xa CF)
 (.seq (.sreg w9 Cg)
 .ret))),[(.tmp 4)]⟩
attribute [push_cast] xb xa w9
theorem Lh:bb Tryz.prog (fun _ _=>1) 43=some rq.raw:=by kernel_rfl
def w8:LSO:=[Af 4]
def w7:LSO:=[Ac 8 1 1,Ad 9 1 8,Aa 10 0,Ac 11 2 2,Ad 12 1 11,AD 13 45 9 10 12,Aa 7 13,As 14 7,Au 15 7,Aa 5 14,Aa 6 15]
def wZ:LSO:=[Aa 16 5,Al 17 16 0,Aa 18 17,.grp none 18 false
 [Ag 19 18 5,A5 20 18 19 0,AA 21 18 0 2,A8 22 18 1 21,AC 23 18 22 5,og 24 18 false (.eqk false .bool (tm 20) (tm 23))]
 25 (tm 24),Aa 4 25]
def rp:aW:=⟨26,(.seq (.sreg w8 [])
 (.seq (.sreg w7 CF)
 (.seq (.sreg wZ Cj)
 .ret))),[(.tmp 4)]⟩
attribute [push_cast] w8 w7 wZ
theorem Lg:bb Tryz.prog (fun _ _=>1) 46=some rp.raw:=by kernel_rfl
def DT:LSO:=[Ab 2 0]
def DS:LSO:=[Aa 3 0]
def DR:LSO:=[Ab 2 1]
def DQ:LSO:=[Ab 2 0]
def jP:aW:=⟨4,(.seq (.sreg DT [])
 (.seq (.seq (.sreg DS [])
 (.cond (tm 3) (.seq (.sreg DR [])
 .ret)
 .skip))
 (.seq (.sreg DQ [])
 .ret))),[(.tmp 2)]⟩
attribute [push_cast] DT DS DR DQ
theorem CW:bb Tryz.prog (fun _ _=>1) 39=some jP.raw:=by kernel_rfl
def cC:LSO:=[Af 4]
def cB:LSO:=[Aa 5 0,Aa 6 1,Aw 7 89 5 6,AZ 8 7 0,Aa 4 8]
def bY:aW:=⟨9,(.seq (.sreg cC [])
 (.seq (.sreg cB Cj)
 .ret)),[(.tmp 4)]⟩
attribute [push_cast] cC cB
theorem dP:bb Tryz.prog (fun _ _=>1) 42=some bY.raw:=by kernel_rfl
def cY:LSO:=[Ab 4 0]
def cX:LSO:=[Aa 6 0,An 7 6,Ab 8 0]
def cW:LSO:=[Ak 9 8 7]
def cV:LSO:=[Aa 10 8,Aa 5 10]
def cU:LSO:=[Aa 11 1,Aa 12 0,Aa 13 5,Aq 14 1 12 13,Ad 15 1 14,B8 16 11 15]
def cT:LSO:=[Aa 17 5,Aa 4 17]
def cS:LSO:=[Ah 18 8 1,Aa 8 18]
def cR:LSO:=[Ab 4 (-1)]
def cg:aW:=⟨19,(.seq (.sreg cY [])
 (.seq (.seq (.sreg cX Cm)
 (.block 0 (.loop (.seq (.sreg cW [])
 (.seq (.cond (tm 9) .skip
 (.exit 0))
 (.seq (.block 1 (.seq (.sreg cV Cg)
 (.seq (.sreg cU Ck)
 (.cond (tm 16) (.seq (.sreg cT Cg)
 .ret)
 .skip))))
 (.sreg cS Cg)))))))
 (.seq (.sreg cR [])
 .ret))),[(.tmp 4)]⟩
attribute [push_cast] cY cX cW cV cU cT cS cR
theorem eP:bb Tryz.prog (fun _ _=>1) 89=some cg.raw:=by kernel_rfl
def wc:LSO:=[A3 3 0,Af 6]
def wb:LSO:=[Aa 11 1,Az 12 11,Ad 13 1 12,Ah 14 13 1,Az 15 11,Ai 1 15 14]
def wa:LSO:=[Aa 16 1,Az 17 16,Ad 18 1 17,A0 19 18 60,Aa 20 19,.grp none 20 false
 [Ag 21 20 2,A5 22 20 21 64]
 23 (tm 22),Aa 24 23,.grp none 24 false
 [AA 25 24 2 3,A8 26 24 1 25,Br 27 24 26,A5 28 24 27 3000]
 29 (tm 28),Aa 30 29,.grp none 30 false
 [AA 31 30 3 3,A8 32 30 1 31,Bm 33 30 32,A5 34 30 33 20]
 35 (tm 34),Aa 36 35,.grp none 36 false
 [AA 37 36 4 3,A8 38 36 1 37,Bm 39 36 38,A5 40 36 39 60]
 41 (tm 40)]
def v8:LSO:=[Af 6]
def v7:LSO:=[Ac 42 3 3,Ad 43 1 42,An 44 43,Ab 45 0]
def v6:LSO:=[Ak 46 45 44]
def vZ:LSO:=[Aq 47 2 43 45,Ap 48 2 47,Cb 8,Ai 2 8 48]
def vY:LSO:=[Ac 49 1 8,Ad 50 1 49,Ar 51 50,A0 52 51 100]
def vX:LSO:=[Af 6]
def vW:LSO:=[Ah 53 45 1,Aa 45 53]
def qM:LSO:=[Ac 54 4 3,Ad 55 1 54,An 56 55,Ab 57 0]
def qL:LSO:=[Ak 58 57 56]
def qK:LSO:=[Aq 59 5 55 57,Ap 60 5 59,AT 10,Ai 5 10 60]
def qJ:LSO:=[Ap 61 5 10,Aa 62 1,Aa 63 2,Ah 64 63 1,AD 65 55 61 62 64,Ay 66 65]
def qI:LSO:=[Af 6]
def qH:LSO:=[Ah 67 57 1,Aa 57 67]
def qG:LSO:=[Ax 6]
def mQ:aW:=⟨68,(.seq (.sreg wc [])
 (.seq (.sreg wb Cy)
 (.seq (.seq (.sreg wa Cv)
 (.cond (tm 41) (.seq (.sreg v8 [])
 .ret)
 .skip))
 (.seq (.seq (.sreg v7 Ct)
 (.block 0 (.loop (.seq (.sreg v6 [])
 (.seq (.cond (tm 46) .skip
 (.exit 0))
 (.seq (.block 1 (.seq (.sreg vZ Ch)
 (.seq (.sreg vY Ci)
 (.cond (tm 52) (.seq (.sreg vX [])
 .ret)
 .skip))))
 (.sreg vW Cg)))))))
 (.seq (.seq (.sreg qM Ct)
 (.block 2 (.loop (.seq (.sreg qL [])
 (.seq (.cond (tm 58) .skip
 (.exit 2))
 (.seq (.block 3 (.seq (.sreg qK Ch)
 (.seq (.sreg qJ Ck)
 (.cond (tm 66) (.seq (.sreg qI [])
 .ret)
 .skip))))
 (.sreg qH Cg)))))))
 (.seq (.sreg qG [])
 .ret)))))),[(.tmp 6)]⟩
attribute [push_cast] wc wb wa v8 v7 v6 vZ vY vX vW qM qL qK qJ qI qH qG
theorem Kg:bb Tryz.prog (fun _ _=>1) 55=some mQ.raw:=by kernel_rfl
def wi:LSO:=[A3 1 0,Af 2]
def wh:LSO:=[o1 3 (.alloc [(.int .i64 0)]),Bd 1 3 0]
def wg:LSO:=[Ap 4 5 1,o1 5 (.call 55 [(tm 4),(tm 3),(iv 1)]),Aa 2 5]
def mR:aW:=⟨6,(.seq (.sreg wi [])
 (.seq (.sreg wh [])
 (.seq (.sreg wg Ch)
 .ret))),[(.tmp 2)]⟩
attribute [push_cast] wi wh wg
theorem Kh:bb Tryz.prog (fun _ _=>1) 13=some mR.raw:=by kernel_rfl
def vV:LSO:=[Af 0]
def vU:LSO:=[o1 1 (.call 33 [(.av (.str [40,99,110,61,65,41]))]),Al 2 1 1,Aa 3 2,.grp none 3 true
 [og 4 3 true (.call 33 [(.av (.str [40,115,110,61,120,41]))]),AX 5 3 4 0]
 6 (tm 5),Aa 7 6,.grp none 7 true
 [og 8 7 true (.call 33 [(.av (.str [40,122,122,61,120,41]))]),AX 9 7 8 2]
 10 (tm 9),Aa 11 10,.grp none 11 true
 [og 12 11 true (.call 33 [(.av (.str [40,33,40,122,122,61,120,41,41]))]),AX 13 11 12 2]
 14 (tm 13),Aa 15 14,.grp none 15 true
 [og 16 15 true (.call 33 [(.av (.str [40,124,40,122,122,61,120,41,40,99,110,61,97,41,41]))]),AX 17 15 16 1]
 18 (tm 17),Aa 0 18]
def mP:aW:=⟨19,(.seq (.sreg vV [])
 (.seq (.sreg vU CB)
 .ret)),[(.tmp 0)]⟩
attribute [push_cast] vV vU
theorem Kf:bb Tryz.prog (fun _ _=>1) 10=some mP.raw:=by kernel_rfl
def Io:LSO:=[Ab 2 0]
def Im:LSO:=[Aa 6 0,Aj 7 76 6,Aa 5 7,As 8 5,Au 9 5,AT 3,Ai 5 3 8,Aa 4 9]
def Il:LSO:=[o1 10 (.call 58 []),Ap 11 5 3,o1 12 (.bslice false 1 1 [(.str [])] [(0,(1,(.av (.str [97]))))]),
 o1 13 (.build [(.str []),(.sl [] 0 (some 0))] [(0,(1,(.av (.str [99,110])))),(1,(1,(tm 12)))]),BO 14 13,AD 15 11 10 11 14,Aa 2 15]
def Hh:aW:=⟨16,(.seq (.sreg Io [])
 (.seq (.sreg Im CA)
 (.seq (.sdreg Il [(.read 0 0),(.read 0 0),(.read 0 0),.pure,(.read 0 0)] Cl)
 .ret))),[(.tmp 2)]⟩
attribute [push_cast] Io Im Il
theorem NC:bb Tryz.prog (fun _ _=>1) 33=some Hh.raw:=by kernel_rfl
def kr:LSO:=[A3 3 0,A3 4 1,A3 5 2,Af 6]
def kq:LSO:=[Ap 14 2 3,Ap 15 6 4,Aw 16 9 14 15,Aa 13 16,As 17 13,Au 18 13,o1 7 (.alloc [(.sl [] 0 (some 0))]),Ai 1 7 17,Aa 8 18]
def kp:LSO:=[Aa 19 8,Ay 20 19,Aa 21 20,og 22 21 false (.load true 5 (tm 5)),AI 23 21 13 22,AU 24 21 23,Cf 25 21 24]
def ko:LSO:=[o1 26 (.call 10 []),Aa 6 26]
def kn:LSO:=[o1 9 (.mv (.av (.func 14 [])))]
def kl:LSO:=[o1 27 (.mkfn 15 [(tm 3),(tm 7)]),Aa 10 27]
def kk:LSO:=[Ac 28 1 4,Ap 29 5 28,AT 11,Ai 5 11 29]
def kj:LSO:=[Ap 30 2 3,Ap 31 5 11,Ad 32 1 7,AD 33 11 30 31 32,Aa 12 33]
def ki:LSO:=[o1 34 (.call 10 []),Aa 35 34,.grp none 35 true
 [A6 36 35 2 3,Ae 37 35 9,Ae 38 35 9,A6 39 35 5 11,By 40 35 38 39,By 41 35 37 40,A4 42 35 1 7,og 43 35 true (.call 11 [(tm 36),(tm 41),(tm 42)]),Ae 44 35 12,AY 45 35 43 44]
 46 (tm 45),Aa 47 46,.grp none 47 true
 [Ae 48 47 10,A6 49 47 5 11,A6 50 47 5 5,Bb 51 47 48 0 49 50,AJ 52 47 16 51,Ae 53 47 10,Ae 54 47 9,A6 55 47 5 11,By 56 47 54 55,Ae 57 47 9,A6 58 47 5 5,By 59 47 57 58,
 Bb 60 47 53 1 56 59,AY 61 47 52 60]
 62 (tm 61),Aa 63 62,.grp none 63 true
 [Ae 64 63 10,A6 65 63 5 11,A6 66 63 5 5,Bb 67 63 64 1 65 66,AJ 68 63 16 67,Ae 69 63 10,Ae 70 63 9,A6 71 63 5 11,By 72 63 70 71,Ae 73 63 9,A6 74 63 5 5,By 75 63 73 74,
 Bb 76 63 69 0 72 75,AY 77 63 68 76]
 78 (tm 77),Aa 79 78,.grp none 79 true
 [Ae 80 79 10,A6 81 79 5 11,A6 82 79 5 11,Bb 83 79 80 0 81 82,Ae 84 79 12,AY 85 79 83 84]
 86 (tm 85),Aa 87 86,.grp none 87 true
 [Ae 88 87 10,A6 89 87 5 11,A6 90 87 5 11,Bb 91 87 88 1 89 90,Ae 92 87 12,AY 93 87 91 92]
 94 (tm 93),Aa 95 94,.grp none 95 true
 [Ae 96 95 10,A6 97 95 5 11,A6 98 95 5 5,Bb 99 95 96 0 97 98,Ae 100 95 10,A6 101 95 5 5,A6 102 95 5 11,Bb 103 95 100 0 101 102,AY 104 95 99 103]
 105 (tm 104),Aa 106 105,.grp none 106 true
 [Ae 107 106 10,A6 108 106 5 11,A6 109 106 5 5,Bb 110 106 107 1 108 109,Ae 111 106 10,A6 112 106 5 5,A6 113 106 5 11,Bb 114 106 111 1 112 113,AY 115 106 110 114]
 116 (tm 115),Aa 6 116]
def iw:aW:=⟨117,(.seq (.sreg kr [])
 (.seq (.sreg kq Cs)
 (.seq (.seq (.sreg kp Cl)
 (.cond (tm 25) (.seq (.sreg ko Cg)
 .ret)
 .skip))
 (.seq (.sreg kn [])
 (.seq (.sreg kl Cg)
 (.seq (.sreg kk Ch)
 (.seq (.sreg kj Cj)
 (.seq (.sdreg ki [(.read 0 0),.pure,(.read 0 0),.pure,.pure,(.read 0 0),(.read 0 0),(.read 0 0),(.read 0 0),(.read 0 0),.pure,.pure,.pure,.pure,.pure,(.read 0 0),(.read 0 0),(.read 0 0),(.read 0 0),.pure,.pure,(.read 0 0),(.read 0 0),.pure,(.read 0 0),(.read 0 0),(.read 0 0),.pure,.pure,.pure,.pure,(.read 0 0),(.read 0 0),(.read 0 0),(.read 0 0),.pure,.pure,(.read 0 0),(.read 0 0),.pure,(.read 0 0),(.read 0 0),(.read 0 0),.pure,.pure,.pure,.pure,(.read 0 0),(.read 0 0),(.read 0 0),.pure,.pure,.pure,.pure,.pure,(.read 0 0),(.read 0 0),(.read 0 0),.pure,.pure,.pure,.pure,.pure,(.read 0 0),(.read 0 0),(.read 0 0),.pure,(.read 0 0),(.read 0 0),(.read 0 0),.pure,.pure,.pure,.pure,(.read 0 0),(.read 0 0),(.read 0 0),.pure,(.read 0 0),(.read 0 0)] [true,false,false,false,false,false,false,false,false,false,false,false,false,false,false,false])
 .ret)))))))),[(.tmp 6)]⟩
attribute [push_cast] kr kq kp ko kn kl kk kj ki
theorem Dg:bb Tryz.prog (fun _ _=>1) 4=some iw.raw:=by kernel_rfl
def iX:LSO:=[A3 1 0,AT 2]
def iW:LSO:=[Ap 3 5 1,o1 4 (.bslice false 5 1 [(.int .i64 0),(.str []),(.str []),(.sl [] 0 (some 0)),(.sl [] 0 (some 0))] [(0,(5,(tm 3)))]),
 o1 5 (.build [(.int .i64 0),(.str []),(.str []),(.sl [] 0 (some 0)),(.sl [] 0 (some 0))] [(0,(1,(iv 2))),(4,(1,(tm 4)))]),Ai 5 2 5]
def ek:aW:=⟨6,(.seq (.sreg iX [])
 (.seq (.sreg iW [false,false,false])
 .ret)),[(.cell true 5 2)]⟩
attribute [push_cast] iX iW
theorem rM:bb Tryz.prog (fun _ _=>1) 14=some ek.raw:=by kernel_rfl
def iV:LSO:=[A3 6 1,A3 7 2,Ab 8 0]
def iU:LSO:=[Ap 9 2 3,Aa 10 0,Ap 11 5 6,Ap 12 5 7,
 o1 13 (.bslice false 5 2 [(.int .i64 0),(.str []),(.str []),(.sl [] 0 (some 0)),(.sl [] 0 (some 0)),(.int .i64 0),(.str []),(.str []),(.sl [] 0 (some 0)),(.sl [] 0 (some 0))] [(0,(5,(tm 11))),(5,(5,(tm 12)))]),
 o1 14 (.build [(.int .i64 0),(.str []),(.str []),(.sl [] 0 (some 0)),(.sl [] 0 (some 0))] [(0,(1,(tm 10))),(4,(1,(tm 13)))]),Ad 15 1 4,AD 16 11 9 14 15,Aa 8 16]
def eh:aW:=⟨17,(.seq (.sreg iV [])
 (.seq (.sreg iU C0)
 .ret)),[(.tmp 8)]⟩
attribute [push_cast] iV iU
theorem rL:bb Tryz.prog (fun _ _=>1) 15=some eh.raw:=by kernel_rfl
set_option maxHeartbeats 8000000
set_option maxRecDepth 100000
theorem Xn {f:FuncId} {caps:List AV} {vs:List (List UInt8)} {cap:Option Nat} {q:List UInt8→Bool} {L:List Blk} (hn:vs.length≤1100000) (hf:∀ (v:List UInt8) (K:AV→List Blk→Prop),v∈vs→K (.bool (q v)) L→ad Tryz.prog f (.str v::caps) L K)
   {K:AV→List Blk→Prop} (h1:vs.any q=false→K (.int .i64 (-1)) L) (h2:∀ k:Nat,vs.any q=true→K (.int .i64 k) L) :
   ad Tryz.prog 89 [.sl (vs.map AV.str) vs.length cap,.func f caps] L K:=by
 replace hf:=hid hf
 replace h1:=hid h1
 replace h2:=hid h2
 refine ae eP (by simp [cg]) ?_
 simp only [cg,ar]
 refine wk ?_
 refine am (fun n T' L'=>∃ k:Nat,n=vs.length - k∧k≤vs.length∧T'=[(8,.int .i64 (k:Int)),(7,.int .i64 vs.length),(0,.sl (vs.map AV.str) vs.length cap),(1,.func f caps)]∧L=L'∧(vs.drop k).any q=vs.any q) (CutS (b:=Nat.le_refl _)) ⟨0,rfl,Nat.zero_le _,rfl,rfl,rfl⟩ ?_
 rintro _ _ L' ⟨k,rfl,hk,rfl,e,hr⟩
 subst e
 replace hr:=hid hr
 by_cases hlt:k<vs.length
 · have g1:(k:Int)<(vs.length:Int):=by omega
   have g2:IntKind.i64.wrap ((k:Int)+1)=(k:Int)+1:=ac (by omega) (by omega)
   obtain ⟨v,hv⟩:∃ v,vs.getD k []=v:=⟨_,rfl⟩
   have g3:(vs.map AV.str).getD k .undef=.str v:=by rw [← hv];simp [hlt]
   have g4:k<(vs.map AV.str).length:=by simpa using hlt
   have hm:v∈vs:=by rw [← hv];simp [hlt]
   have hdr:vs.drop k=v::vs.drop (k+1):=by rw [List.drop_eq_getElem_cons hlt,← hv];simp [hlt]
   have hr2:=hr.out
   rw [hdr,List.any_cons] at hr2
   rcases hqk:q v with _|_
   · have kk1:Hid (∀ {K:AV→List Blk→Prop},K (.bool false) L→ad Tryz.prog f (.str v::caps) L K):=hid fun a=>hf.out v _ hm (by rw [hqk];exact a)
     rw [hqk,Bool.false_or] at hr2
     replace hr2:=hid hr2
     clear hqk hdr hr hv hm
     refine wk ?_
     exact ak _ _ _ (by omega) (CutL (b:=by simp)) ⟨k+1,rfl,hlt,rfl,rfl,hr2.out⟩
   · have kk1:Hid (∀ {K:AV→List Blk→Prop},K (.bool true) L→ad Tryz.prog f (.str v::caps) L K):=hid fun a=>hf.out v _ hm (by rw [hqk];exact a)
     rw [hqk,Bool.true_or] at hr2
     have h2':=hid (h2.out k hr2.symm)
     clear hqk hdr hr hv hm hr2
     refine wk ?_
     exact aa h2'.out
 · have hke:k=vs.length:=by omega
   subst hke
   have g1:¬ (vs.length:Int)<(vs.length:Int):=by omega
   have hr2:=hr.out
   rw [List.drop_length] at hr2
   have h1':=hid (h1.out hr2.symm)
   clear hr hr2
   refine wk ?_
   exact aa h1'.out
theorem U6 {f:FuncId} {caps:List AV} {vs:List (List UInt8)} {cap:Option Nat} {q:List UInt8→Bool} {L:List Blk} (hn:vs.length≤1100000) (hf:∀ (v:List UInt8) (K:AV→List Blk→Prop),v∈vs→K (.bool (q v)) L→ad Tryz.prog f (.str v::caps) L K)
   {K:AV→List Blk→Prop} (h:K (.bool (vs.any q)) L) :
   ad Tryz.prog 42 [.sl (vs.map AV.str) vs.length cap,.func f caps] L K:=by
 refine ae dP (by simp [bY]) ?_
 simp only [bY,ar]
 refine wk ?_
 refine Xn (q:=q) hn hf (fun e=>?_) (fun k e=>?_)
 · rw [e] at h
   replace h:=hid h
   refine sk ?_
   refine wk ?_
   exact aa h.out
 · rw [e] at h
   replace h:=hid h
   have g1:(0:Int)≤(k:Int):=by omega
   refine sk ?_
   refine wk ?_
   exact aa h.out
variable {L:List Blk} {K:AV→List Blk→Prop}
theorem Sg:∀ (f:Flt),Ro f→∀ {p:Nat} {n d:Int} {L:List Blk} {K:AV→List Blk→Prop},L[p]?=some (.cells [.int .i64 n])→0≤n→n≤60→1≤d→d≤65→(∀ (b:Bool) (m:Int),0≤m→m≤61→(b=true→m≤60∧Dp f)→K (.bool b) (L.set p (.cells [.int .i64 m]))) →
   ad Tryz.prog 55 [.agg (fA f),.ptr p 0,.int .i64 d] L K:=by
 refine OR fun k a v ps ks ih hrd p n d L K hL hn0 hn1 hd0 hd1 h=>?_
 simp only [FlB] at hrd
 obtain ⟨r1,r2,r3,r4,r5,r6⟩:=hrd
 replace r6:=hid (Nr r6)
 replace ih:=hid ih
 have hp:p<L.length:=(List.getElem?_eq_some_iff.1 hL).1
 have f1:∀ X:List Blk,(L++X)[p]?=some (.cells [.int .i64 n]):=fun X=>by rw [List.getElem?_append_left hp];exact hL
 have f2:∀ (X:List Blk) A,(L++X).set p A=L.set p A++X:=fun X A=>List.set_append_left _ _ hp
 have f3:∀ (X:List Blk) A,(L.set p A++X)[p]?=some A:=fun X A=>by rw [List.getElem?_append_left (by simpa using hp),List.getElem?_set,if_pos rfl,if_pos hp]
 have f4:∀ A:Blk,(L.set p A).length=L.length:=fun A=>by simp
 have f5:∀ (X:List Blk) A,(L.set p A++X)[L.length]?=X[0]?:=fun X A=>by
   rw [List.getElem?_append_right (by simp)];simp
 have f6:∀ (X:List Blk) A k,(L.set p A++X)[L.length+k]?=X[k]?:=fun X A k=>by
   rw [List.getElem?_append_right (by simp)];simp
 have f7:∀ (X:List Blk) A k C,(L.set p A++X).set (L.length+k) C=L.set p A++X.set k C:=fun X A k C=>by
   rw [List.set_append_right _ _ (by simp)];simp
 have f8:∀ (X:List Blk) A C,(L.set p A++X).set p C=L.set p C++X:=fun X A C=>by
   rw [List.set_append_left _ _ (by simpa using hp),List.set_set]
 have g0:IntKind.i64.wrap (n+1)=n+1:=ac (by omega) (by omega)
 have g9:IntKind.i64.wrap (d+1)=d+1:=ac (by omega) (by omega)
 have fin:∀ (X:List Blk) (b:Bool) (m:Int),K (.bool b) (L.set p (.cells [.int .i64 m]))→Fin L (.bool b) (L.set p (.cells [.int .i64 m])++X) K:=fun X b m hk =>
   jU (f4 _) (fun hh k hk'=>by
     rcases List.mem_or_eq_of_mem_set hk' with e|e
     · exact hh k e
     · subst e;rfl) rfl hk
 replace fin:=hid fin
 replace h:=hid h
 rw [ky]
 refine ae Kg (by simp [mQ]) ?_
 simp only [mQ,ar]
 obtain ⟨PS,hPS⟩:∃ P,P=b9 ps:=⟨_,rfl⟩
 obtain ⟨KS,hKS⟩:∃ P,P=fsA ks:=⟨_,rfl⟩
 rw [← hPS,← hKS]
 replace hPS:=hid hPS
 replace hKS:=hid hKS
 repeat' first
   | refine a8 ?_
   | (first|refine aP (by kernel_rfl) ?_|refine aB (by kernel_rfl) ?_|refine aC ?_|refine bj ?_|refine aX (fun _=>?_)|refine ay ?_|refine aS ?_)
     refine sm ?_
   | (first|refine aL (by kernel_rfl) ?_|refine aQ ?_|refine aR ?_|refine ba (ax ?_))
     refine sl ?_
   | exact aY
   | first|apply aZ|apply aM|apply a6|apply aN|apply a7|apply aO
   | refine aF ?_
   | first|refine aD rfl ?_|refine aE rfl ?_|refine ap rfl ?_ ?_|refine aH rfl (fun _=>?_) (fun _=>?_)|refine aG rfl (fun _=>?_) (fun _=>?_)
   | ((first|refine ao (fun _=>?_) (fun _=>?_)|refine aw (fun _=>?_) (fun _=>?_))<;>try refine sm ?_)
   | refine And.intro trivial ?_
   | refine And.intro (by omega) ?_
   | refine aI rfl (fun _=>?_) (fun _=>?_)
   | refine And.intro ?_ ?_
 · rename_i hx
   exact fin.out _ _ _ (h.out false (n+1) (by omega) (by omega) (fun e=>by cases e))
 rename_i hx
 have b1:n+1≤60∧d≤64∧v.length≤3000∧ps.length≤20∧ks.length≤60:=by
   refine ⟨?_,?_,?_,?_,?_⟩
   · exact Int.not_lt.1 fun e=>hx (.inl (.inl (.inl (.inl e))))
   · exact Int.not_lt.1 fun e=>hx (.inl (.inl (.inl (.inr e))))
   · have:=Int.not_lt.1 fun e=>hx (.inl (.inl (.inr e)));omega
   · have:=Int.not_lt.1 fun e=>hx (.inl (.inr e));omega
   · have:=Int.not_lt.1 fun e=>hx (.inr e);omega
 clear hx
 obtain ⟨b1,b2,b3,b4,b5⟩:=b1
 obtain ⟨B,hB⟩:∃ B,Blk.cells [AV.int IntKind.i64 k,AV.str a,AV.str v,AV.sl PS ps.length none,AV.sl KS ks.length none]=B:=⟨_,rfl⟩
 rw [hB]
 refine am (fun m T' L'=>∃ (i:Nat) (X:List Blk),m=ps.length - i∧i≤ps.length∧(∀ x∈ps.take i,x.2.length≤100)∧T'=[(45,.int .i64 (i:Int)),(44,.int .i64 ps.length),(43,.sl PS ps.length none),(3,.ptr L.length 0),(1,.ptr p 0),(2,.int .i64 d)]∧L'=L.set p (.cells [.int .i64 (n+1)])++(B::X)) (CutS (b:=by simp)) ⟨0,[],rfl,Nat.zero_le _,by simp,rfl,rfl⟩ ?_
 rintro _ _ _ ⟨i,X,rfl,hi,hI,rfl,rfl⟩
 by_cases hlt:i<ps.length
 · have g1:(i:Int)<(ps.length:Int):=by omega
   have g2:IntKind.i64.wrap ((i:Int)+1)=(i:Int)+1:=ac (by omega) (by omega)
   have e3:=LF hlt
   have e4:i * 2+2≤PS.length:=by rw [hPS.out,Mi];omega
   obtain ⟨⟨x,t⟩,ha⟩:∃ a,ps.getD i (0,[])=a:=⟨_,rfl⟩
   have htk:ps.take (i+1)=ps.take i++[(x,t)]:=by rw [List.take_succ_eq_append_getElem hlt,show ps[i]=(x,t) by rw [← ha];simp [hlt]]
   rw [ha,← hPS.out] at e3
   simp only [pcA] at e3
   replace hI:=hid hI
   clear ha
   replace htk:=hid htk
   clear hPS
   repeat' first
     | refine a8 ?_
     | (first|refine aP (by kernel_rfl) ?_|refine aB (by kernel_rfl) ?_|refine aC ?_|refine bj ?_|refine aX (fun _=>?_)|refine ay ?_|refine aS ?_)
       refine sm ?_
     | (first|refine aL (by kernel_rfl) ?_|refine aQ ?_|refine aR ?_|refine ba (ax ?_))
       refine sl ?_
     | exact aY
     | first|apply aZ|apply aM|apply a6|apply aN|apply a7|apply aO
     | refine aF ?_
     | first|refine aD rfl ?_|refine aE rfl ?_|refine ap rfl ?_ ?_|refine aH rfl (fun _=>?_) (fun _=>?_)|refine aG rfl (fun _=>?_) (fun _=>?_)
     | ((first|refine ao (fun _=>?_) (fun _=>?_)|refine aw (fun _=>?_) (fun _=>?_))<;>try refine sm ?_)
     | refine And.intro trivial ?_
     | refine And.intro (by omega) ?_
     | refine aI rfl (fun _=>?_) (fun _=>?_)
     | refine And.intro ?_ ?_
   · rename_i hx
     exact fin.out _ _ _ (h.out false (n+1) (by omega) (by omega) (fun e=>by cases e))
   · rename_i hx
     refine ak _ _ _ (by omega) (CutL (b:=by simp)) ⟨i+1,_,rfl,hlt,?_,rfl,rfl⟩
     rw [htk.out]
     intro y hy
     rcases List.mem_append.1 hy with e|e
     · exact hI.out y e
     · rw [List.mem_singleton] at e
       subst e
       have hx2:¬ (100:Int)<(t.length:Int):=hx
       show t.length≤100
       omega
 have hke:i=ps.length:=by omega
 subst hke
 have g1:¬ (ps.length:Int)<(ps.length:Int):=by omega
 rw [List.take_length] at hI
 replace hI:=hid hI
 subst hB
 refine wk ?_
 obtain ⟨B,hB⟩:∃ B,Blk.cells [AV.int IntKind.i64 k,AV.str a,AV.str v,AV.sl PS ps.length none,AV.sl KS ks.length none]=B:=⟨_,rfl⟩
 rw [hB]
 refine am (fun m T' L'=>∃ (i:Nat) (y:Int) (Y:List Blk),m=ks.length - i∧i≤ks.length∧0≤y∧y≤60∧X.length≤Y.length∧(∀ x∈ks.take i,Dp x)∧T'=[(57,.int .i64 (i:Int)),(56,.int .i64 ks.length),(55,.sl KS ks.length none),(3,.ptr L.length 0),(1,.ptr p 0),(2,.int .i64 d)]∧L'=L.set p (.cells [.int .i64 y])++(B::Y)) (CutS (b:=by simp)) ⟨0,n+1,_,rfl,Nat.zero_le _,by omega,b1,Nat.le_refl _,by simp,rfl,rfl⟩ ?_
 rintro _ _ _ ⟨i,y,Y,rfl,hi,hy0,hy1,hXY,hJ,rfl,rfl⟩
 by_cases hlt:i<ks.length
 · have g1:(i:Int)<(ks.length:Int):=by omega
   have g2:IntKind.i64.wrap ((i:Int)+1)=(i:Int)+1:=ac (by omega) (by omega)
   have e3:=Rc hlt
   have e4:i * 5+5≤KS.length:=by rw [hKS.out,OP];omega
   obtain ⟨q,hq⟩:∃ a,ks.getD i RK=a:=⟨_,rfl⟩
   have hqm:q∈ks:=by rw [← hq];simp [hlt]
   have htk:ks.take (i+1)=ks.take i++[q]:=by rw [List.take_succ_eq_append_getElem hlt,show ks[i]=q by rw [← hq];simp [hlt]]
   have hih:∀ {p:Nat} {n d:Int} {L:List Blk} {K:AV→List Blk→Prop},L[p]?=some (.cells [.int .i64 n])→0≤n→n≤60→1≤d→d≤65→(∀ (b:Bool) (m:Int),0≤m→m≤61→(b=true→m≤60∧Dp q)→K (.bool b) (L.set p (.cells [.int .i64 m])))→ad Tryz.prog 55 [.agg (fA q),.ptr p 0,.int .i64 d] L K:=fun a b c d e f=>ih.out q hqm (r6.out q hqm) a b c d e f
   replace hih:=@hid _ @hih
   rw [hq,← hKS.out] at e3
   obtain ⟨qk,qa,qv,qp,qs⟩:=q
   rw [ky] at e3
   simp only [ky] at hih
   replace hJ:=hid hJ
   replace htk:=hid htk
   clear hq hqm
   clear hKS
   refine wk ?_
   refine hih.out (f3 _ _) hy0 hy1 (by omega) (by omega) fun b m hm0 hm1 hb=>?_
   rw [f8]
   cases b with
   | false =>
     clear hb
     refine sk ?_
     refine wk ?_
     exact fin.out _ _ _ (h.out false m hm0 hm1 (fun e=>by cases e))
   | true =>
     obtain ⟨hb1,hb2⟩:=hb rfl
     replace hb2:=hid hb2
     clear hb
     refine sk ?_
     refine wk ?_
     refine ak _ _ _ (by omega) (CutL (b:=by simp;omega)) ⟨i+1,m,_,rfl,hlt,hm0,hb1,by simp;omega,?_,rfl,rfl⟩
     rw [htk.out]
     intro z hz
     rcases List.mem_append.1 hz with e|e
     · exact hJ.out z e
     · rw [List.mem_singleton] at e
       subst e
       exact hb2.out
 have hke:i=ks.length:=by omega
 subst hke
 have g1:¬ (ks.length:Int)<(ks.length:Int):=by omega
 rw [List.take_length] at hJ
 replace hJ:=hid hJ
 refine wk ?_
 refine fin.out _ _ _ (h.out true y hy0 (by omega) fun _=>⟨hy1,?_⟩)
 simp only [Dp,FlB]
 exact ⟨r1,b3,b4,hI.out,b5,O9 hJ.out⟩
theorem Ol {f:Flt} (hf:Ro f) (h:∀ b:Bool,(b=true→Dp f)→K (.bool b) L) :
   ad Tryz.prog 13 [.agg (fA f)] L K:=by
 obtain ⟨k,a,v,ps,ks⟩:=f
 have h2:=fun {p:Nat} {n d:Int} {L:List Blk} {K:AV→List Blk→Prop}=>Sg (.mk k a v ps ks) hf (p:=p) (n:=n) (d:=d) (L:=L) (K:=K)
 replace h:=hid h
 replace h2:=@hid _ @h2
 clear hf
 rw [ky] at *
 refine ae Kh (by simp [mR]) ?_
 simp only [mR,ar]
 refine wk ?_
 refine h2.out (show _=some (Blk.cells [AV.int .i64 0]) by simp) (by omega) (by omega) (by omega) (by omega) fun b m _ _ hb=>?_
 have h':=hid (h.out b fun e=>(hb e).2)
 simp only [List.set_append_right _ _ (Nat.le_add_right _ _),Nat.add_sub_cancel_left,List.set_cons_succ,List.set_cons_zero]
 clear hb
 refine sk ?_
 refine wk ?_
 exact ab rfl h'.out
end Go.Proofs.YtkkgmgmgcgiffaaGreatDoor.Av
set_option maxRecDepth 100000
namespace Go.Proofs.YtkkgmgmgcgiffaaGreatDoor.Av
open Go
def zQ:LSO:=[A3 2 0,A3 3 1,Am 4,Af 5]
def zP:LSO:=[Ap 12 2 2,Aj 13 30 12,Ay 14 13,Aa 15 14,AA 16 15 0 3,A8 17 15 1 16,AI 18 15 31 17,AU 19 15 18,Cf 20 15 19,Aa 21 20,AA 22 21 1 3,
 og 23 21 false (.load true 5 (tm 22)),AI 24 21 13 23,AU 25 21 24,Cf 26 21 25]
def zO:LSO:=[Am 4,Af 5]
def zN:LSO:=[Ac 27 0 3,Ad 28 1 27,An 29 28,Ab 30 0]
def zM:LSO:=[Ak 31 30 29]
def zL:LSO:=[Aq 32 2 28 30,Ap 33 2 32,B6 7,Ai 2 7 33]
def zK:LSO:=[Ac 34 1 7,Ad 35 1 34,An 36 35,Ab 37 0]
def zJ:LSO:=[Ak 38 37 36]
def zI:LSO:=[Aq 39 1 35 37,Ad 40 1 39,Aa 9 40]
def zH:LSO:=[Aa 41 9,Ar 42 41,A0 43 42 200]
def vT:LSO:=[Am 4,Af 5]
def vS:LSO:=[Ah 44 37 1,Aa 37 44]
def vR:LSO:=[Ah 45 30 1,Aa 30 45]
def vQ:LSO:=[Ap 47 2 2,Ac 48 0 3,Ad 49 1 48,Aw 50 32 47 49,Aa 46 50,As 51 46,Au 52 46,Aa 10 51,Aa 11 52]
def vP:LSO:=[Aa 53 10,Aa 54 11,Al 55 54 0,Aa 4 53,Aa 5 55]
def rK:aW:=⟨56,(.seq (.sreg zQ [])
 (.seq (.seq (.sreg zP [true,false,false,false,false,false,false,false,false,false,false,false,false,false,false])
 (.cond (tm 26) (.seq (.sreg zO [])
 .ret)
 .skip))
 (.seq (.seq (.sreg zN Ct)
 (.block 0 (.loop (.seq (.sreg zM [])
 (.seq (.cond (tm 31) .skip
 (.exit 0))
 (.seq (.block 1 (.seq (.sreg zL Ch)
 (.seq (.sreg zK Ct)
 (.block 2 (.loop (.seq (.sreg zJ [])
 (.seq (.cond (tm 38) .skip
 (.exit 2))
 (.seq (.block 3 (.seq (.sreg zI Ch)
 (.seq (.sreg zH Ch)
 (.cond (tm 43) (.seq (.sreg vT [])
 .ret)
 .skip))))
 (.sreg vS Cg)))))))))
 (.sreg vR Cg)))))))
 (.seq (.sreg vQ C3)
 (.seq (.sreg vP Co)
 .ret))))),[(.tmp 4),(.tmp 5)]⟩
attribute [push_cast] zQ zP zO zN zM zL zK zJ zI zH vT vS vR vQ vP
theorem Lw:bb Tryz.prog (fun _ _=>1) 9=some rK.raw:=by kernel_rfl
end Go.Proofs.YtkkgmgmgcgiffaaGreatDoor.Av
