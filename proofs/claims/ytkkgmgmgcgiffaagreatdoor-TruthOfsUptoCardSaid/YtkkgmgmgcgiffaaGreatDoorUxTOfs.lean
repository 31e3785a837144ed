/- Joined texts of the walk, made small by a program. -/
import Derived.Test.YtkkgmgmgcgiffaaGreatDoorUP4
import Derived.Test.YtkkgmgmgcgiffaaGreatDoorRows
import Derived.KernelRfl
import Derived.Test.YtkkgmgmgcgiffaaGreatDoorUS1
import Derived.Lib.ItoaNum
import Derived.Lib.ParseIntB
import Derived.Test.YtkkgmgmgcgiffaaGreatDoorUP5
import Derived.Test.YtkkgmgmgcgiffaaGreatDoorUR3
import Derived.Sort.Walk0
import Derived.Test.YtkkgmgmgcgiffaaGreatDoorUT2
import Derived.Test.YtkkgmgmgcgiffaaGreatDoorUT3
import Derived.Test.YtkkgmgmgcgiffaaGreatDoorUT4
import Derived.Test.YtkkgmgmgcgiffaaGreatDoorUE1
import Derived.Test.YtkkgmgmgcgiffaaGreatDoorUS2
import Derived.Test.YtkkgmgmgcgiffaaGreatDoorUR1
import Derived.Test.YtkkgmgmgcgiffaaGreatDoorUSyR
import Derived.Test.YtkkgmgmgcgiffaaGreatDoorUE4
import Derived.Test.YtkkgmgmgcgiffaaGreatDoorUT5
set_option linter.unusedSimpArgs false
set_option linter.unusedVariables false
set_option maxRecDepth 100000
namespace Go.Proofs.YtkkgmgmgcgiffaaGreatDoor.Av
open Go
variable {L:List Blk} {K:AV→List Blk→Prop}
def adn:LSO:=[Af 4]
def adm:LSO:=[Aa 5 0,Bz 6 5 0,o1 7 (.bin .eql (tm 6) (.av (.int .u8 45))),Aa 8 7,.grp none 8 true
 [Ae 9 8 1,og 10 8 true (.idxS (tm 9) (iv 0)),og 11 8 true (.bin .eql (tm 10) (.av (.int .u8 45)))]
 12 (tm 11)]
def adl:LSO:=[Aa 13 1,o1 14 (.slS (tm 13) (some (iv 1)) none),Aa 15 0,o1 16 (.slS (tm 15) (some (iv 1)) none),Aw 17 145 14 16,Aa 4 17]
def adk:LSO:=[Aa 18 0,Bz 19 18 0,o1 20 (.bin .eql (tm 19) (.av (.int .u8 45))),Aa 21 20,.grp none 21 false
 [Ag 22 21 1,BR 23 21 22 0,og 24 21 false (.bin .eql (tm 23) (.av (.int .u8 45)))]
 25 (tm 24)]
def adj:LSO:=[Aa 26 0,Bz 27 26 0,o1 28 (.bin .eql (tm 27) (.av (.int .u8 45))),Aa 4 28]
def adi:LSO:=[Aa 29 0,Ar 30 29,Aa 31 1,Ar 32 31,Ak 33 30 32,Aa 34 33,.grp none 34 false
 [Ag 35 34 0,Br 36 34 35,Ag 37 34 1,Br 38 34 37,og 39 34 false (.bin .eql (tm 36) (tm 38)),Ag 40 34 39,.grp (some (34,false)) 40 true
 [Ae 41 40 0,Ae 42 40 1,B5 43 40 41 42]
 44 (tm 43)]
 45 (tm 44),Aa 4 45]
def ahL:aW:=⟨46,(.seq (.sreg adn [])
 (.seq (.seq (.sreg adm Cj)
 (.cond (tm 12) (.seq (.sdreg adl [.pure,(.read 0 0),.pure,(.read 0 0)] Ck)
 .ret)
 .skip))
 (.seq (.seq (.sreg adk Cj)
 (.cond (tm 25) (.seq (.sreg adj Ci)
 .ret)
 .skip))
 (.seq (.sreg adi Cp)
 .ret)))),[(.tmp 4)]⟩
attribute [push_cast] adn adm adl adk adj adi
theorem ahK:bb Tryz.prog (fun _ _=>1) 145=some ahL.raw:=by kernel_rfl
def adx:LSO:=[Ab 6 0,Af 7]
def adw:LSO:=[Aa 13 0,Aa 14 1,Aw 15 51 13 14,Aa 12 15,As 16 12,Au 17 12,Aa 8 16,Aa 9 17]
def adv:LSO:=[Aa 19 0,Aa 20 2,Aw 21 51 19 20,Aa 18 21,As 22 18,Au 23 18,Aa 10 22,Aa 11 23]
def adu:LSO:=[Aa 24 9,Ay 25 24,Aa 26 25,.grp none 26 false
 [Ag 27 26 11,AU 28 26 27]
 29 (tm 28),Aa 30 29,.grp none 30 false
 [Ag 31 30 0,BE 32 30 31 5,Ag 33 30 32,.grp (some (30,false)) 33 true
 [Ae 34 33 0,og 35 33 true (.bin .leq (tm 34) (iv 7))]
 36 (tm 35)]
 37 (tm 36)]
def adt:LSO:=[Ab 6 0,Af 7]
def ads:LSO:=[Aa 38 8,Aa 39 10,AE 40 38 39]
def adr:LSO:=[Ab 6 0,Ax 7]
def adq:LSO:=[Aa 41 0,Al 42 41 4,Aa 43 42,.grp none 43 true
 [Ae 44 43 8,Ae 45 43 10,BM 46 43 145 44 45]
 47 (tm 46),Aa 48 47,.grp none 48 false
 [Ag 49 48 0,Cc 50 48 49 4,Ag 51 48 50,.grp (some (48,false)) 51 true
 [Ae 52 51 8,Ae 53 51 10,B5 54 51 52 53]
 55 (tm 54)]
 56 (tm 55)]
def adp:LSO:=[Ab 6 (-1),Ax 7]
def ado:LSO:=[Ab 6 1,Ax 7]
def ahN:aW:=⟨57,(.seq (.sreg adx [])
 (.seq (.sreg adw Cs)
 (.seq (.sreg adv Cs)
 (.seq (.seq (.sreg adu Ck)
 (.cond (tm 37) (.seq (.sreg adt [])
 .ret)
 .skip))
 (.seq (.seq (.sreg ads Ch)
 (.cond (tm 40) (.seq (.sreg adr [])
 .ret)
 .skip))
 (.seq (.seq (.sreg adq Ck)
 (.cond (tm 56) (.seq (.sreg adp [])
 .ret)
 .skip))
 (.seq (.sreg ado [])
 .ret))))))),[(.tmp 6),(.tmp 7)]⟩
attribute [push_cast] adx adw adv adu adt ads adr adq adp ado
theorem ahM:bb Tryz.prog (fun _ _=>1) 103=some ahN.raw:=by kernel_rfl
theorem afR:∀ (k u:Nat),u<10 ^ (k+1)→Lib.nDigits u≤k+1
 | 0,u,h=>by rw [Lib.nDigits_small (by simpa using h)];exact Nat.le_refl _
 | k+1,u,h=>by
   by_cases h10:u<10
   · rw [Lib.nDigits_small h10];omega
   · rw [Lib.nDigits_big h10]
     have:=afR k (u / 10) (by rw [Nat.pow_succ] at h;omega)
     omega
theorem aga {m:Int} (hm:I64 m):(Lib.itoa m).length≤20:=by
 obtain ⟨h0,h1⟩:=hm
 unfold Lib.itoa
 by_cases hn:m<0
 · rw [if_pos hn,List.length_cons,Lib.decDigits_length]
   have:=afR 18 m.natAbs (by omega)
   omega
 · rw [if_neg hn,Lib.decDigits_length]
   have:=afR 18 m.toNat (by omega)
   omega
theorem afP {x:List UInt8} (h:k8 x=true):Lib.itoa (K7 x)=x:=by
 unfold k8 at h
 unfold K7
 split at h
 · rename_i n hn
   rw [hn]
   simpa using h
 · cases h
def aih (a b:List UInt8):Bool:=decide (a.length<b.length) || (decide (a.length=b.length) && Op.bytesLess a b)
def aii (a b:List UInt8):Bool:=if a.getD 0 0=45∧b.getD 0 0=45 then aih (b.drop 1) (a.drop 1) else if a.getD 0 0=45∨b.getD 0 0=45 then decide (a.getD 0 0=45) else aih a b
theorem aig (u v:Nat):aih (Lib.decDigits u) (Lib.decDigits v)=decide (u<v):=by
 obtain ⟨a1,a2,a3,a4⟩:=Wk u
 obtain ⟨b1,b2,b3,b4⟩:=Wk v
 have lens:∀ {u v:Nat},u<10 ^ (Lib.decDigits u).length→(1≤v→10 ^ ((Lib.decDigits v).length - 1)≤v)→(Lib.decDigits u).length<(Lib.decDigits v).length→u<v:=fun {u v} h1 h2 h3=>by
   have hv:1≤v:=by
     rcases Nat.eq_zero_or_pos v with e|e
     · subst e
       have e1:(Lib.decDigits 0).length=1:=by rw [Lib.decDigits,dif_pos (by decide)];rfl
       obtain ⟨c,r,e2,_⟩:=qV u
       rw [e1,e2] at h3
       simp at h3
     · exact e
   have h4:10 ^ (Lib.decDigits u).length≤10 ^ ((Lib.decDigits v).length - 1):=Nat.pow_le_pow_right (by decide) (by omega)
   have:=h2 hv
   omega
 unfold aih
 rcases Nat.lt_trichotomy (Lib.decDigits u).length (Lib.decDigits v).length with h|h|h
 · rw [decide_eq_true h,Bool.true_or,decide_eq_true (lens a3 b4 h)]
 · rw [decide_eq_false (by omega),decide_eq_true h,Bool.true_and,Bool.false_or,bytesLess_eq]
   have:=JO _ _ a2 b2 h
   rw [a1,b1] at this
   simp only [decide_eq_decide];exact this
 · have:=lens b3 a4 h
   rw [decide_eq_false (by omega),decide_eq_false (by omega),decide_eq_false (by omega)];rfl
theorem aif (m n:Int):aii (Lib.itoa m) (Lib.itoa n)=decide (m<n):=by
 have pos:∀ k:Int,¬ k<0→(Lib.itoa k).getD 0 0≠45:=fun k hk h=>by
   rw [Lib.itoa,if_neg hk] at h
   obtain ⟨c,r,e,c1,_⟩:=qV k.toNat
   rw [e] at h
   simp only [List.getD_cons_zero] at h
   rw [h] at c1
   exact absurd c1 (by decide)
 have neg:∀ k:Int,k<0→(Lib.itoa k).getD 0 0=45∧(Lib.itoa k).drop 1=Lib.decDigits k.natAbs:=fun k hk=>by
   rw [Lib.itoa,if_pos hk];exact ⟨rfl,rfl⟩
 unfold aii
 by_cases h1:m<0
 · obtain ⟨a1,a2⟩:=neg m h1
   by_cases h2:n<0
   · obtain ⟨b1,b2⟩:=neg n h2
     rw [if_pos ⟨a1,b1⟩,a2,b2,aig]
     simp only [decide_eq_decide];omega
   · rw [if_neg (fun e=>pos n h2 e.2),if_pos (.inl a1),decide_eq_true a1,decide_eq_true (by omega)]
 · have a1:=pos m h1
   by_cases h2:n<0
   · obtain ⟨b1,b2⟩:=neg n h2
     rw [if_neg (fun e=>a1 e.1),if_pos (.inr b1),decide_eq_false a1,decide_eq_false (by omega)]
   · rw [if_neg (fun e=>a1 e.1),if_neg (fun e=>e.elim a1 (pos n h2)),Lib.itoa,if_neg h1,Lib.itoa,if_neg h2,aig]
     simp only [decide_eq_decide];omega
def ahb (v:Int):Int→List Int→Int
 | n,[]=>n
 | n,x::r=>if x=v then ahb v (n+1) r else ahb v n r
def ag7 (l:List Int) (v:Int):Int:=ahb v 0 l
def Zv (l:List Int):Int:=if 0<ag7 l 0 then 0 else if ag7 l 1<l.length then 2 else 1
def Y4 (l:List Int):Int:=if 0<ag7 l 1 then 1 else if ag7 l 0<l.length then 2 else 0
def Y7 (v:Int):Int:=if v=0∨v=1 then 1 - v else 2
theorem aha (v:Int):∀ (l:List Int) (n:Int),ahb v n l=n+ag7 l v
 | [],n=>by simp [ahb,ag7]
 | x::r,n=>by
   simp only [ahb,ag7]
   split
   · rw [aha v r (n+1),aha v r (0+1)];omega
   · rw [aha v r n,aha v r 0];omega
theorem ag6 (v x:Int) (r:List Int):ag7 (x::r) v=(if x=v then 1 else 0)+ag7 r v:=by
 simp only [ag7,ahb]
 split
 · rw [aha];simp [ag7]
 · simp
theorem ag5 (v:Int):∀ (l:List Int),0≤ag7 l v∧ag7 l v≤l.length
 | []=>by simp [ag7,ahb]
 | x::r=>by
   have:=ag5 v r
   rw [ag6,List.length_cons]
   split<;>omega
theorem aie:∀ (l:List Int) (o:Int),Nm o l=if 0<ag7 l 0 then 0 else if ag7 l 1<l.length then 2 else o
 | [],o=>by simp [Nm,ag7,ahb]
 | x::r,o=>by
   have h0:=ag5 0 r
   have h1:=ag5 1 r
   have hl:((x::r).length:Int)=r.length+1:=by simp
   simp only [Nm]
   rw [ag6,ag6,hl]
   by_cases e0:x=0
   · rw [if_pos e0,if_pos e0,if_pos (by omega)]
   · by_cases e1:x=1
     · rw [if_neg e0,if_pos e1,if_neg e0,if_pos e1,aie r o]
       by_cases p:0<ag7 r 0
       · rw [if_pos p,if_pos (show 0<0+ag7 r 0 by omega)]
       · rw [if_neg p,if_neg (show ¬ 0<0+ag7 r 0 by omega)]
         by_cases q:ag7 r 1<r.length
         · rw [if_pos q,if_pos (show 1+ag7 r 1<(r.length:Int)+1 by omega)]
         · rw [if_neg q,if_neg (show ¬ 1+ag7 r 1<(r.length:Int)+1 by omega)]
     · rw [if_neg e0,if_neg e1,if_neg e0,if_neg e1,aie r 2]
       by_cases p:0<ag7 r 0
       · rw [if_pos p,if_pos (show 0<0+ag7 r 0 by omega)]
       · rw [if_neg p,if_neg (show ¬ 0<0+ag7 r 0 by omega),if_pos (show 0+ag7 r 1<(r.length:Int)+1 by omega)]
         split<;>rfl
theorem aid (l:List Int):rQ l=Zv l:=by
 simp only [rQ,Zv,aie]
theorem ag4:∀ (l:List Int),ag7 (l.map il) 0=ag7 l 1
 | []=>rfl
 | x::r=>by
   rw [List.map_cons,ag6,ag6,ag4 r]
   congr 1
   simp only [il]
   split<;>(try split)<;>(try split)<;>first|rfl|omega
theorem ag3:∀ (l:List Int),ag7 (l.map il) 1=ag7 l 0
 | []=>rfl
 | x::r=>by
   rw [List.map_cons,ag6,ag6,ag3 r]
   congr 1
   simp only [il]
   split<;>(try split)<;>(try split)<;>first|rfl|omega
theorem afF (l:List Int):orV l=Y4 l:=by
 simp only [orV,aid,Zv,Y4,ag4,ag3,List.length_map,il]
 split<;>(try split)<;>(try split)<;>first|rfl|omega
theorem afQ (v:Int):il v=Y7 v:=by
 simp only [il,Y7]
 split<;>(try split)<;>(try split)<;>omega
end Go.Proofs.YtkkgmgmgcgiffaaGreatDoor.Av
set_option maxRecDepth 100000
namespace Go.Proofs.YtkkgmgmgcgiffaaGreatDoor.Av
open Go
variable {L:List Blk} {K:AV→List Blk→Prop}
def abw:LSO:=[A3 3 0,A3 4 1,Ab 6 0]
def abv:LSO:=[Ac 15 0 4,Ad 16 1 15,AZ 17 16 0,Aa 18 17,.grp none 18 true
 [A7 19 18 0 4,A4 20 18 1 19,Bp 21 18 20 3]
 22 (tm 21)]
def abj:LSO:=[Am 7]
def aa8:LSO:=[Ac 23 4 4,Ad 24 1 23,An 25 24,Ab 26 0]
def aa4:LSO:=[Ak 27 26 25]
def aa3:LSO:=[Aa 28 26,Aa 8 28]
def aa2:List (an×Kd) :=
 [Bc 29 7,od 30 (.load true 2 (tm 3)) (.read 0 0),AL 31 4 4,AM 32 1 31 0 0,Bc 33 8,od 34 (.iaddr 5 (tm 32) (tm 33)) (.read 0 0),od 35 (.load true 5 (tm 34)) (.read 0 0),Bc 36 2,
 od 37 (.call 12 [(tm 30),(tm 35),(tm 36)]) (.read 0 0),od 38 (.bslice false 1 1 [(.int .i64 0)] [(0,(1,(tm 37)))]) (.read 0 0)]
def aa1:List an :=
 [⟨(some 39),(.app 1 1 8 [(.int .i64 0)] (tm 29) (tm 38)),none⟩,⟨(some 7),(.mv (tm 39)),none⟩]
def aa0:LSO:=[Ah 40 26 1,Aa 26 40]
def aaZ:LSO:=[Ac 41 0 4,Ad 42 1 41,Al 43 42 0]
def aaY:LSO:=[Aa 44 7,Aj 45 47 44,Aa 6 45]
def abu:LSO:=[Ac 46 0 4,Ad 47 1 46,Al 48 47 1]
def abt:LSO:=[Aa 49 7,Aj 50 48 49,Aa 6 50]
def abr:LSO:=[Aa 51 7,An 52 51,AF 53 52 1]
def abq:LSO:=[Ab 6 2]
def abp:LSO:=[Aa 54 7,o1 55 (.iaddr 1 (tm 54) (iv 0)),Ad 56 1 55,Aj 57 49 56,Aa 6 57]
def abo:LSO:=[Ac 58 0 3,Ad 59 1 58,Ac 60 1 4,Ad 61 1 60,Aw 62 50 59 61,Aa 9 62]
def abn:LSO:=[Aa 63 9,AB 64 63 0,Aa 65 64,.grp none 65 false
 [AA 66 65 0 4,A8 67 65 1 66,BA 68 65 67 0]
 69 (tm 68),Aa 70 69,.grp none 70 false
 [AA 71 70 0 4,A8 72 70 1 71,A5 73 70 72 8]
 74 (tm 73)]
def abm:LSO:=[Ab 6 2]
def abl:LSO:=[Ac 75 0 3,Ad 76 1 75,Aa 77 9,Aq 78 4 76 77,Ac 79 1 78,Ad 80 1 79,Aa 10 80]
def abk:LSO:=[Aa 82 10,Ac 83 2 4,Ad 84 1 83,Aw 85 51 82 84,Aa 81 85,As 86 81,Au 87 81,Aa 11 86,Aa 12 87]
def abi:LSO:=[Ac 88 0 4,Ad 89 1 88,Al 90 89 4]
def abh:LSO:=[Aa 91 10,o1 92 (.bin .leq (tm 91) (iv 3)),Aa 93 92,.grp none 93 true
 [A7 94 93 3 4,A4 95 93 1 94,
 og 96 93 true (.build [(.int .i64 0),(.str []),(.str []),(.sl [] 0 (some 0)),(.sl [] 0 (some 0))] [(0,(1,(iv 4))),(1,(1,(.av (.str [97])))),(3,(1,(tm 95)))]),AJ 97 93 52 96,
 AX 98 93 97 0]
 99 (tm 98),Aa 12 99]
def abg:LSO:=[Ac 100 0 4,Ad 101 1 100,Al 102 101 5,Aa 103 102,.grp none 103 false
 [AA 104 103 0 4,A8 105 103 1 104,AC 106 103 105 6]
 107 (tm 106)]
def abf:LSO:=[Aa 108 12,Aa 109 108,.grp none 109 true
 [Ae 110 109 10,Bp 111 109 110 5,Ae 112 109 111,.grp (some (109,true)) 112 false
 [Ag 113 112 10,A5 114 112 113 7]
 115 (tm 114)]
 116 (tm 115),Aa 12 116]
def abe:LSO:=[Ac 117 0 4,Ad 118 1 117,AF 119 118 7,Aa 120 119,.grp none 120 true
 [Ae 121 120 12,Bv 122 120 121]
 123 (tm 122)]
def abd:LSO:=[Ab 6 2]
def abc:LSO:=[Aa 124 2,Ac 125 1 4,Ad 126 1 125,Aw 127 53 124 126,An 128 127,Ab 129 0]
def abb:LSO:=[Ak 130 129 128]
def aba:LSO:=[Aq 131 1 127 129,Ad 132 1 131,Aa 14 132]
def aa9:LSO:=[Ap 133 5 4,Aa 134 10,Aa 135 14,AD 136 54 133 134 135]
def aa7:LSO:=[Ab 6 1]
def aa6:LSO:=[Ah 137 129 1,Aa 129 137]
def aa5:LSO:=[Ab 6 0]
def aht:aW:=⟨138,(.seq (.sreg abw [])
 (.seq (.seq (.sreg abv Cj)
 (.cond (tm 22) (.seq (.sreg abj [])
 (.seq (.seq (.sreg aa8 Cw)
 (.block 0 (.loop (.seq (.sreg aa4 [])
 (.seq (.cond (tm 27) .skip
 (.exit 0))
 (.seq (.block 1 (.seq (.sreg aa3 Cg)
 (.dregM aa2 aa1 Cv)))
 (.sreg aa0 Cg)))))))
 (.seq (.seq (.sreg aaZ Ch)
 (.cond (tm 43) (.seq (.sreg aaY Ch)
 .ret)
 .skip))
 (.seq (.seq (.sreg abu Ch)
 (.cond (tm 48) (.seq (.sreg abt Ch)
 .ret)
 .skip))
 (.seq (.seq (.sreg abr Ch)
 (.cond (tm 53) (.seq (.sreg abq [])
 .ret)
 .skip))
 (.seq (.sreg abp Cj)
 .ret))))))
 .skip))
 (.seq (.sreg abo Ck)
 (.seq (.seq (.sreg abn Ck)
 (.cond (tm 74) (.seq (.sreg abm [])
 .ret)
 .skip))
 (.seq (.sreg abl Cl)
 (.seq (.sreg abk C0)
 (.seq (.seq (.sreg abi Ch)
 (.cond (tm 90) (.sreg abh Cj)
 .skip))
 (.seq (.seq (.sreg abg Cj)
 (.cond (tm 107) (.sreg abf Ci)
 .skip))
 (.seq (.seq (.sreg abe Cj)
 (.cond (tm 123) (.seq (.sreg abd [])
 .ret)
 .skip))
 (.seq (.seq (.sreg abc [true,true,true,false,false,false])
 (.block 2 (.loop (.seq (.sreg abb [])
 (.seq (.cond (tm 130) .skip
 (.exit 2))
 (.seq (.block 3 (.seq (.sreg aba Ch)
 (.seq (.sreg aa9 Ci)
 (.cond (tm 136) (.seq (.sreg aa7 [])
 .ret)
 .skip))))
 (.sreg aa6 Cg)))))))
 (.seq (.sreg aa5 [])
 .ret))))))))))),[(.tmp 6)]⟩
attribute [push_cast] abw abv abj aa8 aa4 aa3 aa2 aa1 aa0 aaZ aaY abu abt abr abq abp abo abn abm abl abk abi abh abg abf abe abd abc abb aba aa9 aa7 aa6 aa5
theorem ahs:bb Tryz.prog (fun _ _=>1) 12=some aht.raw:=by kernel_rfl
def aaI:LSO:=[A3 3 0,Af 6]
def aaH:LSO:=[Ac 15 0 3,Ad 16 1 15,Al 17 16 4]
def aaG:LSO:=[Aa 19 1,Aa 20 2,Ac 21 3 3,Ad 22 1 21,AD 23 102 19 20 22,Aa 18 23,As 24 18,Au 25 18,Aa 7 24,Aa 8 25]
def aaF:LSO:=[Aa 26 7,Aa 6 26]
def aaE:LSO:=[Ac 27 0 3,Ad 28 1 27,Al 29 28 3,Aa 30 29,.grp none 30 false
 [AA 31 30 0 3,A8 32 30 1 31,AC 33 30 32 8]
 34 (tm 33)]
def aaD:LSO:=[Aa 36 1,Aa 37 2,Aw 38 51 36 37,Aa 35 38,As 39 35,Au 40 35,Aa 9 39,Aa 10 40]
def aaC:LSO:=[Aa 42 1,Ac 43 2 3,Ad 44 1 43,Aw 45 51 42 44,Aa 41 45,As 46 41,Au 47 41,Aa 11 46,Aa 12 47]
def aaB:LSO:=[Aa 48 9,Aa 49 11,AE 50 48 49,Aa 6 50]
def aaA:LSO:=[Aa 52 1,Aa 53 2,Ac 54 2 3,Ad 55 1 54,AD 56 103 52 53 55,Aa 51 56,As 57 51,Au 58 51,Aa 13 57,Aa 14 58]
def aaz:LSO:=[Ac 59 0 3,Ad 60 1 59,Al 61 60 7,Aa 62 61,.grp none 62 false
 [AA 63 62 0 3,A8 64 62 1 63,AC 65 62 64 5,Ag 66 62 65,.grp (some (62,false)) 66 true
 [Ae 67 66 13,og 68 66 true (.bin .geq (tm 67) (iv 0))]
 69 (tm 68)]
 70 (tm 69),Aa 71 70,.grp none 71 false
 [AA 72 71 0 3,A8 73 71 1 72,AC 74 71 73 6,Ag 75 71 74,.grp (some (71,false)) 75 true
 [Ae 76 75 13,og 77 75 true (.bin .leq (tm 76) (iv 0))]
 78 (tm 77)]
 79 (tm 78),Aa 6 79]
def ahn:aW:=⟨80,(.seq (.sreg aaI [])
 (.seq (.seq (.sreg aaH Ch)
 (.cond (tm 17) (.seq (.sreg aaG [false,true,false,false,false,false,false,false,false,false])
 (.seq (.sreg aaF Cg)
 .ret))
 .skip))
 (.seq (.seq (.sreg aaE Cj)
 (.cond (tm 34) (.seq (.sreg aaD [false,true,false,false,false,false,false,false])
 (.seq (.sreg aaC [false,true,false,false,false,false,false,false,false])
 (.seq (.sreg aaB Ci)
 .ret)))
 .skip))
 (.seq (.sreg aaA [false,true,false,false,false,false,false,false,false,false])
 (.seq (.sreg aaz Cp)
 .ret))))),[(.tmp 6)]⟩
attribute [push_cast] aaI aaH aaG aaF aaE aaD aaC aaB aaA aaz
theorem ahm:bb Tryz.prog (fun _ _=>1) 54=some ahn.raw:=by kernel_rfl
def adO:LSO:=[A3 2 0,A3 3 1,Af 4]
def adN:LSO:=[Ap 8 2 2,Ap 9 6 3,Aw 10 9 8 9,Aa 7 10,As 11 7,Au 12 7,Aa 5 11,Aa 6 12]
def adM:LSO:=[Aa 13 6,Ay 14 13]
def adL:LSO:=[o1 15 (.call 10 []),Aa 4 15]
def adK:LSO:=[o1 16 (.call 10 []),Aa 17 16,.grp none 17 true
 [A6 18 17 2 2,A7 19 17 1 3,A6 20 17 5 19,Ae 21 17 5,og 22 17 true (.call 11 [(tm 18),(tm 20),(tm 21)]),A6 23 17 2 2,A7 24 17 1 3,A6 25 17 5 24,Ae 26 17 5,
 og 27 17 true (.call 12 [(tm 23),(tm 25),(tm 26)]),AY 28 17 22 27]
 29 (tm 28),Aa 4 29]
def ahT:aW:=⟨30,(.seq (.sreg adO [])
 (.seq (.sreg adN Cs)
 (.seq (.seq (.sreg adM Cg)
 (.cond (tm 14) (.seq (.sreg adL Cg)
 .ret)
 .skip))
 (.seq (.sdreg adK [(.read 0 0),.pure,(.read 0 0),.pure,(.read 0 0),.pure,(.read 0 0),(.read 0 0),.pure,(.read 0 0),.pure] Ci)
 .ret)))),[(.tmp 4)]⟩
attribute [push_cast] adO adN adM adL adK
theorem ahS:bb Tryz.prog (fun _ _=>1) 3=some ahT.raw:=by kernel_rfl
end Go.Proofs.YtkkgmgmgcgiffaaGreatDoor.Av
set_option maxRecDepth 100000
namespace Go.Proofs.YtkkgmgmgcgiffaaGreatDoor.Av
open Go
variable {L:List Blk} {K:AV→List Blk→Prop}
def aaR:LSO:=[Ab 4 0]
def aaQ:LSO:=[Ab 5 0]
def aaP:LSO:=[Aa 8 0,An 9 8,Ab 10 0]
def aaO:LSO:=[Ak 11 10 9]
def aaN:LSO:=[Aq 12 1 8 10,Ad 13 1 12,Aa 7 13]
def aaM:LSO:=[Aa 14 7,Aa 15 1,AE 16 14 15]
def aaL:LSO:=[Aa 17 5,Ah 18 17 1,Aa 5 18]
def aaK:LSO:=[Ah 19 10 1,Aa 10 19]
def aaJ:LSO:=[Aa 20 5,Aa 4 20]
def ahp:aW:=⟨21,(.seq (.sreg aaR [])
 (.seq (.sreg aaQ [])
 (.seq (.seq (.sreg aaP [])
 (.block 0 (.loop (.seq (.sreg aaO [])
 (.seq (.cond (tm 11) .skip
 (.exit 0))
 (.seq (.block 1 (.seq (.sreg aaN Ch)
 (.seq (.sreg aaM Ch)
 (.cond (tm 16) (.sreg aaL Ch)
 .skip))))
 (.sreg aaK Cg)))))))
 (.seq (.sreg aaJ Cg)
 .ret)))),[(.tmp 4)]⟩
attribute [push_cast] aaR aaQ aaP aaO aaN aaM aaL aaK aaJ
theorem aho:bb Tryz.prog (fun _ _=>1) 95=some ahp.raw:=by kernel_rfl
def abG:LSO:=[Ab 2 0]
def abF:LSO:=[Aa 3 0,AN 4 95 3 0,A0 5 4 0]
def abE:LSO:=[Ab 2 0]
def abD:LSO:=[Aa 6 0,AN 7 95 6 1,Aa 8 0,An 9 8,Ak 10 7 9]
def abC:LSO:=[Ab 2 2]
def abB:LSO:=[Ab 2 1]
def ahx:aW:=⟨11,(.seq (.sreg abG [])
 (.seq (.seq (.sreg abF Ch)
 (.cond (tm 5) (.seq (.sreg abE [])
 .ret)
 .skip))
 (.seq (.seq (.sreg abD Cj)
 (.cond (tm 10) (.seq (.sreg abC [])
 .ret)
 .skip))
 (.seq (.sreg abB [])
 .ret)))),[(.tmp 2)]⟩
attribute [push_cast] abG abF abE abD abC abB
theorem ahw:bb Tryz.prog (fun _ _=>1) 47=some ahx.raw:=by kernel_rfl
def aaX:LSO:=[Ab 2 0]
def aaW:LSO:=[Aa 3 0,AN 4 95 3 1,A0 5 4 0]
def aaV:LSO:=[Ab 2 1]
def aaU:LSO:=[Aa 6 0,AN 7 95 6 0,Aa 8 0,An 9 8,Ak 10 7 9]
def aaT:LSO:=[Ab 2 2]
def aaS:LSO:=[Ab 2 0]
def ahr:aW:=⟨11,(.seq (.sreg aaX [])
 (.seq (.seq (.sreg aaW Ch)
 (.cond (tm 5) (.seq (.sreg aaV [])
 .ret)
 .skip))
 (.seq (.seq (.sreg aaU Cj)
 (.cond (tm 10) (.seq (.sreg aaT [])
 .ret)
 .skip))
 (.seq (.sreg aaS [])
 .ret)))),[(.tmp 2)]⟩
attribute [push_cast] aaX aaW aaV aaU aaT aaS
theorem ahq:bb Tryz.prog (fun _ _=>1) 48=some ahr.raw:=by kernel_rfl
def abA:LSO:=[Ab 2 0]
def abz:LSO:=[Aa 3 0,Al 4 3 0,Aa 5 4,.grp none 5 false
 [Ag 6 5 0,AC 7 5 6 1]
 8 (tm 7)]
def aby:LSO:=[Aa 9 0,o1 10 (.bin .sub (iv 1) (tm 9)),Aa 2 10]
def abx:LSO:=[Ab 2 2]
def ahv:aW:=⟨11,(.seq (.sreg abA [])
 (.seq (.seq (.sreg abz Ci)
 (.cond (tm 8) (.seq (.sreg aby Ch)
 .ret)
 .skip))
 (.seq (.sreg abx [])
 .ret))),[(.tmp 2)]⟩
attribute [push_cast] abA abz aby abx
theorem ahu:bb Tryz.prog (fun _ _=>1) 49=some ahv.raw:=by kernel_rfl
set_option maxHeartbeats 8000000
set_option maxRecDepth 100000
theorem Y6 {v:Int} (h:K (.int .i64 (Y7 v)) L):ad Tryz.prog 49 [.int .i64 v] L K:=by
 replace h:=hid h
 refine ae ahu (by simp [ahv]) ?_
 simp only [ahv,ar]
 by_cases h0:v=0
 · subst h0
   repeat' first
     | refine a8 ?_
     | (first|refine aP (by kernel_rfl) ?_|refine aB (by kernel_rfl) ?_|refine aC ?_|refine bj ?_|refine aX (fun _=>?_)|refine ay ?_|refine aS ?_)
       simp (config:={ maxSteps:=2000000 }) only [Kon,push_cast,reduceIte,Nat.reduceEqDiff,Nat.reduceAdd,Nat.reduceMul,Nat.reduceSub,Nat.reduceLT,Nat.reduceLeDiff,Int.reduceLT,Int.reduceLE,Int.reduceAdd,Int.reduceSub,Int.reduceNeg,Int.reduceToNat,Int.reduceEq,reduceCtorEq, *]
     | (first|refine aL (by kernel_rfl) ?_|refine aQ ?_|refine aR ?_|refine ba (ax ?_))
       simp only [push_cast,reduceIte,Nat.reduceEqDiff,Nat.reduceAdd,Nat.reduceMul,Nat.reduceSub,Nat.reduceLT,Nat.reduceLeDiff,Int.reduceLT,Int.reduceLE,Int.reduceAdd,Int.reduceSub,Int.reduceNeg,Int.reduceToNat,Int.reduceEq,reduceCtorEq, *]
     | exact aY
     | first|apply aZ|apply aM|apply a6|apply aN|apply a7|apply aO
     | refine aF ?_
     | first|refine aD rfl ?_|refine aE rfl ?_|refine ap rfl ?_ ?_|refine aH rfl (fun _=>?_) (fun _=>?_)|refine aG rfl (fun _=>?_) (fun _=>?_)
     | ((first|refine ao (fun _=>?_) (fun _=>?_)|refine aw (fun _=>?_) (fun _=>?_))<;>try simp (config:={ maxSteps:=2000000 }) only [Kon,push_cast,reduceIte,Nat.reduceEqDiff,Nat.reduceAdd,Nat.reduceMul,Nat.reduceSub,Nat.reduceLT,Nat.reduceLeDiff,Int.reduceLT,Int.reduceLE,Int.reduceAdd,Int.reduceSub,Int.reduceNeg,Int.reduceToNat,Int.reduceEq,reduceCtorEq, *])
     | refine And.intro trivial ?_
     | refine And.intro (by omega) ?_
     | refine aI rfl (fun _=>?_) (fun _=>?_)
     | refine And.intro ?_ ?_
   refine aa ?_
   exact h.out
 · by_cases h1:v=1
   · subst h1
     repeat' first
       | refine a8 ?_
       | (first|refine aP (by kernel_rfl) ?_|refine aB (by kernel_rfl) ?_|refine aC ?_|refine bj ?_|refine aX (fun _=>?_)|refine ay ?_|refine aS ?_)
         simp (config:={ maxSteps:=2000000 }) only [Kon,push_cast,reduceIte,Nat.reduceEqDiff,Nat.reduceAdd,Nat.reduceMul,Nat.reduceSub,Nat.reduceLT,Nat.reduceLeDiff,Int.reduceLT,Int.reduceLE,Int.reduceAdd,Int.reduceSub,Int.reduceNeg,Int.reduceToNat,Int.reduceEq,reduceCtorEq, *]
       | (first|refine aL (by kernel_rfl) ?_|refine aQ ?_|refine aR ?_|refine ba (ax ?_))
         simp only [push_cast,reduceIte,Nat.reduceEqDiff,Nat.reduceAdd,Nat.reduceMul,Nat.reduceSub,Nat.reduceLT,Nat.reduceLeDiff,Int.reduceLT,Int.reduceLE,Int.reduceAdd,Int.reduceSub,Int.reduceNeg,Int.reduceToNat,Int.reduceEq,reduceCtorEq, *]
       | exact aY
       | first|apply aZ|apply aM|apply a6|apply aN|apply a7|apply aO
       | refine aF ?_
       | first|refine aD rfl ?_|refine aE rfl ?_|refine ap rfl ?_ ?_|refine aH rfl (fun _=>?_) (fun _=>?_)|refine aG rfl (fun _=>?_) (fun _=>?_)
       | ((first|refine ao (fun _=>?_) (fun _=>?_)|refine aw (fun _=>?_) (fun _=>?_))<;>try simp (config:={ maxSteps:=2000000 }) only [Kon,push_cast,reduceIte,Nat.reduceEqDiff,Nat.reduceAdd,Nat.reduceMul,Nat.reduceSub,Nat.reduceLT,Nat.reduceLeDiff,Int.reduceLT,Int.reduceLE,Int.reduceAdd,Int.reduceSub,Int.reduceNeg,Int.reduceToNat,Int.reduceEq,reduceCtorEq, *])
       | refine And.intro trivial ?_
       | refine And.intro (by omega) ?_
       | refine aI rfl (fun _=>?_) (fun _=>?_)
       | refine And.intro ?_ ?_
     refine aa ?_
     exact h.out
   · have hr:=hid (show Y7 v=2 by simp [Y7,h0,h1])
     repeat' first
       | refine a8 ?_
       | (first|refine aP (by kernel_rfl) ?_|refine aB (by kernel_rfl) ?_|refine aC ?_|refine bj ?_|refine aX (fun _=>?_)|refine ay ?_|refine aS ?_)
         simp (config:={ maxSteps:=2000000 }) only [Kon,push_cast,reduceIte,Nat.reduceEqDiff,Nat.reduceAdd,Nat.reduceMul,Nat.reduceSub,Nat.reduceLT,Nat.reduceLeDiff,Int.reduceLT,Int.reduceLE,Int.reduceAdd,Int.reduceSub,Int.reduceNeg,Int.reduceToNat,Int.reduceEq,reduceCtorEq, *]
       | (first|refine aL (by kernel_rfl) ?_|refine aQ ?_|refine aR ?_|refine ba (ax ?_))
         simp only [push_cast,reduceIte,Nat.reduceEqDiff,Nat.reduceAdd,Nat.reduceMul,Nat.reduceSub,Nat.reduceLT,Nat.reduceLeDiff,Int.reduceLT,Int.reduceLE,Int.reduceAdd,Int.reduceSub,Int.reduceNeg,Int.reduceToNat,Int.reduceEq,reduceCtorEq, *]
       | exact aY
       | first|apply aZ|apply aM|apply a6|apply aN|apply a7|apply aO
       | refine aF ?_
       | first|refine aD rfl ?_|refine aE rfl ?_|refine ap rfl ?_ ?_|refine aH rfl (fun _=>?_) (fun _=>?_)|refine aG rfl (fun _=>?_) (fun _=>?_)
       | ((first|refine ao (fun _=>?_) (fun _=>?_)|refine aw (fun _=>?_) (fun _=>?_))<;>try simp (config:={ maxSteps:=2000000 }) only [Kon,push_cast,reduceIte,Nat.reduceEqDiff,Nat.reduceAdd,Nat.reduceMul,Nat.reduceSub,Nat.reduceLT,Nat.reduceLeDiff,Int.reduceLT,Int.reduceLE,Int.reduceAdd,Int.reduceSub,Int.reduceNeg,Int.reduceToNat,Int.reduceEq,reduceCtorEq, *])
       | refine And.intro trivial ?_
       | refine And.intro (by omega) ?_
       | refine aI rfl (fun _=>?_) (fun _=>?_)
       | refine And.intro ?_ ?_
     refine aa ?_
     have h:=h.out
     rw [hr.out] at h
     exact h
theorem ag1 {xs:List Int} {cap:Option Nat} {v:Int} (hn:(xs.length:Int)≤1000000) (h:K (.int .i64 (ag7 xs v)) L):ad Tryz.prog 95 [.sl (xs.map (AV.int .i64)) xs.length cap,.int .i64 v] L K:=by
 replace h:=hid h
 refine ae aho (by simp [ahp]) ?_
 simp only [ahp,ar]
 repeat' first
   | refine a8 ?_
   | (first|refine aP (by kernel_rfl) ?_|refine aB (by kernel_rfl) ?_|refine aC ?_|refine bj ?_|refine aX (fun _=>?_)|refine ay ?_|refine aS ?_)
     simp (config:={ maxSteps:=2000000 }) only [Kon,push_cast,reduceIte,Nat.reduceEqDiff,Nat.reduceAdd,Nat.reduceMul,Nat.reduceSub,Nat.reduceLT,Nat.reduceLeDiff,Int.reduceLT,Int.reduceLE,Int.reduceAdd,Int.reduceSub,Int.reduceNeg,Int.reduceToNat,Int.reduceEq,reduceCtorEq, *]
   | (first|refine aL (by kernel_rfl) ?_|refine aQ ?_|refine aR ?_|refine ba (ax ?_))
     simp only [push_cast,reduceIte,Nat.reduceEqDiff,Nat.reduceAdd,Nat.reduceMul,Nat.reduceSub,Nat.reduceLT,Nat.reduceLeDiff,Int.reduceLT,Int.reduceLE,Int.reduceAdd,Int.reduceSub,Int.reduceNeg,Int.reduceToNat,Int.reduceEq,reduceCtorEq, *]
   | exact aY
   | first|apply aZ|apply aM|apply a6|apply aN|apply a7|apply aO
   | refine aF ?_
   | first|refine aD rfl ?_|refine aE rfl ?_|refine ap rfl ?_ ?_|refine aH rfl (fun _=>?_) (fun _=>?_)|refine aG rfl (fun _=>?_) (fun _=>?_)
   | ((first|refine ao (fun _=>?_) (fun _=>?_)|refine aw (fun _=>?_) (fun _=>?_))<;>try simp (config:={ maxSteps:=2000000 }) only [Kon,push_cast,reduceIte,Nat.reduceEqDiff,Nat.reduceAdd,Nat.reduceMul,Nat.reduceSub,Nat.reduceLT,Nat.reduceLeDiff,Int.reduceLT,Int.reduceLE,Int.reduceAdd,Int.reduceSub,Int.reduceNeg,Int.reduceToNat,Int.reduceEq,reduceCtorEq, *])
   | refine And.intro trivial ?_
   | refine And.intro (by omega) ?_
   | refine aI rfl (fun _=>?_) (fun _=>?_)
   | refine And.intro ?_ ?_
 refine am (fun n T' L'=>∃ (k:Nat) (o:Int),n=xs.length - k∧k≤xs.length∧0≤o∧o≤k∧Hid (ahb v o (xs.drop k)=ag7 xs v)∧T'=[(10,.int .i64 (k:Int)),(9,.int .i64 xs.length),(8,.sl (xs.map (AV.int .i64)) xs.length cap),(5,.int .i64 o),(4,.int .i64 0),(1,.int .i64 v)]∧L'=L) (CutS (b:=by simp)) ⟨0,0,rfl,Nat.zero_le _,by omega,by omega,hid rfl,rfl,rfl⟩ ?_
 rintro _ _ _ ⟨k,o,rfl,hk,o0,o1,ho,rfl,rfl⟩
 by_cases hlt:k<xs.length
 · have h1:(k:Int)<(xs.length:Int):=by omega
   have h2:IntKind.i64.wrap ((k:Int)+1)=(k:Int)+1:=ac (by omega) (by omega)
   have h3:IntKind.i64.wrap (o+1)=o+1:=ac (by omega) (by omega)
   obtain ⟨x,hx⟩:∃ x,xs[k]=x:=⟨_,rfl⟩
   have hd:xs.drop k=x::xs.drop (k+1):=by rw [List.drop_eq_getElem_cons hlt,hx]
   have hg:(xs.map (AV.int .i64)).getD k .undef=.int .i64 x:=by rw [N8 hlt,hx]
   have hlk:k<(xs.map (AV.int .i64)).length:=by simpa using hlt
   have ho:=ho.out
   rw [hd] at ho
   simp only [ahb] at ho
   by_cases e0:x=v
   · rw [if_pos e0] at ho
     replace ho:=hid ho
     clear hx hd
     repeat' first
       | refine a8 ?_
       | (first|refine aP (by kernel_rfl) ?_|refine aB (by kernel_rfl) ?_|refine aC ?_|refine bj ?_|refine aX (fun _=>?_)|refine ay ?_|refine aS ?_)
         simp (config:={ maxSteps:=2000000 }) only [Kon,push_cast,reduceIte,Nat.reduceEqDiff,Nat.reduceAdd,Nat.reduceMul,Nat.reduceSub,Nat.reduceLT,Nat.reduceLeDiff,Int.reduceLT,Int.reduceLE,Int.reduceAdd,Int.reduceSub,Int.reduceNeg,Int.reduceToNat,Int.reduceEq,reduceCtorEq, *]
       | (first|refine aL (by kernel_rfl) ?_|refine aQ ?_|refine aR ?_|refine ba (ax ?_))
         simp only [push_cast,reduceIte,Nat.reduceEqDiff,Nat.reduceAdd,Nat.reduceMul,Nat.reduceSub,Nat.reduceLT,Nat.reduceLeDiff,Int.reduceLT,Int.reduceLE,Int.reduceAdd,Int.reduceSub,Int.reduceNeg,Int.reduceToNat,Int.reduceEq,reduceCtorEq, *]
       | exact aY
       | first|apply aZ|apply aM|apply a6|apply aN|apply a7|apply aO
       | refine aF ?_
       | first|refine aD rfl ?_|refine aE rfl ?_|refine ap rfl ?_ ?_|refine aH rfl (fun _=>?_) (fun _=>?_)|refine aG rfl (fun _=>?_) (fun _=>?_)
       | ((first|refine ao (fun _=>?_) (fun _=>?_)|refine aw (fun _=>?_) (fun _=>?_))<;>try simp (config:={ maxSteps:=2000000 }) only [Kon,push_cast,reduceIte,Nat.reduceEqDiff,Nat.reduceAdd,Nat.reduceMul,Nat.reduceSub,Nat.reduceLT,Nat.reduceLeDiff,Int.reduceLT,Int.reduceLE,Int.reduceAdd,Int.reduceSub,Int.reduceNeg,Int.reduceToNat,Int.reduceEq,reduceCtorEq, *])
       | refine And.intro trivial ?_
       | refine And.intro (by omega) ?_
       | refine aI rfl (fun _=>?_) (fun _=>?_)
       | refine And.intro ?_ ?_
     exact ak _ _ _ (by omega) (CutS (b:=by simp)) ⟨k+1,o+1,rfl,hlt,by omega,by omega,ho,rfl,rfl⟩
   · rw [if_neg e0] at ho
     replace ho:=hid ho
     clear hx hd
     repeat' first
       | refine a8 ?_
       | (first|refine aP (by kernel_rfl) ?_|refine aB (by kernel_rfl) ?_|refine aC ?_|refine bj ?_|refine aX (fun _=>?_)|refine ay ?_|refine aS ?_)
         simp (config:={ maxSteps:=2000000 }) only [Kon,push_cast,reduceIte,Nat.reduceEqDiff,Nat.reduceAdd,Nat.reduceMul,Nat.reduceSub,Nat.reduceLT,Nat.reduceLeDiff,Int.reduceLT,Int.reduceLE,Int.reduceAdd,Int.reduceSub,Int.reduceNeg,Int.reduceToNat,Int.reduceEq,reduceCtorEq, *]
       | (first|refine aL (by kernel_rfl) ?_|refine aQ ?_|refine aR ?_|refine ba (ax ?_))
         simp only [push_cast,reduceIte,Nat.reduceEqDiff,Nat.reduceAdd,Nat.reduceMul,Nat.reduceSub,Nat.reduceLT,Nat.reduceLeDiff,Int.reduceLT,Int.reduceLE,Int.reduceAdd,Int.reduceSub,Int.reduceNeg,Int.reduceToNat,Int.reduceEq,reduceCtorEq, *]
       | exact aY
       | first|apply aZ|apply aM|apply a6|apply aN|apply a7|apply aO
       | refine aF ?_
       | first|refine aD rfl ?_|refine aE rfl ?_|refine ap rfl ?_ ?_|refine aH rfl (fun _=>?_) (fun _=>?_)|refine aG rfl (fun _=>?_) (fun _=>?_)
       | ((first|refine ao (fun _=>?_) (fun _=>?_)|refine aw (fun _=>?_) (fun _=>?_))<;>try simp (config:={ maxSteps:=2000000 }) only [Kon,push_cast,reduceIte,Nat.reduceEqDiff,Nat.reduceAdd,Nat.reduceMul,Nat.reduceSub,Nat.reduceLT,Nat.reduceLeDiff,Int.reduceLT,Int.reduceLE,Int.reduceAdd,Int.reduceSub,Int.reduceNeg,Int.reduceToNat,Int.reduceEq,reduceCtorEq, *])
       | refine And.intro trivial ?_
       | refine And.intro (by omega) ?_
       | refine aI rfl (fun _=>?_) (fun _=>?_)
       | refine And.intro ?_ ?_
     exact ak _ _ _ (by omega) (CutS (b:=by simp)) ⟨k+1,o,rfl,hlt,by omega,by omega,ho,rfl,rfl⟩
 · have hke:k=xs.length:=by omega
   subst hke
   have h1:¬ (xs.length:Int)<(xs.length:Int):=by omega
   have ho:=ho.out
   rw [List.drop_length] at ho
   replace ho:=hid (show o=ag7 xs v from ho)
   repeat' first
     | refine a8 ?_
     | (first|refine aP (by kernel_rfl) ?_|refine aB (by kernel_rfl) ?_|refine aC ?_|refine bj ?_|refine aX (fun _=>?_)|refine ay ?_|refine aS ?_)
       simp (config:={ maxSteps:=2000000 }) only [Kon,push_cast,reduceIte,Nat.reduceEqDiff,Nat.reduceAdd,Nat.reduceMul,Nat.reduceSub,Nat.reduceLT,Nat.reduceLeDiff,Int.reduceLT,Int.reduceLE,Int.reduceAdd,Int.reduceSub,Int.reduceNeg,Int.reduceToNat,Int.reduceEq,reduceCtorEq, *]
     | (first|refine aL (by kernel_rfl) ?_|refine aQ ?_|refine aR ?_|refine ba (ax ?_))
       simp only [push_cast,reduceIte,Nat.reduceEqDiff,Nat.reduceAdd,Nat.reduceMul,Nat.reduceSub,Nat.reduceLT,Nat.reduceLeDiff,Int.reduceLT,Int.reduceLE,Int.reduceAdd,Int.reduceSub,Int.reduceNeg,Int.reduceToNat,Int.reduceEq,reduceCtorEq, *]
     | exact aY
     | first|apply aZ|apply aM|apply a6|apply aN|apply a7|apply aO
     | refine aF ?_
     | first|refine aD rfl ?_|refine aE rfl ?_|refine ap rfl ?_ ?_|refine aH rfl (fun _=>?_) (fun _=>?_)|refine aG rfl (fun _=>?_) (fun _=>?_)
     | ((first|refine ao (fun _=>?_) (fun _=>?_)|refine aw (fun _=>?_) (fun _=>?_))<;>try simp (config:={ maxSteps:=2000000 }) only [Kon,push_cast,reduceIte,Nat.reduceEqDiff,Nat.reduceAdd,Nat.reduceMul,Nat.reduceSub,Nat.reduceLT,Nat.reduceLeDiff,Int.reduceLT,Int.reduceLE,Int.reduceAdd,Int.reduceSub,Int.reduceNeg,Int.reduceToNat,Int.reduceEq,reduceCtorEq, *])
     | refine And.intro trivial ?_
     | refine And.intro (by omega) ?_
     | refine aI rfl (fun _=>?_) (fun _=>?_)
     | refine And.intro ?_ ?_
   refine aa ?_
   rw [ho.out]
   exact h.out
theorem Zu {xs:List Int} {cap:Option Nat} (hn:(xs.length:Int)≤1000000) (h:K (.int .i64 (Zv xs)) L):ad Tryz.prog 47 [.sl (xs.map (AV.int .i64)) xs.length cap] L K:=by
 refine ae ahw (by simp [ahx]) ?_
 simp only [ahx,ar]
 repeat' first
   | refine a8 ?_
   | (first|refine aP (by kernel_rfl) ?_|refine aB (by kernel_rfl) ?_|refine aC ?_|refine bj ?_|refine aX (fun _=>?_)|refine ay ?_|refine aS ?_|refine ag1 hn ?_|refine aK (ag1 hn ⟨rfl,rfl⟩) (ag1 hn ⟨rfl,rfl⟩) ?_|refine aq (ag1 hn ⟨rfl,rfl⟩) ?_)
     simp (config:={ maxSteps:=2000000 }) only [Kon,push_cast,reduceIte,Nat.reduceEqDiff,Nat.reduceAdd,Nat.reduceMul,Nat.reduceSub,Nat.reduceLT,Nat.reduceLeDiff,Int.reduceLT,Int.reduceLE,Int.reduceAdd,Int.reduceSub,Int.reduceNeg,Int.reduceToNat,Int.reduceEq,reduceCtorEq, *]
   | (first|refine aL (by kernel_rfl) ?_|refine aQ ?_|refine aR ?_|refine ba (ax ?_))
     simp only [push_cast,reduceIte,Nat.reduceEqDiff,Nat.reduceAdd,Nat.reduceMul,Nat.reduceSub,Nat.reduceLT,Nat.reduceLeDiff,Int.reduceLT,Int.reduceLE,Int.reduceAdd,Int.reduceSub,Int.reduceNeg,Int.reduceToNat,Int.reduceEq,reduceCtorEq, *]
   | exact aY
   | first|apply aZ|apply aM|apply a6|apply aN|apply a7|apply aO
   | refine aF ?_
   | first|refine aD rfl ?_|refine aE rfl ?_|refine ap rfl ?_ ?_|refine aH rfl (fun _=>?_) (fun _=>?_)|refine aG rfl (fun _=>?_) (fun _=>?_)
   | ((first|refine ao (fun _=>?_) (fun _=>?_)|refine aw (fun _=>?_) (fun _=>?_))<;>try simp (config:={ maxSteps:=2000000 }) only [Kon,push_cast,reduceIte,Nat.reduceEqDiff,Nat.reduceAdd,Nat.reduceMul,Nat.reduceSub,Nat.reduceLT,Nat.reduceLeDiff,Int.reduceLT,Int.reduceLE,Int.reduceAdd,Int.reduceSub,Int.reduceNeg,Int.reduceToNat,Int.reduceEq,reduceCtorEq, *])
   | refine And.intro trivial ?_
   | refine And.intro (by omega) ?_
   | refine aI rfl (fun _=>?_) (fun _=>?_)
   | refine And.intro ?_ ?_
 all_goals (first|refine ab rfl (Kto h ?_)|refine aa (Kto h ?_)|refine ab (by simp only [AV.refs,AV.refsL, *];rfl) (Kto h ?_)|refine bE (ab rfl (Kto h ?_))|(trace_state;fail))
 all_goals (first|(simp [Zv, *];done)|(simp [Zv, *];omega)|(simp [Zv, *];intros;omega)|(simp_all [Hid,Zv];done)|(simp_all [Hid,Zv];omega))
theorem Y3 {xs:List Int} {cap:Option Nat} (hn:(xs.length:Int)≤1000000) (h:K (.int .i64 (Y4 xs)) L):ad Tryz.prog 48 [.sl (xs.map (AV.int .i64)) xs.length cap] L K:=by
 refine ae ahq (by simp [ahr]) ?_
 simp only [ahr,ar]
 repeat' first
   | refine a8 ?_
   | (first|refine aP (by kernel_rfl) ?_|refine aB (by kernel_rfl) ?_|refine aC ?_|refine bj ?_|refine aX (fun _=>?_)|refine ay ?_|refine aS ?_|refine ag1 hn ?_|refine aK (ag1 hn ⟨rfl,rfl⟩) (ag1 hn ⟨rfl,rfl⟩) ?_|refine aq (ag1 hn ⟨rfl,rfl⟩) ?_)
     simp (config:={ maxSteps:=2000000 }) only [Kon,push_cast,reduceIte,Nat.reduceEqDiff,Nat.reduceAdd,Nat.reduceMul,Nat.reduceSub,Nat.reduceLT,Nat.reduceLeDiff,Int.reduceLT,Int.reduceLE,Int.reduceAdd,Int.reduceSub,Int.reduceNeg,Int.reduceToNat,Int.reduceEq,reduceCtorEq, *]
   | (first|refine aL (by kernel_rfl) ?_|refine aQ ?_|refine aR ?_|refine ba (ax ?_))
     simp only [push_cast,reduceIte,Nat.reduceEqDiff,Nat.reduceAdd,Nat.reduceMul,Nat.reduceSub,Nat.reduceLT,Nat.reduceLeDiff,Int.reduceLT,Int.reduceLE,Int.reduceAdd,Int.reduceSub,Int.reduceNeg,Int.reduceToNat,Int.reduceEq,reduceCtorEq, *]
   | exact aY
   | first|apply aZ|apply aM|apply a6|apply aN|apply a7|apply aO
   | refine aF ?_
   | first|refine aD rfl ?_|refine aE rfl ?_|refine ap rfl ?_ ?_|refine aH rfl (fun _=>?_) (fun _=>?_)|refine aG rfl (fun _=>?_) (fun _=>?_)
   | ((first|refine ao (fun _=>?_) (fun _=>?_)|refine aw (fun _=>?_) (fun _=>?_))<;>try simp (config:={ maxSteps:=2000000 }) only [Kon,push_cast,reduceIte,Nat.reduceEqDiff,Nat.reduceAdd,Nat.reduceMul,Nat.reduceSub,Nat.reduceLT,Nat.reduceLeDiff,Int.reduceLT,Int.reduceLE,Int.reduceAdd,Int.reduceSub,Int.reduceNeg,Int.reduceToNat,Int.reduceEq,reduceCtorEq, *])
   | refine And.intro trivial ?_
   | refine And.intro (by omega) ?_
   | refine aI rfl (fun _=>?_) (fun _=>?_)
   | refine And.intro ?_ ?_
 all_goals (first|refine ab rfl (Kto h ?_)|refine aa (Kto h ?_)|refine ab (by simp only [AV.refs,AV.refsL, *];rfl) (Kto h ?_)|refine bE (ab rfl (Kto h ?_))|(trace_state;fail))
 all_goals (first|(simp [Y4, *];done)|(simp [Y4, *];omega)|(simp [Y4, *];intros;omega)|(simp_all [Hid,Y4];done)|(simp_all [Hid,Y4];omega))
def aiR (syn k:Int) (v:List UInt8) (ps:List Pc) (x:List UInt8):Bool :=
 if k=4 then (CP syn x ps).getD false else
 if k=3∨k=8 then decide (dj syn x=dj syn v) else
 decide (k=7) || (decide (k=5) && decide (0≤(k7 syn x v).getD 0)) || (decide (k=6) && decide ((k7 syn x v).getD 0≤0))
def akU (syn k:Int) (v:List UInt8) (ps:List Pc):Bool:=if k=4 then decide (syn≤3) && CJ ps else (bU syn v).isSome
def akW (syn k:Int) (v:List UInt8) (ps:List Pc):Bool:=if k=5∨k=6 then akU syn k v ps && (decide (syn<5) || decide (7<syn)) else akU syn k v ps
def ajO (l:List Atr) (syn k:Int) (a v:List UInt8) (ps:List Pc):Int:=if k≠7∧akW syn k v ps=false then 2 else if (dU l a).any (aiR syn k v ps)=true then 1 else 0
theorem akY {ts:List Typ} {l:List Atr} {ty:Typ} {k:Int} {a v:List UInt8} {ps:List Pc} (hty:fJ ts a=some ty) (hk:¬ (k=0∨k=1∨k=2)) (h0:0≤k) (h8:k≤8):ajO l ty.2.1 k a v ps=Us ts l ty k a v ps:=by
 have hc:k=3∨k=4∨k=5∨k=6∨k=7∨k=8:=by omega
 have hhas:(bU ty.2.1 v).isNone=false→(dU l a).any (fun x=>decide (dj ty.2.1 x=dj ty.2.1 v))=UB ts l a v:=fun hn=>by
   unfold UB
   rw [hty]
   rcases hm:bU ty.2.1 v with _|m
   · rw [hm] at hn;simp at hn
   · simp only [inM,dj,hm,Option.getD_some]
     rfl
 have hord:(k7 ty.2.1 v v).isNone = !((bU ty.2.1 v).isSome && (decide (ty.2.1<5) || decide (7<ty.2.1))):=by
   unfold k7
   rcases hm:bU ty.2.1 v with _|m
   · rfl
   · simp only [Option.isSome_some,Bool.true_and]
     split
     · rename_i h
       have h1:¬ ty.2.1<5:=by omega
       have h2:¬ 7<ty.2.1:=by omega
       simp [h1,h2]
     · rename_i h
       by_cases h1:ty.2.1<5
       · simp [h1]
       · have h2:7<ty.2.1:=by omega
         simp [h2]
 have ord:∀ k:Int,k=5∨k=6→aiR ty.2.1 k v ps=fun x=>decide ((k7 ty.2.1 x v).getD 0=0) || (decide (0<(k7 ty.2.1 x v).getD 0) == decide (k=5)):=fun k hk=>by
   funext x
   unfold aiR
   rw [if_neg (by omega),if_neg (by omega)]
   generalize (k7 ty.2.1 x v).getD 0=o
   have h7:¬ k=7:=by omega
   rcases hk with rfl|rfl
   · by_cases h1:0<o
     · simp [h1,show 0≤o by omega]
     · by_cases h2:o=0
       · subst h2;simp
       · simp [h1,h2,show ¬ 0≤o by omega]
   · by_cases h1:0<o
     · simp [h1,show ¬ o≤0 by omega];omega
     · by_cases h2:o=0
       · subst h2;simp
       · simp [h1,h2,show o≤0 by omega]
 have norm:∀ k:Int,k=3∨k=8→ajO l ty.2.1 k a v ps=Us ts l ty k a v ps:=fun k hk=>by
   unfold ajO Us akW akU
   have e:aiR ty.2.1 k v ps=fun x=>decide (dj ty.2.1 x=dj ty.2.1 v):=by
     funext x
     unfold aiR
     rw [if_neg (by omega),if_pos hk]
   rw [if_neg (show ¬ (k=5∨k=6) by omega),if_neg (show ¬ k=4 by omega),if_neg (show ¬ k=7 by omega),if_pos hk,e]
   have h7:k≠7:=by omega
   cases hn:(bU ty.2.1 v) with
   | none=>simp [h7]
   | some m =>
     rw [hhas (by rw [hn];rfl)]
     simp [h7,tf1]
 have rng:∀ k:Int,k=5∨k=6→ajO l ty.2.1 k a v ps=Us ts l ty k a v ps:=fun k hk=>by
   unfold ajO Us akW akU
   rw [if_pos hk,if_neg (show ¬ k=4 by omega),if_neg (show ¬ k=7 by omega),if_neg (show ¬ (k=3∨k=8) by omega),if_neg (show ¬ k=4 by omega),ord k hk,hord]
   have h7:k≠7:=by omega
   generalize ((bU ty.2.1 v).isSome && (decide (ty.2.1<5) || decide (7<ty.2.1)))=q
   cases q
   · simp [h7]
   · simp only [Bool.true_eq_false,and_false,if_false,Bool.not_true,tf1,Bool.false_eq_true]
 rcases hc with rfl|rfl|rfl|rfl|rfl|rfl
 · exact norm 3 (.inl rfl)
 · unfold ajO Us akW akU
   have e:aiR ty.2.1 4 v ps=fun x=>(CP ty.2.1 x ps).getD false:=by
     funext x
     unfold aiR
     rw [if_pos rfl]
   rw [e]
   by_cases h3:ty.2.1≤3
   · have h4:¬ 3<ty.2.1:=by omega
     cases hp:CJ ps<;>simp [h3,h4,tf1]
   · have h4:3<ty.2.1:=by omega
     simp [h3,h4]
 · exact rng 5 (.inl rfl)
 · exact rng 6 (.inr rfl)
 · unfold ajO Us
   have e:aiR ty.2.1 7 v ps=fun _=>true:=by
     funext x
     unfold aiR
     simp
   rw [e]
   cases dU l a<;>simp [tf1]
 · exact norm 8 (.inr rfl)
end Go.Proofs.YtkkgmgmgcgiffaaGreatDoor.Av
set_option maxRecDepth 100000
namespace Go.Proofs.YtkkgmgmgcgiffaaGreatDoor.Av
open Go
variable {L:List Blk} {K:AV→List Blk→Prop}
def ajK:LSO:=[A3 1 0,Ab 2 0]
def ajJ:LSO:=[Ap 6 5 1,o1 7 (.call 101 [(tm 6),(iv 1),(iv 0)]),Aa 5 7,As 8 5,Au 9 5,Aa 3 8,Aa 4 9]
def ajI:LSO:=[Aa 10 3,Aa 2 10]
def ai0:aW:=⟨11,(.seq (.sreg ajK [])
 (.seq (.sreg ajJ CA)
 (.seq (.sreg ajI Cg)
 .ret))),[(.tmp 2)]⟩
attribute [push_cast] ajK ajJ ajI
theorem akr:bb Tryz.prog (fun _ _=>1) 52=some ai0.raw:=by kernel_rfl
def ajH:LSO:=[A3 3 0,Ab 6 0,Ab 7 0]
def ajG:LSO:=[Aa 16 2,Ah 17 16 1,Aa 2 17]
def ajF:LSO:=[Aa 18 1,A0 19 18 64]
def ajE:LSO:=[Aa 20 2,Ab 6 6,Aa 7 20]
def ajD:LSO:=[Aa 21 2,A0 22 21 1000]
def ajC:LSO:=[Aa 23 2,Ab 6 9,Aa 7 23]
def ajB:LSO:=[Ac 24 0 3,Ad 25 1 24,AB 26 25 0,Aa 27 26,.grp none 27 false
 [AA 28 27 0 3,A8 29 27 1 28,A5 30 27 29 8]
 31 (tm 30)]
def ajA:LSO:=[Aa 32 2,Ab 6 24,Aa 7 32]
def ajz:LSO:=[Ac 33 0 3,Ad 34 1 33,AB 35 34 3]
def ajy:LSO:=[Ac 36 0 3,Ad 37 1 36,Al 38 37 2,Aa 39 38,.grp none 39 true
 [A7 40 39 4 3,A4 41 39 1 40,Bu 42 39 41,Bl 43 39 42 1]
 44 (tm 43)]
def ajp:LSO:=[Aa 45 2,Ab 6 2,Aa 7 45]
def ajo:LSO:=[Ac 46 4 3,Ad 47 1 46,An 48 47,Ab 49 0]
def ajn:LSO:=[Ak 50 49 48]
def ajm:LSO:=[Aa 51 49,Aa 8 51]
def ajl:LSO:=[Ac 53 4 3,Ad 54 1 53,Aa 55 8,Aq 56 5 54 55,Ap 57 5 56,Aa 58 1,Ah 59 58 1,Aa 60 2,AD 61 101 57 59 60,Aa 52 61,As 62 52,Au 63 52,Aa 9 62,Aa 10 63]
def ajk:LSO:=[Aa 64 10,Aa 2 64]
def ajj:LSO:=[Aa 65 9,AF 66 65 0]
def aji:LSO:=[Aa 67 9,Aa 68 2,Aa 6 67,Aa 7 68]
def ajh:LSO:=[Ah 69 49 1,Aa 49 69]
def ajg:LSO:=[Aa 70 2,Ab 6 0,Aa 7 70]
def ajf:LSO:=[Ac 71 1 3,Ad 72 1 71,Aj 73 116 72,Ay 74 73]
def aje:LSO:=[Aa 75 2,Ab 6 20,Aa 7 75]
def ajd:LSO:=[Ac 76 0 3,Ad 77 1 76,Al 78 77 4]
def ajc:LSO:=[Ac 79 3 3,Ad 80 1 79,An 81 80,A0 82 81 0,Aa 11 82]
def ajb:LSO:=[Ac 83 3 3,Ad 84 1 83,An 85 84,Ab 86 0]
def aja:LSO:=[Ak 87 86 85]
def ai9:LSO:=[Aa 88 86,Aq 89 2 84 86,Ap 90 2 89,Cb 13,Aa 12 88,Ai 2 13 90]
def ai8:LSO:=[Aa 91 12,Al 92 91 0,Aa 14 92]
def ai7:LSO:=[Aa 93 12,Ah 94 93 1,Ac 95 3 3,Ad 96 1 95,An 97 96,AE 98 94 97,Aa 15 98]
def ai6:LSO:=[Aa 99 11,Aa 100 99,.grp none 100 true
 [A7 101 100 1 13,A4 102 100 1 101,og 103 100 true (.bin .neq (tm 102) (.av (.str [])))]
 104 (tm 103),Aa 105 104,.grp none 105 true
 [A7 106 105 0 13,A4 107 105 1 106,AX 108 105 107 1,Ae 109 105 108,.grp (some (105,true)) 109 false
 [AA 110 109 0 13,A8 111 109 1 110,AC 112 109 111 0,Ag 113 109 112,.grp (some (109,false)) 113 true
 [Ae 114 113 14]
 115 (tm 114)]
 116 (tm 115),Ae 117 105 116,.grp (some (105,true)) 117 false
 [AA 118 117 0 13,A8 119 117 1 118,AC 120 117 119 2,Ag 121 117 120,.grp (some (117,false)) 121 true
 [Ae 122 121 15]
 123 (tm 122)]
 124 (tm 123)]
 125 (tm 124),Aa 11 125]
def ai5:LSO:=[Ah 126 86 1,Aa 86 126]
def ai4:LSO:=[Aa 127 11,Ay 128 127]
def ai3:LSO:=[Aa 129 2,Ab 6 4,Aa 7 129]
def ai2:LSO:=[Aa 130 2,Ab 6 0,Aa 7 130]
def aiZ:aW:=⟨131,(.seq (.sreg ajH [])
 (.seq (.sreg ajG Ch)
 (.seq (.seq (.sreg ajF Cg)
 (.cond (tm 19) (.seq (.sreg ajE Cm)
 .ret)
 .skip))
 (.seq (.seq (.sreg ajD Cg)
 (.cond (tm 22) (.seq (.sreg ajC Cm)
 .ret)
 .skip))
 (.seq (.seq (.sreg ajB Cj)
 (.cond (tm 31) (.seq (.sreg ajA Cm)
 .ret)
 .skip))
 (.seq (.seq (.sreg ajz Ch)
 (.cond (tm 35) (.seq (.seq (.sreg ajy Cj)
 (.cond (tm 44) (.seq (.sreg ajp Cm)
 .ret)
 .skip))
 (.seq (.seq (.sreg ajo Cw)
 (.block 0 (.loop (.seq (.sreg ajn [])
 (.seq (.cond (tm 50) .skip
 (.exit 0))
 (.seq (.block 1 (.seq (.sreg ajm Cg)
 (.seq (.sreg ajl [true,true,false,false,false,false,false,false,false,false,false,false,false,false])
 (.seq (.sreg ajk Cg)
 (.seq (.sreg ajj Cg)
 (.cond (tm 66) (.seq (.sreg aji Cw)
 .ret)
 .skip))))))
 (.sreg ajh Cg)))))))
 (.seq (.sreg ajg Cm)
 .ret)))
 .skip))
 (.seq (.seq (.sreg ajf Ci)
 (.cond (tm 74) (.seq (.sreg aje Cm)
 .ret)
 .skip))
 (.seq (.seq (.sreg ajd Ch)
 (.cond (tm 78) (.seq (.sreg ajc Cj)
 (.seq (.seq (.sreg ajb Ct)
 (.block 2 (.loop (.seq (.sreg aja [])
 (.seq (.cond (tm 87) .skip
 (.exit 2))
 (.seq (.block 3 (.seq (.sreg ai9 Co)
 (.seq (.sreg ai8 Ch)
 (.seq (.sreg ai7 Cl)
 (.sreg ai6 Ck)))))
 (.sreg ai5 Cg)))))))
 (.seq (.sreg ai4 Cg)
 (.cond (tm 128) (.seq (.sreg ai3 Cm)
 .ret)
 .skip))))
 .skip))
 (.seq (.sreg ai2 Cm)
 .ret))))))))),[(.tmp 6),(.tmp 7)]⟩
attribute [push_cast] ajH ajG ajF ajE ajD ajC ajB ajA ajz ajy ajp ajo ajn ajm ajl ajk ajj aji ajh ajg ajf aje ajd ajc ajb aja ai9 ai8 ai7 ai6 ai5 ai4 ai3 ai2
theorem akq:bb Tryz.prog (fun _ _=>1) 101=some aiZ.raw:=by kernel_rfl
def ajY:LSO:=[Af 4]
def ajX:LSO:=[Aa 7 1,An 8 7,Al 9 8 0]
def ajW:LSO:=[Ax 4]
def ajV:LSO:=[Aa 10 1,o1 11 (.iaddr 2 (tm 10) (iv 0)),Ac 12 1 11,Ad 13 1 12,Aa 5 13]
def ajU:LSO:=[Ab 6 0]
def ajT:LSO:=[Aa 14 6,Aa 15 5,Ar 16 15,AP 17 14 16,Aa 18 0,Ar 19 18,o1 20 (.bin .leq (tm 17) (tm 19))]
def ajS:LSO:=[Aa 23 0,Aa 24 6,Aa 25 6,Aa 26 5,Ar 27 26,AP 28 25 27,BI 29 23 24 28,Aa 30 5,o1 31 (.bin .neq (tm 29) (tm 30)),Aa 32 31,.grp none 32 false
 [Ag 33 32 1,og 34 32 false (.iaddr 2 (tm 33) (iv 0)),AA 35 32 0 34,A8 36 32 1 35,AC 37 32 36 0,Ag 38 32 37,.grp (some (32,false)) 38 true
 [Ae 39 38 6,og 40 38 true (.bin .gtr (tm 39) (iv 0))]
 41 (tm 40)]
 42 (tm 41),Aa 43 42,.grp none 43 false
 [Ag 44 43 1,og 45 43 false (.iaddr 2 (tm 44) (iv 0)),AA 46 43 0 45,A8 47 43 1 46,AC 48 43 47 2,Ag 49 43 48,.grp (some (43,false)) 49 true
 [Ae 50 49 6,Ae 51 49 5,BG 52 49 51,og 53 49 true (.bin .add (tm 50) (tm 52)),Ae 54 49 0,BG 55 49 54,B5 56 49 53 55]
 57 (tm 56)]
 58 (tm 57)]
def ajR:LSO:=[Aa 59 0,Aa 60 6,Aa 61 5,Ar 62 61,AP 63 60 62,BF 64 59 63,Aa 65 1,o1 66 (.slV 2 (tm 65) (some (iv 1)) none none),Aw 67 144 64 66]
def ajQ:LSO:=[Ax 4]
def ajP:LSO:=[Aa 68 1,o1 69 (.iaddr 2 (tm 68) (iv 0)),Ac 70 0 69,Ad 71 1 70,Al 72 71 1]
def aju:LSO:=[Af 4]
def ajt:LSO:=[Aa 21 6,Ah 22 21 1,Aa 6 22]
def ajs:LSO:=[Af 4]
def aiQ:aW:=⟨73,(.seq (.sreg ajY [])
 (.seq (.seq (.sreg ajX Ch)
 (.cond (tm 9) (.seq (.sreg ajW [])
 .ret)
 .skip))
 (.seq (.sreg ajV Cj)
 (.seq (.seq (.sreg ajU [])
 (.block 0 (.loop (.seq (.seq (.sreg ajT Cl)
 (.cond (tm 20) .skip
 (.exit 0)))
 (.seq (.block 1 (.seq (.seq (.sreg ajS [true,false,false,false,false,false,false,false,false,false,false,false,false])
 (.cond (tm 58) (.exit 1)
 .skip))
 (.seq (.seq (.sdreg ajR [.pure,.pure,.pure,(.read 0 0),.pure,(.read 0 0),.pure,(.read 0 0)] C0)
 (.cond (tm 67) (.seq (.sreg ajQ [])
 .ret)
 .skip))
 (.seq (.sreg ajP Cj)
 (.cond (tm 72) (.seq (.sreg aju [])
 .ret)
 .skip)))))
 (.sreg ajt Ch))))))
 (.seq (.sreg ajs [])
 .ret))))),[(.tmp 4)]⟩
attribute [push_cast] ajY ajX ajW ajV ajU ajT ajS ajR ajQ ajP aju ajt ajs
theorem ajM:bb Tryz.prog (fun _ _=>1) 144=some aiQ.raw:=by kernel_rfl
def aj8:LSO:=[Af 6,Af 7]
def aj7:LSO:=[Aa 14 0,Aa 15 1,Aw 16 51 14 15,Aa 13 16,As 17 13,Au 18 13,Aa 8 17,Aa 9 18]
def aj6:LSO:=[Aa 19 9,Ay 20 19,Aa 21 20,.grp none 21 false
 [Ag 22 21 0,BA 23 21 22 1]
 24 (tm 23),Aa 25 24,.grp none 25 false
 [Ag 26 25 0,A5 27 25 26 3]
 28 (tm 27),Aa 29 28,.grp none 29 false
 [Ag 30 29 2,og 31 29 false (.build [(.int .i64 0),(.str []),(.str []),(.sl [] 0 (some 0)),(.sl [] 0 (some 0))] [(0,(1,(iv 4))),(1,(1,(.av (.str [97])))),(3,(1,(tm 30)))]),
 AI 32 29 52 31,Cc 33 29 32 0]
 34 (tm 33)]
def aj5:LSO:=[Af 6,Af 7]
def aj4:LSO:=[Am 10]
def aj3:LSO:=[Aa 35 2,An 36 35,Ab 37 0]
def aj2:LSO:=[Ak 38 37 36]
def aj1:LSO:=[Aq 39 2 35 37,Ap 40 2 39,Cb 12,Ai 2 12 40]
def aj0:LSO:=[Aa 41 0,AF 42 41 2]
def ajZ:LSO:=[Ac 43 1 12,Ad 44 1 43,Aj 45 67 44,Ac 46 1 12,Ai 1 46 45]
def ajx:LSO:=[Aa 47 10,Ap 48 2 12,o1 49 (.bslice false 2 1 [(.int .i64 0),(.str [])] [(0,(2,(tm 48)))]),o1 50 (.app 1 2 24 [(.int .i64 0),(.str [])] (tm 47) (tm 49)),
 Aa 10 50]
def ajw:LSO:=[Ah 51 37 1,Aa 37 51]
def ajv:LSO:=[Aa 52 8,Aa 53 10,Aw 54 144 52 53,Aa 6 54,Ax 7]
def ajr:aW:=⟨55,(.seq (.sreg aj8 [])
 (.seq (.sreg aj7 Cs)
 (.seq (.seq (.sreg aj6 Cp)
 (.cond (tm 34) (.seq (.sreg aj5 [])
 .ret)
 .skip))
 (.seq (.sreg aj4 [])
 (.seq (.seq (.sreg aj3 [])
 (.block 0 (.loop (.seq (.sreg aj2 [])
 (.seq (.cond (tm 38) .skip
 (.exit 0))
 (.seq (.block 1 (.seq (.sreg aj1 Ch)
 (.seq (.seq (.sreg aj0 Cg)
 (.cond (tm 42) (.sreg ajZ [false,false,false,false])
 .skip))
 (.sreg ajx Cj))))
 (.sreg ajw Cg)))))))
 (.seq (.sreg ajv Co)
 .ret)))))),[(.tmp 6),(.tmp 7)]⟩
attribute [push_cast] aj8 aj7 aj6 aj5 aj4 aj3 aj2 aj1 aj0 ajZ ajx ajw ajv
theorem akw:bb Tryz.prog (fun _ _=>1) 102=some ajr.raw:=by kernel_rfl
set_option maxHeartbeats 8000000
set_option maxRecDepth 100000
theorem akV {l:List Pc} {cap:Option Nat} (hn:l.length≤1100000) (h:K (.tup [.int .i64 (if CJ l=true then 0 else 4),.int .i64 1]) L) :
   ad Tryz.prog 101 [Yc l cap,.int .i64 1,.int .i64 0] L K:=by
 have hty:eS [97]=true:=by decide
 replace h:=hid h
 refine ae akq (by simp [aiZ]) ?_
 simp only [aiZ,ar]
 refine wk ?_
 refine HA (by simp) ?_
 rw [hty]
 refine sk ?_
 refine wk ?_
 obtain ⟨M,hM⟩:∃ M,L++[Blk.cells [.int .i64 4,.str [97],.str [],.sl (b9 l) l.length cap,.sl [] 0 (some 0)]]=M:=⟨_,rfl⟩
 have hg:∀ X:List Blk,(M++X)[L.length]?=some (.cells [.int .i64 4,.str [97],.str [],.sl (b9 l) l.length cap,.sl [] 0 (some 0)]):=fun X=>by
   rw [← hM,List.append_assoc,List.getElem?_append_right (Nat.le_refl _),Nat.sub_self];rfl
 have hend:∀ (X:List Blk),M++X=L++(Blk.cells [.int .i64 4,.str [97],.str [],.sl (b9 l) l.length cap,.sl [] 0 (some 0)]::X):=fun X=>by
   rw [← hM,List.append_assoc];rfl
 replace hend:=hid hend
 rw [hM]
 have hMl:L.length≤M.length:=by rw [← hM];simp
 clear hM
 refine am (fun n T' L'=>∃ (i:Nat) (b:Bool) (Z:List Blk),n=l.length - i∧i≤l.length∧Hid ((b && Mj l.length i (l.drop i))=CJ l)∧T'=[(86,.int .i64 (i:Int)),(85,.int .i64 l.length),(84,.sl (b9 l) l.length cap),(11,.bool b),(2,.int .i64 1),(7,.int .i64 0),(6,.int .i64 0),(3,.ptr L.length 0)]∧L'=M++Z) (CutS (b:=by simp)) ⟨0,_,[],rfl,Nat.zero_le _,hid (by rw [CJ,Bool.and_comm];simp),rfl,by simp⟩ ?_
 rintro _ _ _ ⟨i,b,Z,rfl,hi,hI,rfl,rfl⟩
 by_cases hlt:i<l.length
 rotate_left
 · have hke:i=l.length:=by omega
   subst hke
   have g1:¬ (l.length:Int)<(l.length:Int):=by omega
   have hz:=hI.out
   rw [List.drop_length,Mj,Bool.and_true] at hz
   have h':=h.out
   rw [← hz] at h'
   clear hz hI
   cases b with
   | true =>
     replace h':=hid h'
     refine wk ?_
     rw [hend.out]
     exact ab rfl h'.out
   | false =>
     replace h':=hid h'
     refine wk ?_
     rw [hend.out]
     exact ab rfl h'.out
 have g1:(i:Int)<(l.length:Int):=by omega
 have g2:IntKind.i64.wrap ((i:Int)+1)=(i:Int)+1:=ac (by omega) (by omega)
 have e3:=LF hlt
 have e4:i * 2+2≤(b9 l).length:=by rw [Mi];omega
 obtain ⟨⟨x,t⟩,ha⟩:∃ a,l.getD i (0,[])=a:=⟨_,rfl⟩
 have hdr:l.drop i=(x,t)::l.drop (i+1):=by rw [List.drop_eq_getElem_cons hlt,← ha];simp [hlt]
 rw [ha] at e3
 simp only [pcA] at e3
 have hI2:=hI.out
 rw [hdr,Mj,← Bool.and_assoc] at hI2
 clear hdr ha hI
 replace hI2:=hid hI2
 refine wk ?_
 refine ak _ _ _ (by omega) (CutL (b:=by simp)) ⟨i+1,_,_,rfl,hlt,hid ?_,rfl,rfl⟩
 rw [← hI2.out]
 have hb:(!decide (t=[]) && decide ((x=1∨x=0∧(i:Int)=0)∨x=2∧(i:Int)+1=(l.length:Int))) = !TX l.length i (x,t):=by
   by_cases h0:t=[]
   · simp [TX,h0]
   · rw [decide_eq_false h0,TX,← decide_not,Bool.not_false,Bool.true_and,decide_eq_decide]
     simp only [h0,false_or]
     omega
 rw [Bool.and_assoc b,hb]
theorem aiS {l:List Pc} {cap:Option Nat} (hn:l.length≤1100000) (h:K (.int .i64 (if CJ l=true then 0 else 4)) L) :
   ad Tryz.prog 52 [Yc l cap] L K:=by
 obtain ⟨r,hr⟩:∃ r:Int,(if CJ l=true then 0 else 4)=r:=⟨_,rfl⟩
 rw [hr] at h
 replace h:=hid h
 refine ae akr (by simp [ai0]) ?_
 simp only [ai0,ar]
 refine wk ?_
 refine akV hn ?_
 rw [hr]
 refine sk ?_
 refine wk ?_
 exact ab rfl h.out
def ajq (g:List UInt8→Bool) (k:Int) (t s:List UInt8):Nat→Nat→Bool
 | 0,_=>false
 | f+1,a=>if a+t.length≤s.length then
     (if (s.drop a).take t.length ≠ t ∨ (k = 0 ∧ 0 < a) ∨ (k = 2 ∧ a + t.length < s.length) then ajq g k t s f (a + 1)
      else if g (s.drop (a+t.length))=true then true else if k=1 then false else ajq g k t s f (a+1))
   else false
def aiY:List Pc→List UInt8→Bool
 | [],_=>true
 | p::l,s=>ajq (aiY l) p.1 p.2 s (s.length+1) 0
theorem akI (k:Int) (t:List UInt8) (l:List Pc):b9 ((k,t)::l)=.int .i64 k :: .str t::b9 l:=rfl
theorem ak1:∀ (l:List Pc) {s:List UInt8} {cap:Option Nat} (hs:s.length≤100000) (hn:l.length≤1100000) (ht:∀ p∈l,(p.2.length:Int)≤140737488351232) {L:List Blk} {K:AV→List Blk→Prop} (h:K (.bool (aiY l s)) L),
   ad Tryz.prog 144 [.str s,.sl (b9 l) l.length cap] L K
 | [],s,cap,hs,hn,ht,L,K,h=>by
   replace h:=hid h
   refine ae ajM (by simp [aiQ]) ?_
   simp only [aiQ,ar]
   refine wk ?_
   exact aa h.out
 | (k,t)::l,s,cap,hs,hn,ht,L,K,h=>by
   have ih:∀ {s':List UInt8} {cap':Option Nat} (hs':s'.length≤100000) {L:List Blk} {K:AV→List Blk→Prop} (h:K (.bool (aiY l s')) L),ad Tryz.prog 144 [.str s',.sl (b9 l) l.length cap'] L K :=
     by intro s' cap' hs' L K h;exact ak1 l hs' (by simp at hn;omega) (fun p hp=>ht p (by simp [hp])) h
   replace ih:=@hid _ @ih
   have htl:=ht (k,t) (by simp)
   simp only at htl
   obtain ⟨R,hR⟩:∃ R,aiY ((k,t)::l) s=R:=⟨_,rfl⟩
   rw [hR] at h
   rw [aiY] at hR
   simp only at hR
   replace hR:=hid hR
   replace h:=hid h
   replace ht:=hid ht
   rw [akI]
   have hn2:l.length+1≤1100000:=by simpa using hn
   have hl1:((k,t)::l).length=l.length+1:=rfl
   rw [hl1]
   refine ae ajM (by simp [aiQ]) ?_
   simp only [aiQ,ar]
   refine wk ?_
   refine am (fun n T' L'=>∃ (a:Nat),n=s.length+1 - a∧a≤s.length+1∧Hid (ajq (aiY l) k t s (s.length+1 - a) a=R)∧T'=[(6,.int .i64 (a:Int)),(5,.str t),(4,.bool false),(0,.str s),(1,.sl (.int .i64 k :: .str t::b9 l) (l.length+1) cap)]∧L=L') (CutS (b:=by simp)) ⟨0,rfl,Nat.zero_le _,hR,rfl,rfl⟩ ?_
   rintro _ _ _ ⟨a,rfl,ha,hI,rfl,rfl⟩
   have w1:IntKind.i64.wrap ((a:Int)+(t.length:Int))=(a:Int)+(t.length:Int):=ac (by omega) (by omega)
   have w2:IntKind.i64.wrap ((a:Int)+1)=(a:Int)+1:=ac (by omega) (by omega)
   by_cases h1:(a:Int)+(t.length:Int)≤(s.length:Int)
   rotate_left
   · have hI2:=hI.out
     have hf:ajq (aiY l) k t s (s.length+1 - a) a=false:=by
       cases s.length+1 - a with
       | zero=>rfl
       | succ f=>rw [ajq,if_neg (by omega)]
     rw [hf] at hI2
     rw [← hI2] at h
     clear hI2 hI hf
     refine wk ?_
     exact aa h.out
   have z1:((l.length:Int)+1).toNat - 1=l.length:=by omega
   have z2:(b9 l).take (l.length * 2)=b9 l:=by rw [← Mi,List.take_length]
   have z3:((a:Int)+(t.length:Int)).toNat=a+t.length:=by omega
   have z4:(s.drop (a+t.length)).take (s.length - (a+t.length))=s.drop (a+t.length):=by
     rw [← List.length_drop,List.take_length]
   have z5:a+t.length - a=t.length:=by omega
   obtain ⟨f,hf⟩:∃ f,s.length+1 - a=f+1:=⟨s.length - a,by omega⟩
   have hf2:s.length+1 - (a+1)=f:=by omega
   have hI2:=hI.out
   rw [hf,ajq,if_pos (by omega)] at hI2
   clear hI
   obtain ⟨b,hb⟩:∃ b,decide ((¬ (s.drop a).take t.length=t∨k=0∧(0:Int)<(a:Int))∨k=2∧(a:Int)+(t.length:Int)<(s.length:Int))=b:=⟨_,rfl⟩
   have hbb:b=true↔((s.drop a).take t.length≠t∨(k=0∧0<a)∨(k=2∧a+t.length<s.length)):=by
     rw [← hb,decide_eq_true_iff,or_assoc]
     simp only [Int.natCast_pos,ne_eq]
     rw [show ((a:Int)+(t.length:Int)<(s.length:Int))↔(a+t.length<s.length) by omega]
   cases b with
   | true =>
     rw [if_pos (hbb.1 rfl)] at hI2
     clear hbb
     replace hI2:=hid hI2
     refine wk ?_
     exact ak _ _ _ (by omega) (CutL (b:=by simp)) ⟨a+1,rfl,by omega,hid (by rw [hf2];exact hI2.out),rfl,rfl⟩
   | false =>
     rw [if_neg (fun e=>by have:=hbb.2 e;cases this)] at hI2
     clear hbb
     have hsd:(s.drop (a+t.length)).length≤100000:=by rw [List.length_drop];omega
     have kk1:Hid (Ctr Tryz.prog 144 [.str (s.drop (a+t.length)),.sl (b9 l) l.length (Option.map (fun x=>x - 1) cap)] (.bool (aiY l (s.drop (a+t.length))))):=@hid _ (by intro L K h;exact ih.out hsd h)
     obtain ⟨r,hr⟩:∃ r,aiY l (s.drop (a+t.length))=r:=⟨_,rfl⟩
     rw [hr] at hI2
     cases r with
     | true =>
       rw [if_pos rfl] at hI2
       rw [← hI2] at h
       clear hI2
       refine wk ?_
       exact aa h.out
     | false =>
       rw [if_neg (by simp)] at hI2
       by_cases hk:k=1
       · rw [if_pos hk] at hI2
         rw [← hI2] at h
         have hb2:(s.drop a).take t.length=t:=Decidable.not_not.1 (fun e=>of_decide_eq_false hb (.inl (.inl e)))
         have hb3:(s.drop a).take t.length≠t↔False:=by rw [hb2];simp
         clear hb
         clear hI2
         refine wk ?_
         exact aa h.out
       · rw [if_neg hk] at hI2
         replace hI2:=hid hI2
         refine wk ?_
         exact ak _ _ _ (by omega) (CutL (b:=by simp)) ⟨a+1,rfl,by omega,hid (by rw [hf2];exact hI2.out),rfl,rfl⟩
abbrev pcM (ex:Bool) (p:Pc):Pc:=(p.1,pcT ex p)
def akK (syn:Int) (v:List UInt8) (l:List Pc):Option Bool:=match bU syn v with
 | none=>none
 | some s=>if (syn=1∨syn=2∨syn=3)∧CJ l=true then some (aiY (l.map (pcM (decide (syn=2)))) s) else none
theorem akM:∀ l:List Pc,AV.frzL (b9 l)=b9 l
 | []=>rfl
 | (k,t)::l=>by rw [akI];simp only [AV.frzL,AV.frz,akM l]
theorem akR (ex:Bool) (p:Pc):(pcT ex p).length=p.2.length:=by
 unfold pcT;split<;>simp [ah]
theorem ak0 (l m:List Pc):b9 (l++m)=b9 l++b9 m:=by simp [b9]
theorem ak4 {l:List Pc} {n i:Nat} (hl:l.length=n) {s:List UInt8} (hs:s.length≤100000) (hn:l.length≤1100000) (ht:∀ p∈l,(p.2.length:Int)≤140737488351232) (h:K (.bool (aiY l s)) L) :
   ad Tryz.prog 144 [.str s,.gsl (b9 l) n i 2] L K:=by
 subst hl
 exact fH (by simpa only [AV.frzL,AV.frz,akM] using ak1 l (cap:=none) hs hn ht h)
theorem ak3 {syn:Int} {v:List UInt8} {l:List Pc} {cap:Option Nat} (hn:l.length≤1000) (ht:∀ p∈l,(p.2.length:Int)≤140737488351232) (h:K (PG (akK syn v l)) L) :
   ad Tryz.prog 102 [.int .i64 syn,.str v,.sl (b9 l) l.length cap] L K:=by
 have hn6:l.length≤1100000:=by omega
 unfold akK at h
 refine ae akw (by simp [ajr]) ?_
 simp only [ajr,ar]
 refine wk ?_
 refine Kr ?_
 rcases hs:bU syn v with _|s
 · rw [hs] at h
   simp only [PG] at h
   replace h:=hid h
   simp only [fD]
   refine sk ?_
   refine wk ?_
   exact aa h.out
 rw [hs] at h
 simp only at h
 simp only [fD]
 by_cases h3:syn=1∨syn=2∨syn=3
 rotate_left
 · rw [if_neg (fun e=>h3 e.1)] at h
   simp only [PG] at h
   replace h:=hid h
   clear hs
   by_cases k1:syn<1
   · clear h3
     refine sk ?_
     refine wk ?_
     exact aa h.out
   · have k2:3<syn:=by omega
     clear h3
     refine sk ?_
     refine wk ?_
     exact aa h.out
 have hsl:=Px hs h3
 clear hs
 cases hok:CJ l with
 | false =>
   rw [hok,if_neg (by simp)] at h
   simp only [PG] at h
   replace h:=hid h
   have e4:(if false=true then (0:Int) else 4)=4:=rfl
   rcases h3 with rfl|rfl|rfl
   · refine sk ?_
     have kk1:=@hid _ (fun L K=>aiS (cap:=cap) hn6 (L:=L) (K:=K))
     refine wk ?_
     exact aa h.out
   · refine sk ?_
     have kk1:=@hid _ (fun L K=>aiS (cap:=cap) hn6 (L:=L) (K:=K))
     refine wk ?_
     exact aa h.out
   · refine sk ?_
     have kk1:=@hid _ (fun L K=>aiS (cap:=cap) hn6 (L:=L) (K:=K))
     refine wk ?_
     exact aa h.out
 | true =>
 rw [if_pos ⟨h3,hok⟩] at h
 obtain ⟨ex,hex⟩:∃ ex,decide (syn=2)=ex:=⟨_,rfl⟩
 rw [hex] at h
 simp only [PG] at h
 replace h:=hid h
 replace ht:=hid ht
 refine sk ?_
 iterate 1 first
   | refine a8 ?_
   | (first|refine aP (by kernel_rfl) ?_|refine aB (by kernel_rfl) ?_|refine aC ?_|refine bj ?_|refine aX (fun _=>?_)|refine ay ?_|refine aS ?_)
     simp (config:={ maxSteps:=2000000 }) only [Kon,push_cast,reduceIte,Nat.reduceEqDiff,Nat.reduceAdd,Nat.reduceMul,Nat.reduceSub,Nat.reduceLT,Nat.reduceLeDiff,Int.reduceLT,Int.reduceLE,Int.reduceAdd,Int.reduceSub,Int.reduceNeg,Int.reduceToNat,Int.reduceEq,reduceCtorEq, *]
   | (first|refine aL (by kernel_rfl) ?_|refine aQ ?_|refine aR ?_|refine ba (ax ?_))
     simp only [push_cast,reduceIte,Nat.reduceEqDiff,Nat.reduceAdd,Nat.reduceMul,Nat.reduceSub,Nat.reduceLT,Nat.reduceLeDiff,Int.reduceLT,Int.reduceLE,Int.reduceAdd,Int.reduceSub,Int.reduceNeg,Int.reduceToNat,Int.reduceEq,reduceCtorEq, *]
   | exact aY
   | first|apply aZ|apply aM|apply a6|apply aN|apply a7|apply aO
   | refine aF ?_
   | first|refine aD rfl ?_|refine aE rfl ?_|refine ap rfl ?_ ?_|refine aH rfl (fun _=>?_) (fun _=>?_)|refine aG rfl (fun _=>?_) (fun _=>?_)
   | ((first|refine ao (fun _=>?_) (fun _=>?_)|refine aw (fun _=>?_) (fun _=>?_))<;>try simp (config:={ maxSteps:=2000000 }) only [Kon,push_cast,reduceIte,Nat.reduceEqDiff,Nat.reduceAdd,Nat.reduceMul,Nat.reduceSub,Nat.reduceLT,Nat.reduceLeDiff,Int.reduceLT,Int.reduceLE,Int.reduceAdd,Int.reduceSub,Int.reduceNeg,Int.reduceToNat,Int.reduceEq,reduceCtorEq, *])
   | refine And.intro trivial ?_
   | refine And.intro (by omega) ?_
   | refine aI rfl (fun _=>?_) (fun _=>?_)
   | refine And.intro ?_ ?_
 refine DG (fun T2 L2=>T2=[(8,.str s),(0,.int .i64 syn),(2,.sl (b9 l) l.length cap)]∧L=L2) ?_ ?_
 · rcases h3 with rfl|rfl|rfl
   · have kk1:=@hid _ (fun L K=>aiS (cap:=cap) hn6 (L:=L) (K:=K))
     refine wk ?_
     exact eV _ _ (CutL (b:=by simp)) ⟨rfl,rfl⟩
   · have kk1:=@hid _ (fun L K=>aiS (cap:=cap) hn6 (L:=L) (K:=K))
     refine wk ?_
     exact eV _ _ (CutL (b:=by simp)) ⟨rfl,rfl⟩
   · have kk1:=@hid _ (fun L K=>aiS (cap:=cap) hn6 (L:=L) (K:=K))
     refine wk ?_
     exact eV _ _ (CutL (b:=by simp)) ⟨rfl,rfl⟩
 rintro _ _ ⟨rfl,rfl⟩ -
 clear hok
 refine wk ?_
 refine ch (l:=[]) (n:=0) 10 2 rfl (Nat.zero_mul 2).symm ?_
 refine am (fun n T' L'=>∃ (i:Nat) (Y:List Blk),n=l.length - i∧i≤l.length∧T'=[(37,.int .i64 (i:Int)),(36,.int .i64 l.length),(35,.sl (b9 l) l.length cap),(10,.gsl (b9 ((l.take i).map (pcM ex))) i L.length 2),(8,.str s),(0,.int .i64 syn)]∧L'=L++(.spare i 2::Y)) (CutS (b:=by simp)) ⟨0,[],rfl,Nat.zero_le _,rfl,rfl⟩ ?_
 rintro _ _ _ ⟨i,Y,rfl,hi,rfl,rfl⟩
 by_cases hlt:i<l.length
 rotate_left
 · have hke:i=l.length:=by omega
   subst hke
   have g1:¬ (l.length:Int)<(l.length:Int):=by omega
   have hml:(l.map (pcM ex)).length=l.length:=by simp
   have hm6:(l.map (pcM ex)).length≤1100000:=by omega
   have hmt:∀ p∈l.map (pcM ex),(p.2.length:Int)≤140737488351232:=fun p hp=>by
     obtain ⟨q,hq,rfl⟩:=List.mem_map.1 hp
     simp only [pcM,akR]
     exact ht.out q hq
   have hs5:s.length≤100000:=by omega
   rw [List.take_length]
   replace hmt:=hid hmt
   refine wk ?_
   refine ak4 hml hs5 hm6 hmt.out ?_
   refine sk ?_
   refine wk ?_
   exact ab rfl h.out
 have g1:(i:Int)<(l.length:Int):=by omega
 have g2:IntKind.i64.wrap ((i:Int)+1)=(i:Int)+1:=ac (by omega) (by omega)
 have e3:=LF hlt
 have e4:i * 2+2≤(b9 l).length:=by rw [Mi];omega
 obtain ⟨⟨x,t⟩,ha⟩:∃ a,l.getD i (0,[])=a:=⟨_,rfl⟩
 have hmem:(x,t)∈l:=by rw [← ha];simp [hlt]
 have htl:=ht.out (x,t) hmem
 simp only at htl
 have htk:l.take (i+1)=l.take i++[(x,t)]:=by rw [List.take_succ_eq_append_getElem hlt,← ha];simp [hlt]
 rw [ha] at e3
 simp only [pcA] at e3
 clear ha hmem
 have q3:(i+1) * 24≤140737488355328:=by omega
 have q4:i+1≤140737488355328:=by omega
 obtain ⟨acc,hacc⟩:∃ acc,b9 ((l.take i).map (pcM ex))=acc:=⟨_,rfl⟩
 have hnew:b9 ((l.take (i+1)).map (pcM ex))=acc++[.int .i64 x,.str (pcT ex (x,t))]:=by
   rw [htk,List.map_append,ak0,hacc];rfl
 rw [hacc]
 replace hnew:=hid hnew
 clear hacc htk
 cases ex with
 | true =>
   have hs2:syn=2:=of_decide_eq_true hex
   subst hs2
   clear h3 hex
   refine wk ?_
   have e6:acc++[.int .i64 x,.str t]=b9 ((l.take (i+1)).map (pcM true)):=hnew.out.symm
   rw [e6]
   exact ak _ _ _ (by omega) (CutL (b:=by simp)) ⟨i+1,_,rfl,hlt,rfl,rfl⟩
 | false =>
   have hs2:¬ syn=2:=of_decide_eq_false hex
   clear h3 hex
   have kk1:=@hid _ (fun L K=>bd htl (L:=L) (K:=K))
   refine wk ?_
   have e6:acc++[.int .i64 x,.str (ah t)]=b9 ((l.take (i+1)).map (pcM false)):=hnew.out.symm
   rw [e6]
   exact ak _ _ _ (by omega) (CutL (b:=by simp)) ⟨i+1,_,rfl,hlt,rfl,rfl⟩
theorem aiX {s T:List UInt8} {a:Nat}:Lib.occAt s T a=true↔(s.drop a).take T.length=T:=by
 unfold Lib.occAt
 rw [List.isPrefixOf_iff_prefix,List.prefix_iff_eq_take]
 exact ⟨fun h=>h.symm,fun h=>h.symm⟩
theorem akN {s T:List UInt8} {a:Nat} (hT:T≠[]) (h:Lib.occAt s T a=true):a+T.length≤s.length:=by
 have h1:=aiX.1 h
 have h2:=congrArg List.length h1
 simp only [List.length_take,List.length_drop] at h2
 have:0<T.length:=List.length_pos_iff.2 hT
 omega
theorem akb {g:List UInt8→Bool} {k:Int} {T s:List UInt8} {f a:Nat} (h1:a+T.length≤s.length) (h:(s.drop a).take T.length≠T∨(k=0∧0<a)∨(k=2∧a+T.length<s.length)):ajq g k T s (f+1) a=ajq g k T s f (a+1):=by
 rw [ajq,if_pos h1,if_pos h]
theorem akL {g:List UInt8→Bool} {k:Int} {T s:List UInt8} {f a:Nat} (h1:a+T.length≤s.length) (h:¬ ((s.drop a).take T.length≠T∨(k=0∧0<a)∨(k=2∧a+T.length<s.length))) :
   ajq g k T s (f+1) a=if g (s.drop (a+T.length))=true then true else if k=1 then false else ajq g k T s f (a+1):=by
 rw [ajq,if_pos h1,if_neg h]
theorem aky {g:List UInt8→Bool} {k:Int} {T s:List UInt8} {f a:Nat} (h1:¬ a+T.length≤s.length):ajq g k T s (f+1) a=false:=by
 rw [ajq,if_neg h1]
theorem alb {g:List UInt8→Bool} {T s:List UInt8} (hT:T≠[]):∀ (f a:Nat),s.length+1 - a≤f→(∀ j,j<a→Lib.occAt s T j=false) →
   ajq g 1 T s f a=if Lib.index s T<0 then false else g (s.drop ((Lib.index s T).toNat+T.length))
 | 0,a,hf,hn=>by
   rw [Lib.index_none fun j hj=>hn j (by omega),if_pos (by decide)];rfl
 | f+1,a,hf,hn=>by
   by_cases h1:a+T.length≤s.length
   · by_cases h2:(s.drop a).take T.length=T
     · rw [akL h1 (by rintro (e|e|e);exact e h2;exact absurd e.1 (by decide);exact absurd e.1 (by decide))]
       rw [Lib.index_first (i:=a) (by omega) (aiX.2 h2) hn,if_neg (show ¬ ((a:Int)<0) by omega)]
       rw [show ((a:Int)).toNat=a from rfl]
       cases g (s.drop (a+T.length))<;>simp
     · rw [akb h1 (.inl h2)]
       refine alb hT f (a+1) (by omega) fun j hj=>?_
       rcases Nat.lt_or_ge j a with q|q
       · exact hn j q
       · have:j=a:=by omega
         subst this
         cases ho:Lib.occAt s T j with
         | false=>rfl
         | true=>exact absurd (aiX.1 ho) h2
   · rw [aky h1,Lib.index_none fun j hj=>?_,if_pos (by decide)]
     rcases Nat.lt_or_ge j a with q|q
     · exact hn j q
     · cases ho:Lib.occAt s T j with
       | false=>rfl
       | true=>have:=akN hT ho;omega
theorem ak8 {g:List UInt8→Bool} {T s:List UInt8}:∀ (f a:Nat),0<a→ajq g 0 T s f a=false
 | 0,_,_=>rfl
 | f+1,a,ha=>by
   rw [ajq]
   split
   · rw [if_pos (.inr (.inl ⟨rfl,ha⟩))]
     exact ak8 f (a+1) (by omega)
   · rfl
theorem ala {g:List UInt8→Bool} {T s:List UInt8}:∀ (f a:Nat),s.length+1 - a≤f →
   ajq g 2 T s f a=if a+T.length≤s.length∧Lib.occAt s T (s.length - T.length)=true then g [] else false
 | 0,a,hf=>by rw [if_neg (by omega)];rfl
 | f+1,a,hf=>by
   have ih:=ala (g:=g) (T:=T) (s:=s) f (a+1) (by omega)
   by_cases h1:a+T.length≤s.length
   · by_cases h2:a+T.length<s.length
     · rw [akb h1 (.inr (.inr ⟨rfl,h2⟩)),ih]
       have:(a+1+T.length≤s.length∧Lib.occAt s T (s.length - T.length)=true)↔(a+T.length≤s.length∧Lib.occAt s T (s.length - T.length)=true):=⟨fun e=>⟨h1,e.2⟩,fun e=>⟨by omega,e.2⟩⟩
       simp only [this]
     · have ea:s.length - T.length=a:=by omega
       rw [ea] at ih ⊢
       have ih2:ajq g 2 T s f (a+1)=false:=by rw [ih,if_neg (fun e=>by omega)]
       by_cases h3:(s.drop a).take T.length=T
       · rw [akL h1 (by rintro (e|e|e);exact e h3;exact absurd e.1 (by decide);exact h2 e.2),ih2]
         rw [if_pos (show a+T.length≤s.length∧Lib.occAt s T a=true from ⟨h1,aiX.2 h3⟩)]
         rw [show s.drop (a+T.length)=[] from List.drop_eq_nil_of_le (by omega)]
         cases g []<;>simp
       · rw [akb h1 (.inl h3),ih2,if_neg]
         rintro ⟨_,e⟩
         exact h3 (aiX.1 e)
   · rw [aky h1,if_neg (fun e=>h1 e.1)]
theorem ak2 {s T:List UInt8} (h:T.length≤s.length):Lib.hasSuffix s T=Lib.occAt s T (s.length - T.length):=by
 rw [Bool.eq_iff_iff]
 unfold Lib.hasSuffix Lib.occAt
 rw [List.isSuffixOf_iff_suffix,List.isPrefixOf_iff_prefix]
 constructor
 · intro e
   rw [List.suffix_iff_eq_drop] at e
   rw [← e]
   exact List.prefix_refl _
 · intro e
   have:T=s.drop (s.length - T.length):=e.eq_of_length (by rw [List.length_drop];omega)
   rw [this]
   exact List.drop_suffix _ _
theorem akO (ex:Bool):∀ (l:List Pc) (n i:Nat) (s:List UInt8),Mj n i l=true→n=i+l.length→aiY (l.map (pcM ex)) s=QT ex s l
 | [],_,_,_,_,_=>rfl
 | (k,t)::l,n,i,s,h,hn=>by
   rw [Mj,Bool.and_eq_true] at h
   obtain ⟨hb,h⟩:=h
   simp only [TX,Bool.not_eq_true',decide_eq_false_iff_not,not_or] at hb
   obtain ⟨b1,b2,b3,b4,b5⟩:=hb
   have ih:=fun s'=>akO ex l n (i+1) s' h (by simp at hn;omega)
   rw [List.map_cons,aiY,QT]
   simp only [pcM]
   obtain ⟨T,hTT⟩:∃ T,pcT ex (k,t)=T:=⟨_,rfl⟩
   have hT:T≠[]:=by
     rw [← hTT]
     intro e
     have:=akR ex (k,t)
     rw [e] at this
     exact b1 (List.length_eq_zero_iff.1 this.symm)
   rw [hTT]
   have hTl:0<T.length:=List.length_pos_iff.2 hT
   rcases (by omega:k=0∨k=1∨k=2) with rfl|rfl|rfl
   · cases hp:Lib.hasPrefix s T with
     | false =>
       rw [if_pos (show ((0:Int)=0∧false=false)∨((0:Int)=2∧Lib.hasSuffix s T=false)∨Lib.index s T<0 from .inl ⟨rfl,rfl⟩)]
       have hno:¬ (s.drop 0).take T.length=T:=fun e=>by
         have:=aiX.2 e
         unfold Lib.occAt at this
         rw [List.drop_zero] at this
         unfold Lib.hasPrefix at hp
         rw [hp] at this;cases this
       by_cases h1:0+T.length≤s.length
       · rw [akb h1 (.inl hno)];exact ak8 _ _ (by omega)
       · exact aky h1
     | true =>
       have hoc:Lib.occAt s T 0=true:=by unfold Lib.occAt;rw [List.drop_zero];exact hp
       have hroom:=akN hT hoc
       rw [akL hroom (by rintro (e|e|e);exact e (aiX.1 hoc);omega;exact absurd e.1 (by decide))]
       have hix:Lib.index s T=0:=Lib.index_first (i:=0) (Nat.zero_le _) hoc (fun j hj=>by omega)
       rw [if_neg (show ¬ (((0:Int)=0∧true=false)∨((0:Int)=2∧Lib.hasSuffix s T=false)∨Lib.index s T<0) by rintro (e|e|e);exact absurd e.2 (by decide);exact absurd e.1 (by decide);omega)]
       rw [hix,show (0:Int).toNat=0 from rfl,ih]
       cases hg:QT ex (s.drop (0+T.length)) l with
       | true=>simp
       | false=>rw [if_neg (by decide),if_neg (by decide),ak8 _ _ (by omega)]
   · rw [alb hT _ _ (by omega) (fun j hj=>by omega)]
     by_cases hix:Lib.index s T<0
     · rw [if_pos hix,if_pos (.inr (.inr hix))]
     · rw [if_neg hix,if_neg (by rintro (e|e|e);exact absurd e.1 (by decide);exact absurd e.1 (by decide);exact hix e),ih]
   · have hl:l=[]:=by
       have:¬ i+1<n:=fun e=>b5 ⟨rfl,e⟩
       simp at hn
       exact List.length_eq_zero_iff.1 (by omega)
     subst hl
     rw [ala _ _ (by omega)]
     simp only [List.map_nil,QT,aiY]
     by_cases hle:T.length≤s.length
     · rw [ak2 hle]
       cases ho:Lib.occAt s T (s.length - T.length) with
       | false=>rw [if_neg (by simp),if_pos (.inr (.inl ⟨trivial,rfl⟩))]
       | true =>
         rw [if_pos ⟨by omega,rfl⟩,if_neg]
         rintro (e|e|e)
         · exact absurd e.1 (by decide)
         · exact absurd e.2 (by decide)
         · rcases Lib.index_spec s T with ⟨_,q⟩|⟨j,q,_⟩
           · rw [q _ (by omega)] at ho;cases ho
           · omega
     · rw [if_neg (fun e=>hle (by omega)),if_pos]
       refine .inr (.inl ⟨trivial,?_⟩)
       cases hs:Lib.hasSuffix s T with
       | false=>rfl
       | true =>
         unfold Lib.hasSuffix at hs
         exact absurd (List.isSuffixOf_iff_suffix.1 hs).length_le hle
theorem akQ (syn:Int) (v:List UInt8) (l:List Pc):akK syn v l=CP syn v l:=by
 unfold akK CP
 rcases bU syn v with _|s
 · rfl
 · simp only
   split
   · rename_i h
     have:=h.2
     unfold CJ at this
     rw [Bool.and_eq_true] at this
     rw [akO _ l l.length 0 s this.1 (by omega)]
   · rfl
theorem akP {a b:List UInt8} (ha:0<a.length) (hb:0<b.length) (h1:a.getD 0 0≠45) (h2:b.getD 0 0≠45) (h:K (.bool (aih a b)) L):ad Tryz.prog 145 [.str a,.str b] L K:=by
 unfold aih at h
 obtain ⟨x,hx⟩:∃ x,a.getD 0 0=x:=⟨_,rfl⟩
 obtain ⟨y,hy⟩:∃ y,b.getD 0 0=y:=⟨_,rfl⟩
 rw [hx] at h1
 rw [hy] at h2
 have k1:¬ (x.toNat:Int)=45:=fun e=>h1 ((be x 45).1 e)
 have k2:¬ (y.toNat:Int)=45:=fun e=>h2 ((be y 45).1 e)
 have g1:(0:Int)<(a.length:Int):=by omega
 have g2:(0:Int)<(b.length:Int):=by omega
 rw [show decide (a.length<b.length)=decide ((a.length:Int)<(b.length:Int)) by simp,show decide (a.length=b.length)=decide ((a.length:Int)=(b.length:Int)) by rw [decide_eq_decide];omega] at h
 replace h:=hid h
 clear h1 h2
 refine ae ahK (by simp [ahL]) ?_
 simp only [ahL,ar]
 refine wk ?_
 exact aa h.out
theorem akS {m n:Int} (hm:I64 m) (hn:I64 n) (h:K (.bool (decide (m<n))) L):ad Tryz.prog 145 [.str (Lib.itoa m),.str (Lib.itoa n)] L K:=by
 have sm:=aga hm
 have sn:=aga hn
 rw [← aif] at h
 have dpos:∀ u:Nat,0<(Lib.decDigits u).length∧(Lib.decDigits u).getD 0 0≠45:=fun u=>by
   obtain ⟨c,r,e,c1,_⟩:=qV u
   rw [e]
   exact ⟨by simp,fun h=>by simp only [List.getD_cons_zero] at h;rw [h] at c1;exact absurd c1 (by decide)⟩
 have pos:∀ k:Int,¬ k<0→Lib.itoa k=Lib.decDigits k.toNat:=fun k hk=>by rw [Lib.itoa,if_neg hk]
 have neg:∀ k:Int,k<0→Lib.itoa k=45::Lib.decDigits k.natAbs:=fun k hk=>by rw [Lib.itoa,if_pos hk]
 by_cases h1:m<0
 · by_cases h2:n<0
   · rw [neg m h1,neg n h2] at h ⊢
     obtain ⟨a,ha⟩:∃ a,Lib.decDigits m.natAbs=a:=⟨_,rfl⟩
     obtain ⟨b,hb⟩:∃ b,Lib.decDigits n.natAbs=b:=⟨_,rfl⟩
     obtain ⟨a1,a2⟩:=dpos m.natAbs
     obtain ⟨b1,b2⟩:=dpos n.natAbs
     rw [neg m h1] at sm
     rw [neg n h2] at sn
     rw [ha] at h a1 a2 sm ⊢
     rw [hb] at h b1 b2 sn ⊢
     have e:aii (45::a) (45::b)=aih b a:=rfl
     rw [e] at h
     replace h:=hid h
     have q1:(45::a).getD 0 0=45:=rfl
     have q2:(45::b).getD 0 0=45:=rfl
     have q3:((45:UInt8).toNat:Int)=45:=rfl
     have q4:(45::a).drop 1=a:=rfl
     have q5:(45::b).drop 1=b:=rfl
     have q6:(45::a).length=a.length+1:=rfl
     have q7:(45::b).length=b.length+1:=rfl
     have q8:(0:Int)<(a.length:Int)+1:=by omega
     have q9:(0:Int)<(b.length:Int)+1:=by omega
     have t1:a.take (((a.length:Int)+1).toNat - 1)=a:=by rw [show ((a.length:Int)+1).toNat - 1=a.length by omega,List.take_length]
     have t2:b.take (((b.length:Int)+1).toNat - 1)=b:=by rw [show ((b.length:Int)+1).toNat - 1=b.length by omega,List.take_length]
     have t3:(1:Int)≤(a.length:Int)+1:=by omega
     have t4:(1:Int)≤(b.length:Int)+1:=by omega
     clear ha hb
     refine ae ahK (by simp [ahL]) ?_
     simp only [ahL,ar]
     have kk1:=@hid _ (fun L K=>akP b1 a1 b2 a2 (L:=L) (K:=K))
     refine wk ?_
     exact aa h.out
   · rw [neg m h1,pos n h2] at h ⊢
     obtain ⟨a,ha⟩:∃ a,Lib.decDigits m.natAbs=a:=⟨_,rfl⟩
     obtain ⟨b,hb⟩:∃ b,Lib.decDigits n.toNat=b:=⟨_,rfl⟩
     obtain ⟨b1,b2⟩:=dpos n.toNat
     rw [ha] at h ⊢
     rw [hb] at h b1 b2 ⊢
     obtain ⟨y,hy⟩:∃ y,b.getD 0 0=y:=⟨_,rfl⟩
     rw [hy] at b2
     have e:aii (45::a) b=true:=by
       unfold aii
       rw [hy]
       simp [b2]
     rw [e] at h
     replace h:=hid h
     have k2:¬ (y.toNat:Int)=45:=fun e=>b2 ((be y 45).1 e)
     have q1:(45::a).getD 0 0=45:=rfl
     have q3:((45:UInt8).toNat:Int)=45:=rfl
     have q6:(45::a).length=a.length+1:=rfl
     have q8:(0:Int)<(a.length:Int)+1:=by omega
     have q9:(0:Int)<(b.length:Int):=by omega
     clear ha hb e
     refine ae ahK (by simp [ahL]) ?_
     simp only [ahL,ar]
     refine wk ?_
     exact aa h.out
 · by_cases h2:n<0
   · rw [pos m h1,neg n h2] at h ⊢
     obtain ⟨a,ha⟩:∃ a,Lib.decDigits m.toNat=a:=⟨_,rfl⟩
     obtain ⟨b,hb⟩:∃ b,Lib.decDigits n.natAbs=b:=⟨_,rfl⟩
     obtain ⟨a1,a2⟩:=dpos m.toNat
     rw [ha] at h a1 a2 ⊢
     rw [hb] at h ⊢
     obtain ⟨x,hx⟩:∃ x,a.getD 0 0=x:=⟨_,rfl⟩
     rw [hx] at a2
     have e:aii a (45::b)=false:=by
       unfold aii
       rw [hx]
       simp [a2]
     rw [e] at h
     replace h:=hid h
     have k2:¬ (x.toNat:Int)=45:=fun e=>a2 ((be x 45).1 e)
     have q1:(45::b).getD 0 0=45:=rfl
     have q3:((45:UInt8).toNat:Int)=45:=rfl
     have q6:(45::b).length=b.length+1:=rfl
     have q8:(0:Int)<(b.length:Int)+1:=by omega
     have q9:(0:Int)<(a.length:Int):=by omega
     clear ha hb e
     refine ae ahK (by simp [ahL]) ?_
     simp only [ahL,ar]
     refine wk ?_
     exact aa h.out
   · rw [pos m h1,pos n h2] at h ⊢
     obtain ⟨a1,a2⟩:=dpos m.toNat
     obtain ⟨b1,b2⟩:=dpos n.toNat
     refine akP a1 b1 a2 b2 ?_
     unfold aii at h
     rwa [if_neg (fun e=>a2 e.1),if_neg (fun e=>e.elim a2 b2)] at h
def ak6 (syn:Int) (x y:List UInt8):Int:=if x=y then 0 else if (if syn=4 then decide (K7 x<K7 y) else Op.bytesLess x y)=true then -1 else 1
theorem ak5 {syn:Int} {x y:List UInt8} (hx:syn=4→k8 x=true) (hy:syn=4→k8 y=true):ak6 syn x y=Yg syn x y:=by
 unfold ak6 Yg
 by_cases h4:syn=4
 · rw [if_pos h4,if_pos h4]
   have inj:x=y↔K7 x=K7 y:=⟨fun e=>by rw [e],fun e=>by rw [← afP (hx h4),← afP (hy h4),e]⟩
   unfold P7
   by_cases he:x=y
   · have:=inj.1 he
     rw [if_pos he,if_neg (by omega),if_neg (by omega)]
   · have h1:¬ K7 x=K7 y:=fun e=>he (inj.2 e)
     rw [if_neg he]
     by_cases h2:K7 x<K7 y
     · simp [h2]
     · simp [h2,show K7 y<K7 x by omega]
 · rw [if_neg h4,if_neg h4,bytesLess_eq,OX]
   by_cases he:x=y
   · subst he
     rw [if_pos rfl,if_neg (List.lt_irrefl _),if_neg (List.lt_irrefl _)]
   · rw [if_neg he]
     by_cases h2:x<y
     · simp [h2]
     · have h3:y<x:=by
         rcases List.le_iff_lt_or_eq.1 (List.not_lt.1 h2) with e|e
         · exact e
         · exact absurd e.symm he
       simp [h2,h3]
theorem akJ {syn:Int} {a b:List UInt8} (h:K (QL (k7 syn a b)) L):ad Tryz.prog 103 [.int .i64 syn,.str a,.str b] L K:=by
 unfold k7 at h
 refine ae ahM (by simp [ahN]) ?_
 simp only [ahN,ar]
 refine wk ?_
 refine Kr ?_
 rcases ha:bU syn a with _|x
 · rw [ha] at h
   simp only [QL] at h
   replace h:=hid h
   simp only [fD]
   refine sk ?_
   refine wk ?_
   refine Kr ?_
   rcases bU syn b with _|y
   · simp only [fD]
     refine sk ?_
     refine wk ?_
     exact aa h.out
   · simp only [fD]
     refine sk ?_
     refine wk ?_
     exact aa h.out
 rw [ha] at h
 simp only [fD]
 refine sk ?_
 refine wk ?_
 refine Kr ?_
 rcases hb:bU syn b with _|y
 · rw [hb] at h
   simp only [QL] at h
   replace h:=hid h
   simp only [fD]
   refine sk ?_
   refine wk ?_
   exact aa h.out
 rw [hb] at h
 simp only at h
 simp only [fD]
 by_cases h57:syn=5∨syn=6∨syn=7
 · rw [if_pos h57] at h
   simp only [QL] at h
   replace h:=hid h
   have k1:(5:Int)≤syn:=by omega
   have k2:syn≤7:=by omega
   clear h57
   refine sk ?_
   refine wk ?_
   exact aa h.out
 rw [if_neg h57] at h
 have four:∀ {v w:List UInt8},bU syn v=some w→syn=4→k8 w=true:=fun h e=>by
   subst e
   obtain ⟨rfl,h⟩:=Mn h
   exact h
 rw [← ak5 (four ha) (four hb)] at h
 simp only [QL] at h
 have hno:(decide ((5:Int)≤syn) && decide (syn≤7))=false:=by
   rw [Bool.and_eq_false_iff];simp only [decide_eq_false_iff_not];omega
 by_cases h4:syn=4
 · obtain ⟨m,hm,em⟩:=(Sv x).1 (four ha h4)
   obtain ⟨n,hn,en⟩:=(Sv y).1 (four hb h4)
   have vm:K7 x=m:=by rw [← em];exact (T8 hm).2
   have vn:K7 y=n:=by rw [← en];exact (T8 hn).2
   have inj:x=y↔m=n:=⟨fun e=>by rw [← vm,← vn,e],fun e=>by rw [← em,← en,e]⟩
   unfold ak6 at h
   rw [vm,vn,if_pos h4] at h
   clear four ha hb h57
   subst h4
   rw [← em,← en] at h inj ⊢
   clear em en vm vn
   by_cases he:Lib.itoa m=Lib.itoa n
   · rw [if_pos he] at h
     replace h:=hid h
     refine sk ?_
     refine wk ?_
     exact aa h.out
   · rw [if_neg he] at h
     by_cases hlt:m<n
     · rw [decide_eq_true hlt,if_pos rfl] at h
       replace h:=hid h
       clear inj
       refine sk ?_
       have kk1:=@hid _ (fun L K=>akS hm hn (L:=L) (K:=K))
       refine wk ?_
       exact aa h.out
     · rw [decide_eq_false hlt,if_neg (by simp)] at h
       replace h:=hid h
       clear inj
       refine sk ?_
       have kk1:=@hid _ (fun L K=>akS hm hn (L:=L) (K:=K))
       refine wk ?_
       exact aa h.out
 · unfold ak6 at h
   rw [if_neg h4] at h
   clear four ha hb
   obtain ⟨bl,hbl⟩:∃ b,Op.bytesLess x y=b:=⟨_,rfl⟩
   rw [hbl] at h
   by_cases he:x=y
   · rw [if_pos he] at h
     replace h:=hid h
     subst he
     refine sk ?_
     repeat' first
       | refine a8 ?_
       | (first|refine aP (by kernel_rfl) ?_|refine aB (by kernel_rfl) ?_|refine aC ?_|refine bj ?_|refine aX (fun _=>?_)|refine ay ?_|refine aS ?_)
         simp (config:={ maxSteps:=2000000 }) only [Kon,push_cast,reduceIte,Nat.reduceEqDiff,Nat.reduceAdd,Nat.reduceMul,Nat.reduceSub,Nat.reduceLT,Nat.reduceLeDiff,Int.reduceLT,Int.reduceLE,Int.reduceAdd,Int.reduceSub,Int.reduceNeg,Int.reduceToNat,Int.reduceEq,reduceCtorEq, *]
       | (first|refine aL (by kernel_rfl) ?_|refine aQ ?_|refine aR ?_|refine ba (ax ?_))
         simp only [push_cast,reduceIte,Nat.reduceEqDiff,Nat.reduceAdd,Nat.reduceMul,Nat.reduceSub,Nat.reduceLT,Nat.reduceLeDiff,Int.reduceLT,Int.reduceLE,Int.reduceAdd,Int.reduceSub,Int.reduceNeg,Int.reduceToNat,Int.reduceEq,reduceCtorEq, *]
       | exact aY
       | first|apply aZ|apply aM|apply a6|apply aN|apply a7|apply aO
       | refine aF ?_
       | first|refine aD rfl ?_|refine aE rfl ?_|refine ap rfl ?_ ?_|refine aH rfl (fun _=>?_) (fun _=>?_)|refine aG rfl (fun _=>?_) (fun _=>?_)
       | ((first|refine ao (fun _=>?_) (fun _=>?_)|refine aw (fun _=>?_) (fun _=>?_))<;>try simp (config:={ maxSteps:=2000000 }) only [Kon,push_cast,reduceIte,Nat.reduceEqDiff,Nat.reduceAdd,Nat.reduceMul,Nat.reduceSub,Nat.reduceLT,Nat.reduceLeDiff,Int.reduceLT,Int.reduceLE,Int.reduceAdd,Int.reduceSub,Int.reduceNeg,Int.reduceToNat,Int.reduceEq,reduceCtorEq, *])
       | refine And.intro trivial ?_
       | refine And.intro (by omega) ?_
       | refine aI rfl (fun _=>?_) (fun _=>?_)
       | refine And.intro ?_ ?_
     all_goals first
       | exact aa h.out
       | (rename_i hx;exfalso;simp at hx;omega)
   · rw [if_neg he] at h
     cases bl with
     | true =>
       rw [if_pos rfl] at h
       replace h:=hid h
       refine sk ?_
       repeat' first
         | refine a8 ?_
         | (first|refine aP (by kernel_rfl) ?_|refine aB (by kernel_rfl) ?_|refine aC ?_|refine bj ?_|refine aX (fun _=>?_)|refine ay ?_|refine aS ?_)
           simp (config:={ maxSteps:=2000000 }) only [Kon,push_cast,reduceIte,Nat.reduceEqDiff,Nat.reduceAdd,Nat.reduceMul,Nat.reduceSub,Nat.reduceLT,Nat.reduceLeDiff,Int.reduceLT,Int.reduceLE,Int.reduceAdd,Int.reduceSub,Int.reduceNeg,Int.reduceToNat,Int.reduceEq,reduceCtorEq, *]
         | (first|refine aL (by kernel_rfl) ?_|refine aQ ?_|refine aR ?_|refine ba (ax ?_))
           simp only [push_cast,reduceIte,Nat.reduceEqDiff,Nat.reduceAdd,Nat.reduceMul,Nat.reduceSub,Nat.reduceLT,Nat.reduceLeDiff,Int.reduceLT,Int.reduceLE,Int.reduceAdd,Int.reduceSub,Int.reduceNeg,Int.reduceToNat,Int.reduceEq,reduceCtorEq, *]
         | exact aY
         | first|apply aZ|apply aM|apply a6|apply aN|apply a7|apply aO
         | refine aF ?_
         | first|refine aD rfl ?_|refine aE rfl ?_|refine ap rfl ?_ ?_|refine aH rfl (fun _=>?_) (fun _=>?_)|refine aG rfl (fun _=>?_) (fun _=>?_)
         | ((first|refine ao (fun _=>?_) (fun _=>?_)|refine aw (fun _=>?_) (fun _=>?_))<;>try simp (config:={ maxSteps:=2000000 }) only [Kon,push_cast,reduceIte,Nat.reduceEqDiff,Nat.reduceAdd,Nat.reduceMul,Nat.reduceSub,Nat.reduceLT,Nat.reduceLeDiff,Int.reduceLT,Int.reduceLE,Int.reduceAdd,Int.reduceSub,Int.reduceNeg,Int.reduceToNat,Int.reduceEq,reduceCtorEq, *])
         | refine And.intro trivial ?_
         | refine And.intro (by omega) ?_
         | refine aI rfl (fun _=>?_) (fun _=>?_)
         | refine And.intro ?_ ?_
       all_goals first
         | exact aa h.out
         | (rename_i hx;exfalso;simp at hx;omega)
     | false =>
       rw [if_neg (by simp)] at h
       replace h:=hid h
       refine sk ?_
       repeat' first
         | refine a8 ?_
         | (first|refine aP (by kernel_rfl) ?_|refine aB (by kernel_rfl) ?_|refine aC ?_|refine bj ?_|refine aX (fun _=>?_)|refine ay ?_|refine aS ?_)
           simp (config:={ maxSteps:=2000000 }) only [Kon,push_cast,reduceIte,Nat.reduceEqDiff,Nat.reduceAdd,Nat.reduceMul,Nat.reduceSub,Nat.reduceLT,Nat.reduceLeDiff,Int.reduceLT,Int.reduceLE,Int.reduceAdd,Int.reduceSub,Int.reduceNeg,Int.reduceToNat,Int.reduceEq,reduceCtorEq, *]
         | (first|refine aL (by kernel_rfl) ?_|refine aQ ?_|refine aR ?_|refine ba (ax ?_))
           simp only [push_cast,reduceIte,Nat.reduceEqDiff,Nat.reduceAdd,Nat.reduceMul,Nat.reduceSub,Nat.reduceLT,Nat.reduceLeDiff,Int.reduceLT,Int.reduceLE,Int.reduceAdd,Int.reduceSub,Int.reduceNeg,Int.reduceToNat,Int.reduceEq,reduceCtorEq, *]
         | exact aY
         | first|apply aZ|apply aM|apply a6|apply aN|apply a7|apply aO
         | refine aF ?_
         | first|refine aD rfl ?_|refine aE rfl ?_|refine ap rfl ?_ ?_|refine aH rfl (fun _=>?_) (fun _=>?_)|refine aG rfl (fun _=>?_) (fun _=>?_)
         | ((first|refine ao (fun _=>?_) (fun _=>?_)|refine aw (fun _=>?_) (fun _=>?_))<;>try simp (config:={ maxSteps:=2000000 }) only [Kon,push_cast,reduceIte,Nat.reduceEqDiff,Nat.reduceAdd,Nat.reduceMul,Nat.reduceSub,Nat.reduceLT,Nat.reduceLeDiff,Int.reduceLT,Int.reduceLE,Int.reduceAdd,Int.reduceSub,Int.reduceNeg,Int.reduceToNat,Int.reduceEq,reduceCtorEq, *])
         | refine And.intro trivial ?_
         | refine And.intro (by omega) ?_
         | refine aI rfl (fun _=>?_) (fun _=>?_)
         | refine And.intro ?_ ?_
       all_goals first
         | exact aa h.out
         | (rename_i hx;exfalso;simp at hx;omega)
theorem akT {syn:Int} {a b:List UInt8} (h:K (.tup [.int .i64 ((k7 syn a b).getD 0),.bool (k7 syn a b).isSome]) L):ad Tryz.prog 103 [.int .i64 syn,.str a,.str b] L K:=by
 refine akJ ?_
 revert h
 rcases k7 syn a b with _|c<;>exact fun h=>h
theorem akx {syn:Int} {v:List UInt8} (h:K (.tup [.str ((bU syn v).getD []),.bool (bU syn v).isSome]) L):ad Tryz.prog 51 [.int .i64 syn,.str v] L K:=by
 refine Kr ?_
 revert h
 rcases bU syn v with _|c<;>exact fun h=>h
theorem akX {syn:Int} {v:List UInt8} {l:List Pc} {cap:Option Nat} (hn:l.length≤1000) (ht:∀ p∈l,(p.2.length:Int)≤140737488351232) (h:K (.tup [.bool ((CP syn v l).getD false),.bool (CP syn v l).isSome]) L) :
   ad Tryz.prog 102 [.int .i64 syn,.str v,.sl (b9 l) l.length cap] L K:=by
 refine ak3 hn ht ?_
 rw [akQ]
 revert h
 rcases CP syn v l with _|c<;>exact fun h=>h
theorem akZ {syn k:Int} {a v x:List UInt8} {ps:List Pc} {cp:Option Nat} {C:List AV} {n:Nat} {d:Option Nat} (hn:ps.length≤1000) (ht:∀ p∈ps,(p.2.length:Int)≤140737488351232) (h:K (.bool (aiR syn k v ps x)) L) :
   ad Tryz.prog 54 [.agg [.int .i64 k,.str a,.str v,.sl (b9 ps) ps.length cp,.sl C n d],.int .i64 syn,.str x] L K:=by
 obtain ⟨r1,hr1⟩:∃ r,(CP syn x ps).getD false=r:=⟨_,rfl⟩
 obtain ⟨b1,hb1⟩:∃ b,(CP syn x ps).isSome=b:=⟨_,rfl⟩
 have kk1:Hid (Ctr Tryz.prog 102 [.int .i64 syn,.str x,.sl (b9 ps) ps.length cp] (.tup [.bool r1,.bool b1])):=hid fun q=>akX hn ht (by rw [hr1,hb1];exact q)
 obtain ⟨r2,hr2⟩:∃ r,(bU syn x).getD []=r:=⟨_,rfl⟩
 obtain ⟨b2,hb2⟩:∃ b,(bU syn x).isSome=b:=⟨_,rfl⟩
 have kk2:Hid (Ctr Tryz.prog 51 [.int .i64 syn,.str x] (.tup [.str r2,.bool b2])):=hid fun q=>akx (by rw [hr2,hb2];exact q)
 obtain ⟨r3,hr3⟩:∃ r,(bU syn v).getD []=r:=⟨_,rfl⟩
 obtain ⟨b3,hb3⟩:∃ b,(bU syn v).isSome=b:=⟨_,rfl⟩
 have kk3:Hid (Ctr Tryz.prog 51 [.int .i64 syn,.str v] (.tup [.str r3,.bool b3])):=hid fun q=>akx (by rw [hr3,hb3];exact q)
 obtain ⟨r4,hr4⟩:∃ r,(k7 syn x v).getD 0=r:=⟨_,rfl⟩
 obtain ⟨b4,hb4⟩:∃ b,(k7 syn x v).isSome=b:=⟨_,rfl⟩
 have kk4:Hid (Ctr Tryz.prog 103 [.int .i64 syn,.str x,.str v] (.tup [.int .i64 r4,.bool b4])):=hid fun q=>akT (by rw [hr4,hb4];exact q)
 unfold aiR dj at h
 rw [hr1,hr2,hr3,hr4] at h
 clear hr1 hb1 hr2 hb2 hr3 hb3 hr4 hb4 ht
 refine ae ahm (by simp [ahn]) ?_
 simp only [ahn,ar]
 by_cases h4:k=4
 · rw [if_pos h4] at h
   replace h:=hid h
   refine wk ?_
   exact ab rfl h.out
 rw [if_neg h4] at h
 by_cases h3:k=3∨k=8
 · rw [if_pos h3] at h
   replace h:=hid h
   rcases h3 with rfl|rfl
   · refine wk ?_
     exact ab rfl h.out
   · refine wk ?_
     exact ab rfl h.out
 rw [if_neg h3] at h
 have h30:¬ k=3:=fun e=>h3 (.inl e)
 have h80:¬ k=8:=fun e=>h3 (.inr e)
 replace h:=hid h
 refine wk ?_
 refine ab rfl (Kto h.out (congrArg AV.bool ?_))
 by_cases e7:k=7<;>by_cases e5:k=5<;>by_cases e6:k=6<;>simp [e7,e5,e6]
theorem ak9 {ts:List Typ} {capT:Option Nat} {c2:List AV} {n2:Nat} {cap2:Option Nat} {l:List Atr} {cap:Option Nat} (hts:O4 ts) (hl:l.length≤1100000) (hz:∀ a∈l,bf a.1∧a.2.length≤1100000):∀ (f:Flt),Dp f→∀ {L:List Blk} {K:AV→List Blk→Prop},K (.int .i64 (ofM ts l f)) L →
   ad Tryz.prog 12 [.agg [.sl (bc ts) ts.length capT,.sl c2 n2 cap2],.agg (fA f),.sl (bn l) l.length cap] L K:=by
 refine OR fun k a v ps ks ih hrd L K h=>?_
 simp only [FlB] at hrd
 obtain ⟨r1,r2,r3,r4,r5,r6⟩:=hrd
 have ih2:∀ x∈ks,∀ {L:List Blk} {K:AV→List Blk→Prop},K (.int .i64 (ofM ts l x)) L→ad Tryz.prog 12 [.agg [.sl (bc ts) ts.length capT,.sl c2 n2 cap2],.agg (fA x),.sl (bn l) l.length cap] L K:=fun x hx {L K} q=>ih x hx (Nr r6 x hx) q
 replace ih2:=@hid _ @ih2
 clear ih r6
 rw [ofM,CK] at h
 rw [ky]
 obtain ⟨PS,hPS⟩:∃ P,P=b9 ps:=⟨_,rfl⟩
 obtain ⟨KS,hKS⟩:∃ P,P=fsA ks:=⟨_,rfl⟩
 rw [← hPS,← hKS]
 replace hPS:=hid hPS
 replace hKS:=hid hKS
 by_cases hk:k=0∨k=1∨k=2
 · rw [if_pos hk] at h
   obtain ⟨V,hV⟩:∃ V,V=ks.map (ofM ts l):=⟨_,rfl⟩
   rw [← hV] at h
   replace hV:=hid hV
   replace h:=hid h
   have hnl:V.length=ks.length:=by rw [hV.out];simp
   have e2:∀ A B:Blk,(L++[A,B]).length=L.length+2:=fun A B=>by simp
   have stp:∀ i:Nat,i<ks.length→∃ q:Flt,Hid ((KS.drop (i * 5)).take 5=fA q∧i * 5+5≤KS.length∧(∀ {L:List Blk} {K:AV→List Blk→Prop},K (.int .i64 (ofM ts l q)) L→ad Tryz.prog 12 [.agg [.sl (bc ts) ts.length capT,.sl c2 n2 cap2],.agg (fA q),.sl (bn l) l.length cap] L K)∧(i:Int)<(ks.length:Int)∧IntKind.i64.wrap ((i:Int)+1)=(i:Int)+1∧(V.take (i+1)).map (AV.int .i64)=(V.take i).map (AV.int .i64)++[.int .i64 (ofM ts l q)]):=fun i hlt=>by
     refine ⟨ks.getD i RK,hid ⟨?_,?_,?_,by omega,ac (by omega) (by omega),?_⟩⟩
     · rw [hKS.out];exact Rc hlt
     · rw [hKS.out,OP];omega
     · exact fun q=>ih2.out _ (by simp [hlt]) q
     · rw [List.take_succ_eq_append_getElem (by omega),List.map_append]
       congr 1
       simp [hV.out,hlt]
   refine ae ahs (by simp [aht]) ?_
   simp only [aht,ar]
   rcases hk with rfl|rfl|rfl
   · refine wk ?_
     refine ch (l:=[]) (n:=0) 7 1 rfl (Nat.zero_mul 1).symm ?_
     rw [e2]
     refine am (fun m T' L'=>∃ (i:Nat) (C:List AV),m=ks.length - i∧i≤ks.length∧Hid (C=(V.take i).map (AV.int .i64))∧T'=[(26,.int .i64 (i:Int)),(25,.int .i64 ks.length),(7,.gsl C i (L.length+2) 1),(4,.ptr (L.length+1) 0),(3,.ptr L.length 0),(2,.sl (bn l) l.length cap)]∧L'=L++[.cells [.sl (bc ts) ts.length capT,.sl c2 n2 cap2],.cells [.int .i64 0,.str a,.str v,.sl PS ps.length none,.sl KS ks.length none],.spare i 1]) (CutS (b:=by simp)) ⟨0,[],rfl,Nat.zero_le _,hid rfl,rfl,by simp⟩ ?_
     rintro _ _ _ ⟨i,C,rfl,hi,hC,rfl,rfl⟩
     by_cases hlt:i<ks.length
     · obtain ⟨q,hq⟩:=stp i hlt
       obtain ⟨e3,e4,e5,g1,g2,e6⟩:=hq.out
       have kk1:=@hid _ @e5
       clear e5 hq
       have hC2:=hid (show C++[.int .i64 (ofM ts l q)]=(V.take (i+1)).map (AV.int .i64) by rw [hC.out,e6])
       clear e6
       simp only [N9] at e3 kk1
       refine wk ?_
       exact ak _ _ _ (by omega) (CutS (b:=by simp)) ⟨i+1,_,rfl,hlt,hC2,rfl,rfl⟩
     · have hke:i=ks.length:=by omega
       subst hke
       have g1:¬ (ks.length:Int)<(ks.length:Int):=by omega
       have hC2:=hC.out
       rw [← hnl,List.take_length] at hC2
       subst hC2
       clear hC stp
       replace hnl:=hid hnl
       have kk1:Hid (∀ {i:Nat} {L:List Blk} {K:AV→List Blk→Prop},K (.int .i64 (rQ V)) L→ad Tryz.prog 47 [.gsl (V.map (AV.int .i64)) ks.length i 1] L K):=hid fun q=>by
         rw [← hnl.out]
         exact fH (by simpa only [AV.frzL,AV.frz,JX] using Zu (cap:=none) (by have:=hnl.out;omega) (by rw [← aid];exact q))
       have h':=hid (show K (.int .i64 (rQ V)) L by have:=h.out;simpa [MB] using this)
       refine wk ?_
       exact ab rfl h'.out
   · refine wk ?_
     refine ch (l:=[]) (n:=0) 7 1 rfl (Nat.zero_mul 1).symm ?_
     rw [e2]
     refine am (fun m T' L'=>∃ (i:Nat) (C:List AV),m=ks.length - i∧i≤ks.length∧Hid (C=(V.take i).map (AV.int .i64))∧T'=[(26,.int .i64 (i:Int)),(25,.int .i64 ks.length),(7,.gsl C i (L.length+2) 1),(4,.ptr (L.length+1) 0),(3,.ptr L.length 0),(2,.sl (bn l) l.length cap)]∧L'=L++[.cells [.sl (bc ts) ts.length capT,.sl c2 n2 cap2],.cells [.int .i64 1,.str a,.str v,.sl PS ps.length none,.sl KS ks.length none],.spare i 1]) (CutS (b:=by simp)) ⟨0,[],rfl,Nat.zero_le _,hid rfl,rfl,by simp⟩ ?_
     rintro _ _ _ ⟨i,C,rfl,hi,hC,rfl,rfl⟩
     by_cases hlt:i<ks.length
     · obtain ⟨q,hq⟩:=stp i hlt
       obtain ⟨e3,e4,e5,g1,g2,e6⟩:=hq.out
       have kk1:=@hid _ @e5
       clear e5 hq
       have hC2:=hid (show C++[.int .i64 (ofM ts l q)]=(V.take (i+1)).map (AV.int .i64) by rw [hC.out,e6])
       clear e6
       simp only [N9] at e3 kk1
       refine wk ?_
       exact ak _ _ _ (by omega) (CutS (b:=by simp)) ⟨i+1,_,rfl,hlt,hC2,rfl,rfl⟩
     · have hke:i=ks.length:=by omega
       subst hke
       have g1:¬ (ks.length:Int)<(ks.length:Int):=by omega
       have hC2:=hC.out
       rw [← hnl,List.take_length] at hC2
       subst hC2
       clear hC stp
       replace hnl:=hid hnl
       have kk1:Hid (∀ {i:Nat} {L:List Blk} {K:AV→List Blk→Prop},K (.int .i64 (orV V)) L→ad Tryz.prog 48 [.gsl (V.map (AV.int .i64)) ks.length i 1] L K):=hid fun q=>by
         rw [← hnl.out]
         exact fH (by simpa only [AV.frzL,AV.frz,JX] using Y3 (cap:=none) (by have:=hnl.out;omega) (by rw [← afF];exact q))
       have h':=hid (show K (.int .i64 (orV V)) L by have:=h.out;simpa [MB] using this)
       refine wk ?_
       exact ab rfl h'.out
   · refine wk ?_
     refine ch (l:=[]) (n:=0) 7 1 rfl (Nat.zero_mul 1).symm ?_
     rw [e2]
     refine am (fun m T' L'=>∃ (i:Nat) (C:List AV),m=ks.length - i∧i≤ks.length∧Hid (C=(V.take i).map (AV.int .i64))∧T'=[(26,.int .i64 (i:Int)),(25,.int .i64 ks.length),(7,.gsl C i (L.length+2) 1),(4,.ptr (L.length+1) 0),(3,.ptr L.length 0),(2,.sl (bn l) l.length cap)]∧L'=L++[.cells [.sl (bc ts) ts.length capT,.sl c2 n2 cap2],.cells [.int .i64 2,.str a,.str v,.sl PS ps.length none,.sl KS ks.length none],.spare i 1]) (CutS (b:=by simp)) ⟨0,[],rfl,Nat.zero_le _,hid rfl,rfl,by simp⟩ ?_
     rintro _ _ _ ⟨i,C,rfl,hi,hC,rfl,rfl⟩
     by_cases hlt:i<ks.length
     · obtain ⟨q,hq⟩:=stp i hlt
       obtain ⟨e3,e4,e5,g1,g2,e6⟩:=hq.out
       have kk1:=@hid _ @e5
       clear e5 hq
       have hC2:=hid (show C++[.int .i64 (ofM ts l q)]=(V.take (i+1)).map (AV.int .i64) by rw [hC.out,e6])
       clear e6
       simp only [N9] at e3 kk1
       refine wk ?_
       exact ak _ _ _ (by omega) (CutS (b:=by simp)) ⟨i+1,_,rfl,hlt,hC2,rfl,rfl⟩
     · have hke:i=ks.length:=by omega
       subst hke
       have g1:¬ (ks.length:Int)<(ks.length:Int):=by omega
       have hC2:=hC.out
       rw [← hnl,List.take_length] at hC2
       subst hC2
       clear hC stp
       replace hnl:=hid hnl
       by_cases h1:ks.length=1
       · obtain ⟨x,rfl⟩:∃ x,V=[x]:=List.length_eq_one_iff.1 (hnl.out.trans h1)
         have h':=hid (show K (.int .i64 (Y7 x)) L by have:=h.out;rw [← afQ];simpa [MB] using this)
         rw [h1]
         refine wk ?_
         refine Y6 ?_
         refine sk ?_
         refine wk ?_
         exact ab rfl h'.out
       · have g3:¬ (ks.length:Int)=1:=by omega
         have h':=hid (show K (.int .i64 2) L by
           have:=h.out
           simpa [MB,show V.length≠1 by rw [hnl.out];exact h1] using this)
         refine wk ?_
         exact ab rfl h'.out
 rw [if_neg hk] at h
 unfold Uo at h
 have hn:bf a:=by unfold bf;omega
 refine ae ahs (by simp [aht]) ?_
 simp only [aht,ar]
 by_cases m1:k<0
 · have g1:¬ 0≤k:=by omega
   have h':=hid (show K (.int .i64 2) L by
     revert h
     rcases fJ ts a with _|ty
     · exact fun h=>h
     · simp only [m1,true_or,if_true];exact fun h=>h)
   clear h
   refine wk ?_
   refine Yz hts.1 hts.2.1 hn (fun _=>?_) (fun t _ _=>?_)
   all_goals
     refine sk ?_
     refine wk ?_
     exact ab rfl h'.out
 have g0:0≤k:=by omega
 have g1:¬ k<3:=by omega
 refine wk ?_
 refine Yz hts.1 hts.2.1 hn (fun hty=>?_) (fun t ht hty=>?_)
 · rw [hty] at h
   replace h:=hid h
   clear hty
   refine sk ?_
   refine wk ?_
   exact ab rfl h.out
 rw [hty] at h
 simp only at h
 have t0:¬ (t:Int)<0:=by omega
 by_cases m2:8<k
 · rw [if_pos (.inr m2)] at h
   replace h:=hid h
   clear hty
   refine sk ?_
   refine wk ?_
   exact ab rfl h.out
 rw [if_neg (fun e=>e.elim m1 m2),← akY hty hk g0 (by omega)] at h
 have e6:t * 4+1<(bc ts).length:=by rw [jw];omega
 have e8:(bc ts).getD (t * 4+1) .undef=.int .i64 (ts.getD t iy).2.1:=by
   have h3:=congrArg (fun l=>l[1]?) (kz ht)
   simp only [List.getElem?_take_of_lt (show 1<4 by omega),List.getElem?_drop] at h3
   rw [List.getD_eq_getElem?_getD,h3];rfl
 have t1:(t:Int)<(ts.length:Int):=by omega
 obtain ⟨syn,hsyn⟩:∃ s,(ts.getD t iy).2.1=s:=⟨_,rfl⟩
 rw [hsyn] at h e8
 have kk1:Hid (Ctr Tryz.prog 53 [.sl (bn l) l.length cap,.str a] (mA (dU l a))):=hid fun q=>Sj hl hz hn q
 obtain ⟨nn,hnn⟩:∃ x,(bU syn v).getD []=x:=⟨_,rfl⟩
 obtain ⟨nb,hnb⟩:∃ x,(bU syn v).isSome=x:=⟨_,rfl⟩
 have kk2:Hid (Ctr Tryz.prog 51 [.int .i64 syn,.str v] (.tup [.str nn,.bool nb])):=hid fun q=>akx (by rw [hnn,hnb];exact q)
 have kk3:Hid (Ctr Tryz.prog 52 [.agg [.int .i64 4,.str [97],.str [],.sl PS ps.length none,.sl [] 0 (some 0)]] (.int .i64 (if CJ ps=true then 0 else 4))):=hid fun q=>by
   rw [hPS.out]
   exact aiS (by omega) q
 have hold:∀ x:List UInt8,∀ {L:List Blk} {K:AV→List Blk→Prop},K (.bool (aiR syn k v ps x)) L→ad Tryz.prog 54 [.agg [.int .i64 k,.str a,.str v,.sl PS ps.length none,.sl KS ks.length none],.int .i64 syn,.str x] L K:=fun x {L K} q=>by
   rw [hPS.out]
   exact akZ (by omega) (fun p hp=>by have:=r4 p hp;omega) q
 replace hold:=@hid _ @hold
 have hW:(dU l a).length≤1100000:=Qu (fun x hx=>(hz x hx).2)
 unfold ajO akW akU at h
 obtain ⟨W,hWe⟩:∃ W,dU l a=W:=⟨_,rfl⟩
 rw [hWe,hnb] at h
 rw [hWe] at hW kk1
 simp only [mA] at kk1
 obtain ⟨hd,hhd⟩:∃ q,aiR syn k v ps=q:=⟨_,rfl⟩
 have hold2:∀ x:List UInt8,∀ {L:List Blk} {K:AV→List Blk→Prop},K (.bool (hd x)) L→ad Tryz.prog 54 [.agg [.int .i64 k,.str a,.str v,.sl PS ps.length none,.sl KS ks.length none],.int .i64 syn,.str x] L K:=fun x {L K} q=>hold.out x (by rw [hhd];exact q)
 replace hold2:=@hid _ @hold2
 rw [hhd] at h
 obtain ⟨po,hpo⟩:∃ x,CJ ps=x:=⟨_,rfl⟩
 rw [hpo] at h kk3
 clear hold hhd hWe hnb hnn hsyn hty hn ih2 hpo r1 r2 r3 r4 r5
 have stw:∀ j:Nat,j<W.length→∃ w:List UInt8,(j:Int)<(W.length:Int)∧IntKind.i64.wrap ((j:Int)+1)=(j:Int)+1∧(W.map AV.str).getD j .undef=.str w∧j<(W.map AV.str).length∧Hid (W.drop j=w::W.drop (j+1)):=fun j hlt =>
   ⟨W.getD j [],by omega,ac (by omega) (by omega),by simp [hlt],by simpa using hlt,hid (by rw [List.drop_eq_getElem_cons hlt];simp [hlt])⟩
 replace stw:=hid stw
 have hc:k=3∨k=8∨k=7∨k=4∨k=5∨k=6:=by omega
 clear hk m1 m2 g0 g1
 rcases hc with rfl|rfl|rfl|rfl|rfl|rfl
 · cases nb with
   | false =>
     replace h:=hid (show K (.int .i64 2) L by simpa using h)
     refine sk ?_
     refine wk ?_
     exact ab rfl h.out
   | true =>
     replace h:=hid (show K (.int .i64 (if W.any hd=true then 1 else 0)) L by simpa using h)
     refine sk ?_
     refine wk ?_
     refine am (fun m T' L'=>∃ j:Nat,m=W.length - j∧j≤W.length∧Hid ((W.drop j).any hd=W.any hd)∧T'=[(129,.int .i64 (j:Int)),(128,.int .i64 W.length),(127,.sl (W.map AV.str) W.length none),(10,.int .i64 syn),(4,.ptr (L.length+1) 0)]∧L'=L++[.cells [.sl (bc ts) ts.length capT,.sl c2 n2 cap2],.cells [.int .i64 3,.str a,.str v,.sl PS ps.length none,.sl KS ks.length none]]) (CutS (b:=by simp)) ⟨0,rfl,Nat.zero_le _,hid rfl,rfl,rfl⟩ ?_
     clear kk1 kk2 kk3 e6 e8
     rintro _ _ _ ⟨j,rfl,hj,hI,rfl,rfl⟩
     by_cases hlt:j<W.length
     · obtain ⟨w,j1,j2,j3,j4,j5⟩:=stw.out j hlt
       have hI2:=hI.out
       rw [j5.out,List.any_cons] at hI2
       cases hq:hd w with
       | true =>
         have kk1:Hid (Ctr Tryz.prog 54 [.agg [.int .i64 3,.str a,.str v,.sl PS ps.length none,.sl KS ks.length none],.int .i64 syn,.str w] (.bool true)):=hid fun q=>hold2.out w (by rw [hq];exact q)
         rw [hq,Bool.true_or] at hI2
         have h':=h.out
         rw [← hI2,if_pos rfl] at h'
         replace h':=hid h'
         clear hI hI2 hq j5 stw
         refine wk ?_
         exact ab rfl h'.out
       | false =>
         have kk1:Hid (Ctr Tryz.prog 54 [.agg [.int .i64 3,.str a,.str v,.sl PS ps.length none,.sl KS ks.length none],.int .i64 syn,.str w] (.bool false)):=hid fun q=>hold2.out w (by rw [hq];exact q)
         rw [hq,Bool.false_or] at hI2
         replace hI2:=hid hI2
         clear hI hq j5 stw
         refine wk ?_
         exact ak _ _ _ (by omega) (CutL (b:=by simp)) ⟨j+1,rfl,hlt,hI2,rfl,rfl⟩
     · have hke:j=W.length:=by omega
       subst hke
       have j1:¬ (W.length:Int)<(W.length:Int):=by omega
       have hI2:=hI.out
       rw [List.drop_length] at hI2
       have h':=h.out
       rw [← hI2,if_neg (by simp)] at h'
       replace h':=hid h'
       clear hI hI2 stw
       refine wk ?_
       exact ab rfl h'.out
 · cases nb with
   | false =>
     replace h:=hid (show K (.int .i64 2) L by simpa using h)
     refine sk ?_
     refine wk ?_
     exact ab rfl h.out
   | true =>
     replace h:=hid (show K (.int .i64 (if W.any hd=true then 1 else 0)) L by simpa using h)
     refine sk ?_
     refine wk ?_
     refine am (fun m T' L'=>∃ j:Nat,m=W.length - j∧j≤W.length∧Hid ((W.drop j).any hd=W.any hd)∧T'=[(129,.int .i64 (j:Int)),(128,.int .i64 W.length),(127,.sl (W.map AV.str) W.length none),(10,.int .i64 syn),(4,.ptr (L.length+1) 0)]∧L'=L++[.cells [.sl (bc ts) ts.length capT,.sl c2 n2 cap2],.cells [.int .i64 8,.str a,.str v,.sl PS ps.length none,.sl KS ks.length none]]) (CutS (b:=by simp)) ⟨0,rfl,Nat.zero_le _,hid rfl,rfl,rfl⟩ ?_
     clear kk1 kk2 kk3 e6 e8
     rintro _ _ _ ⟨j,rfl,hj,hI,rfl,rfl⟩
     by_cases hlt:j<W.length
     · obtain ⟨w,j1,j2,j3,j4,j5⟩:=stw.out j hlt
       have hI2:=hI.out
       rw [j5.out,List.any_cons] at hI2
       cases hq:hd w with
       | true =>
         have kk1:Hid (Ctr Tryz.prog 54 [.agg [.int .i64 8,.str a,.str v,.sl PS ps.length none,.sl KS ks.length none],.int .i64 syn,.str w] (.bool true)):=hid fun q=>hold2.out w (by rw [hq];exact q)
         rw [hq,Bool.true_or] at hI2
         have h':=h.out
         rw [← hI2,if_pos rfl] at h'
         replace h':=hid h'
         clear hI hI2 hq j5 stw
         refine wk ?_
         exact ab rfl h'.out
       | false =>
         have kk1:Hid (Ctr Tryz.prog 54 [.agg [.int .i64 8,.str a,.str v,.sl PS ps.length none,.sl KS ks.length none],.int .i64 syn,.str w] (.bool false)):=hid fun q=>hold2.out w (by rw [hq];exact q)
         rw [hq,Bool.false_or] at hI2
         replace hI2:=hid hI2
         clear hI hq j5 stw
         refine wk ?_
         exact ak _ _ _ (by omega) (CutL (b:=by simp)) ⟨j+1,rfl,hlt,hI2,rfl,rfl⟩
     · have hke:j=W.length:=by omega
       subst hke
       have j1:¬ (W.length:Int)<(W.length:Int):=by omega
       have hI2:=hI.out
       rw [List.drop_length] at hI2
       have h':=h.out
       rw [← hI2,if_neg (by simp)] at h'
       replace h':=hid h'
       clear hI hI2 stw
       refine wk ?_
       exact ab rfl h'.out
 · replace h:=hid (show K (.int .i64 (if W.any hd=true then 1 else 0)) L by simpa using h)
   refine sk ?_
   refine wk ?_
   refine am (fun m T' L'=>∃ j:Nat,m=W.length - j∧j≤W.length∧Hid ((W.drop j).any hd=W.any hd)∧T'=[(129,.int .i64 (j:Int)),(128,.int .i64 W.length),(127,.sl (W.map AV.str) W.length none),(10,.int .i64 syn),(4,.ptr (L.length+1) 0)]∧L'=L++[.cells [.sl (bc ts) ts.length capT,.sl c2 n2 cap2],.cells [.int .i64 7,.str a,.str v,.sl PS ps.length none,.sl KS ks.length none]]) (CutS (b:=by simp)) ⟨0,rfl,Nat.zero_le _,hid rfl,rfl,rfl⟩ ?_
   clear kk1 kk2 kk3 e6 e8
   rintro _ _ _ ⟨j,rfl,hj,hI,rfl,rfl⟩
   by_cases hlt:j<W.length
   · obtain ⟨w,j1,j2,j3,j4,j5⟩:=stw.out j hlt
     have hI2:=hI.out
     rw [j5.out,List.any_cons] at hI2
     cases hq:hd w with
     | true =>
       have kk1:Hid (Ctr Tryz.prog 54 [.agg [.int .i64 7,.str a,.str v,.sl PS ps.length none,.sl KS ks.length none],.int .i64 syn,.str w] (.bool true)):=hid fun q=>hold2.out w (by rw [hq];exact q)
       rw [hq,Bool.true_or] at hI2
       have h':=h.out
       rw [← hI2,if_pos rfl] at h'
       replace h':=hid h'
       clear hI hI2 hq j5 stw
       refine wk ?_
       exact ab rfl h'.out
     | false =>
       have kk1:Hid (Ctr Tryz.prog 54 [.agg [.int .i64 7,.str a,.str v,.sl PS ps.length none,.sl KS ks.length none],.int .i64 syn,.str w] (.bool false)):=hid fun q=>hold2.out w (by rw [hq];exact q)
       rw [hq,Bool.false_or] at hI2
       replace hI2:=hid hI2
       clear hI hq j5 stw
       refine wk ?_
       exact ak _ _ _ (by omega) (CutL (b:=by simp)) ⟨j+1,rfl,hlt,hI2,rfl,rfl⟩
   · have hke:j=W.length:=by omega
     subst hke
     have j1:¬ (W.length:Int)<(W.length:Int):=by omega
     have hI2:=hI.out
     rw [List.drop_length] at hI2
     have h':=h.out
     rw [← hI2,if_neg (by simp)] at h'
     replace h':=hid h'
     clear hI hI2 stw
     refine wk ?_
     exact ab rfl h'.out
 · by_cases s3:syn≤3
   rotate_left
   · replace h:=hid (show K (.int .i64 2) L by simpa [s3] using h)
     refine sk ?_
     refine wk ?_
     exact ab rfl h.out
   cases po with
   | false =>
     replace h:=hid (show K (.int .i64 2) L by simpa using h)
     simp only [Bool.false_eq_true,if_false] at kk3
     refine sk ?_
     refine wk ?_
     exact ab rfl h.out
   | true =>
     replace h:=hid (show K (.int .i64 (if W.any hd=true then 1 else 0)) L by simpa [s3] using h)
     simp only [if_true] at kk3
     refine sk ?_
     refine wk ?_
     refine am (fun m T' L'=>∃ j:Nat,m=W.length - j∧j≤W.length∧Hid ((W.drop j).any hd=W.any hd)∧T'=[(129,.int .i64 (j:Int)),(128,.int .i64 W.length),(127,.sl (W.map AV.str) W.length none),(10,.int .i64 syn),(4,.ptr (L.length+1) 0)]∧L'=L++[.cells [.sl (bc ts) ts.length capT,.sl c2 n2 cap2],.cells [.int .i64 4,.str a,.str v,.sl PS ps.length none,.sl KS ks.length none]]) (CutS (b:=by simp)) ⟨0,rfl,Nat.zero_le _,hid rfl,rfl,rfl⟩ ?_
     clear kk1 kk2 kk3 e6 e8
     rintro _ _ _ ⟨j,rfl,hj,hI,rfl,rfl⟩
     by_cases hlt:j<W.length
     · obtain ⟨w,j1,j2,j3,j4,j5⟩:=stw.out j hlt
       have hI2:=hI.out
       rw [j5.out,List.any_cons] at hI2
       cases hq:hd w with
       | true =>
         have kk1:Hid (Ctr Tryz.prog 54 [.agg [.int .i64 4,.str a,.str v,.sl PS ps.length none,.sl KS ks.length none],.int .i64 syn,.str w] (.bool true)):=hid fun q=>hold2.out w (by rw [hq];exact q)
         rw [hq,Bool.true_or] at hI2
         have h':=h.out
         rw [← hI2,if_pos rfl] at h'
         replace h':=hid h'
         clear hI hI2 hq j5 stw
         refine wk ?_
         exact ab rfl h'.out
       | false =>
         have kk1:Hid (Ctr Tryz.prog 54 [.agg [.int .i64 4,.str a,.str v,.sl PS ps.length none,.sl KS ks.length none],.int .i64 syn,.str w] (.bool false)):=hid fun q=>hold2.out w (by rw [hq];exact q)
         rw [hq,Bool.false_or] at hI2
         replace hI2:=hid hI2
         clear hI hq j5 stw
         refine wk ?_
         exact ak _ _ _ (by omega) (CutL (b:=by simp)) ⟨j+1,rfl,hlt,hI2,rfl,rfl⟩
     · have hke:j=W.length:=by omega
       subst hke
       have j1:¬ (W.length:Int)<(W.length:Int):=by omega
       have hI2:=hI.out
       rw [List.drop_length] at hI2
       have h':=h.out
       rw [← hI2,if_neg (by simp)] at h'
       replace h':=hid h'
       clear hI hI2 stw
       refine wk ?_
       exact ab rfl h'.out
 · cases nb with
   | false =>
     replace h:=hid (show K (.int .i64 2) L by simpa using h)
     refine sk ?_
     refine wk ?_
     exact ab rfl h.out
   | true =>
   by_cases s5:syn<5∨7<syn
   rotate_left
   · replace h:=hid (show K (.int .i64 2) L by
       have e:(decide (syn<5) || decide (7<syn))=false:=by rw [← Bool.decide_or];exact decide_eq_false s5
       rw [e] at h
       simpa using h)
     refine sk ?_
     refine wk ?_
     exact ab rfl h.out
   replace h:=hid (show K (.int .i64 (if W.any hd=true then 1 else 0)) L by
     have e:(decide (syn<5) || decide (7<syn))=true:=by rw [← Bool.decide_or];exact decide_eq_true s5
     rw [e] at h
     simpa using h)
   refine sk ?_
   refine wk ?_
   refine am (fun m T' L'=>∃ j:Nat,m=W.length - j∧j≤W.length∧Hid ((W.drop j).any hd=W.any hd)∧T'=[(129,.int .i64 (j:Int)),(128,.int .i64 W.length),(127,.sl (W.map AV.str) W.length none),(10,.int .i64 syn),(4,.ptr (L.length+1) 0)]∧L'=L++[.cells [.sl (bc ts) ts.length capT,.sl c2 n2 cap2],.cells [.int .i64 5,.str a,.str v,.sl PS ps.length none,.sl KS ks.length none]]) (CutS (b:=by simp)) ⟨0,rfl,Nat.zero_le _,hid rfl,rfl,rfl⟩ ?_
   clear kk1 kk2 kk3 e6 e8
   rintro _ _ _ ⟨j,rfl,hj,hI,rfl,rfl⟩
   by_cases hlt:j<W.length
   · obtain ⟨w,j1,j2,j3,j4,j5⟩:=stw.out j hlt
     have hI2:=hI.out
     rw [j5.out,List.any_cons] at hI2
     cases hq:hd w with
     | true =>
       have kk1:Hid (Ctr Tryz.prog 54 [.agg [.int .i64 5,.str a,.str v,.sl PS ps.length none,.sl KS ks.length none],.int .i64 syn,.str w] (.bool true)):=hid fun q=>hold2.out w (by rw [hq];exact q)
       rw [hq,Bool.true_or] at hI2
       have h':=h.out
       rw [← hI2,if_pos rfl] at h'
       replace h':=hid h'
       clear hI hI2 hq j5 stw
       refine wk ?_
       exact ab rfl h'.out
     | false =>
       have kk1:Hid (Ctr Tryz.prog 54 [.agg [.int .i64 5,.str a,.str v,.sl PS ps.length none,.sl KS ks.length none],.int .i64 syn,.str w] (.bool false)):=hid fun q=>hold2.out w (by rw [hq];exact q)
       rw [hq,Bool.false_or] at hI2
       replace hI2:=hid hI2
       clear hI hq j5 stw
       refine wk ?_
       exact ak _ _ _ (by omega) (CutL (b:=by simp)) ⟨j+1,rfl,hlt,hI2,rfl,rfl⟩
   · have hke:j=W.length:=by omega
     subst hke
     have j1:¬ (W.length:Int)<(W.length:Int):=by omega
     have hI2:=hI.out
     rw [List.drop_length] at hI2
     have h':=h.out
     rw [← hI2,if_neg (by simp)] at h'
     replace h':=hid h'
     clear hI hI2 stw
     refine wk ?_
     exact ab rfl h'.out
 · cases nb with
   | false =>
     replace h:=hid (show K (.int .i64 2) L by simpa using h)
     refine sk ?_
     refine wk ?_
     exact ab rfl h.out
   | true =>
   by_cases s5:syn<5∨7<syn
   rotate_left
   · replace h:=hid (show K (.int .i64 2) L by
       have e:(decide (syn<5) || decide (7<syn))=false:=by rw [← Bool.decide_or];exact decide_eq_false s5
       rw [e] at h
       simpa using h)
     refine sk ?_
     refine wk ?_
     exact ab rfl h.out
   replace h:=hid (show K (.int .i64 (if W.any hd=true then 1 else 0)) L by
     have e:(decide (syn<5) || decide (7<syn))=true:=by rw [← Bool.decide_or];exact decide_eq_true s5
     rw [e] at h
     simpa using h)
   refine sk ?_
   refine wk ?_
   refine am (fun m T' L'=>∃ j:Nat,m=W.length - j∧j≤W.length∧Hid ((W.drop j).any hd=W.any hd)∧T'=[(129,.int .i64 (j:Int)),(128,.int .i64 W.length),(127,.sl (W.map AV.str) W.length none),(10,.int .i64 syn),(4,.ptr (L.length+1) 0)]∧L'=L++[.cells [.sl (bc ts) ts.length capT,.sl c2 n2 cap2],.cells [.int .i64 6,.str a,.str v,.sl PS ps.length none,.sl KS ks.length none]]) (CutS (b:=by simp)) ⟨0,rfl,Nat.zero_le _,hid rfl,rfl,rfl⟩ ?_
   clear kk1 kk2 kk3 e6 e8
   rintro _ _ _ ⟨j,rfl,hj,hI,rfl,rfl⟩
   by_cases hlt:j<W.length
   · obtain ⟨w,j1,j2,j3,j4,j5⟩:=stw.out j hlt
     have hI2:=hI.out
     rw [j5.out,List.any_cons] at hI2
     cases hq:hd w with
     | true =>
       have kk1:Hid (Ctr Tryz.prog 54 [.agg [.int .i64 6,.str a,.str v,.sl PS ps.length none,.sl KS ks.length none],.int .i64 syn,.str w] (.bool true)):=hid fun q=>hold2.out w (by rw [hq];exact q)
       rw [hq,Bool.true_or] at hI2
       have h':=h.out
       rw [← hI2,if_pos rfl] at h'
       replace h':=hid h'
       clear hI hI2 hq j5 stw
       refine wk ?_
       exact ab rfl h'.out
     | false =>
       have kk1:Hid (Ctr Tryz.prog 54 [.agg [.int .i64 6,.str a,.str v,.sl PS ps.length none,.sl KS ks.length none],.int .i64 syn,.str w] (.bool false)):=hid fun q=>hold2.out w (by rw [hq];exact q)
       rw [hq,Bool.false_or] at hI2
       replace hI2:=hid hI2
       clear hI hq j5 stw
       refine wk ?_
       exact ak _ _ _ (by omega) (CutL (b:=by simp)) ⟨j+1,rfl,hlt,hI2,rfl,rfl⟩
   · have hke:j=W.length:=by omega
     subst hke
     have j1:¬ (W.length:Int)<(W.length:Int):=by omega
     have hI2:=hI.out
     rw [List.drop_length] at hI2
     have h':=h.out
     rw [← hI2,if_neg (by simp)] at h'
     replace h':=hid h'
     clear hI hI2 stw
     refine wk ?_
     exact ab rfl h'.out
theorem ak7 {ts:List Typ} {cs:List Cls} {l:List Atr} {f:Flt} (hs:WB ts cs) (hl:WI l) (hf:Ro f) (h:K (.bool true) L) :
   ad Tryz.prog 3 [.agg [.sl (bc ts) ts.length none,.sl (df cs) cs.length none],.agg (.sl (bn l) l.length none::fA f)] L K:=by
 obtain ⟨kf,af,vf,pf,sf⟩:=f
 have kk1:Hid (Ctr Tryz.prog 10 [] (.bool true)):=hid fun q=>S5 q
 have mk:∀ {L:List Blk} {K:AV→List Blk→Prop},(∀ C n c,K (.tup [.sl C n c,.bool false]) L)→(∀ R:List Atr,O4 ts→InA ts R→R.length≤100→(∀ a∈R,a.2.length≤6000)→Dp (.mk kf af vf pf sf)→K (.tup [.sl (bn R) R.length none,.bool true]) L)→ad Tryz.prog 9 [.agg [.sl (bc ts) ts.length none,.sl (df cs) cs.length none],.agg (.sl (bn l) l.length none::fA (.mk kf af vf pf sf))] L K:=fun a b=>Xg hs hl hf a b
 simp only [ky] at mk ⊢
 replace mk:=@hid _ @mk
 replace h:=hid h
 refine ae ahS (by simp [ahT]) ?_
 simp only [ahT,ar]
 refine wk ?_
 refine mk.out (fun C n c=>?_) (fun R hts hin h1 h2 hfs=>?_)
 · refine sk ?_
   refine wk ?_
   exact ab rfl h.out
 obtain ⟨x,hx⟩:∃ x,ofM ts R (.mk kf af vf pf sf)=x:=⟨_,rfl⟩
 have kk2:Hid (Ctr Tryz.prog 11 [.agg [.sl (bc ts) ts.length none,.sl (df cs) cs.length none],.agg [.int .i64 kf,.str af,.str vf,.sl (b9 pf) pf.length none,.sl (fsA sf) sf.length none],.sl (bn R) R.length none] (.int .i64 x)):=hid fun z=>by
   rw [← ky]
   exact V2 hts hin (by omega) (fun a ha=>by have:=h2 a ha;omega) _ hfs (by rw [hx];exact z)
 have kk3:Hid (Ctr Tryz.prog 12 [.agg [.sl (bc ts) ts.length none,.sl (df cs) cs.length none],.agg [.int .i64 kf,.str af,.str vf,.sl (b9 pf) pf.length none,.sl (fsA sf) sf.length none],.sl (bn R) R.length none] (.int .i64 x)):=hid fun z=>by
   rw [← ky]
   exact ak9 hts (by omega) (fun a ha=>⟨(N5 hts hin ha).1,by have:=h2 a ha;omega⟩) _ hfs (by rw [hx];exact z)
 clear hx hts hin h1 h2 hfs mk hs hl hf
 refine sk ?_
 refine wk ?_
 exact ab rfl h.out
end Go.Proofs.YtkkgmgmgcgiffaaGreatDoor.Av
