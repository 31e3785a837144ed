/- Joined texts of the walk, made small by a program. -/
import Derived.Test.YtigifoeopopnbaaGreatDoorQk12
import Derived.Test.YtigifoeopopnbaaGreatDoorQk4
import Derived.Test.YtigifoeopopnbaaGreatDoorRows
import Derived.KernelRfl
import Derived.Test.YtigifoeopopnbaaGreatDoorQk18
import Derived.Test.YtigifoeopopnbaaGreatDoorQk8
import Derived.Test.YtigifoeopopnbaaGreatDoorQk21
import Derived.Test.YtigifoeopopnbaaGreatDoorQk14
import Derived.Test.YtigifoeopopnbaaGreatDoorQk23
import Derived.Test.YtigifoeopopnbaaGreatDoorQk20
import Derived.Test.YtigifoeopopnbaaGreatDoorQk19
import Derived.Test.YtigifoeopopnbaaGreatDoorQk25
set_option linter.unusedSimpArgs false
set_option linter.unusedVariables false
namespace Go.Proofs.YtigifoeopopnbaaGreatDoor.Av
open Go
variable {L:List Blk} {K:aef}
set_option maxHeartbeats 8000000
set_option maxRecDepth 100000
theorem ai1 {syn:Int} {v:List UInt8} {l:List (List UInt8)} (h:inM syn l (bP syn v)=false) {x:List UInt8}:x∈gy syn v false l↔x=v\/x∈l:=by
 rw [NC syn v l h,uk]
theorem ahb {syn:Int} {single:Bool}:∀ {vs l:List (List UInt8)},(ek syn single l vs).2=0->∀ x∈l,x∈(ek syn single l vs).1/\∀ v∈vs,bP syn v≠bP syn x
 | [],l,h0,x,hx=>by
   rw [ek] at h0 ⊢;split
   ·rename_i hc;rw [if_pos hc] at h0;cases h0
   ·exact ⟨hx,fun v hv=>by cases hv⟩
 | v::vs,l,h0,x,hx=>by
   obtain ⟨h1,h2,h3⟩:=Yx h0;rw [h3] at h0 ⊢;obtain ⟨h4,h5⟩:=ahb h0 x ((ai1 h2).2 (.inr hx));refine ⟨h4,fun u hu=>?_⟩;rcases aex.1 hu with rfl|hu
   ·intro e;simp only [inM,afe,decide_eq_true_eq] at h2;exact h2 x hx e.symm
   ·exact h5 u hu
theorem aiY {n:List UInt8} {vs:List (List UInt8)}:∀ {l:List Atr},bu (fp n vs false l) n=vs
 | []=>by simp [fp,bu]
 | a::t=>by
   rw [fp];by_cases ha:aa a.1<aa n
   ·have hne:¬ aa a.1=aa n:=fun e=>by rw [e] at ha;exact ae9 _ ha
    rw [if_neg (fun e=>e.2 ha),if_pos (fun e=>hne e.symm),decide_eq_true ha];simp only [af2,af4,aeR,ag6];rw [bu,if_neg hne,aiY]
   ·rw [if_pos ⟨rfl,ha⟩,aeu,ag6,bu,if_pos rfl]
theorem ai6 {ts:List Typ}:∀ {ms:List Mdf} {l:List Atr},InA ts l->(TV ts l ms).2=0->InA ts (TV ts l ms).1
 | [],l,h,_=>h
 | m::ms,l,h,h0=>by
   rw [TV] at h0 ⊢;split
   ·rename_i hc;rw [if_pos hc] at h0;exact absurd h0 hc
   ·rename_i hc
    rw [if_neg hc] at h0;simp only [ne_eq,agI] at hc;exact ai6 (abr h hc) h0
theorem ai3 {ts:List Typ}:∀ {ms:List Mdf} {l:List Atr},(TV ts l ms).2≠0->(TV ts l ms).1=[]
 | [],l,h=>by rw [TV] at h;exact absurd rfl h
 | m::ms,l,h=>by
   rw [TV] at h ⊢;split
   ·rfl
   ·rename_i hc
    rw [if_neg hc] at h;exact ai3 h
end Go.Proofs.YtigifoeopopnbaaGreatDoor.Av
set_option maxRecDepth 100000
namespace Go.Proofs.YtigifoeopopnbaaGreatDoor.Av
open Go
variable {L:List Blk} {K:aef}
def ah8:LSO:=[Az 2 0,Ag 4]
def ah7:LSO:=[Aa 12 1,Ah 13 12,Ab 14 0]
def ah6:LSO:=[Ai 15 14 13]
def ah5:LSO:=[Aa 16 14,Aj 17 2 12 14,An 18 2 17,Bf 6,Aa 5 16,Ap 2 6 18]
def ah4:LSO:=[Ad 19 0 2,Ac 20 1 19,Ad 21 0 6,Ac 22 1 21,Am 23 37 20 22,Aa 7 23]
def ah3:LSO:=[Aa 24 7,AA 25 24 0,Aa 26 25,.grp none 26 false
 [Bb 27 26 0 2,AP 28 26 1 27,Al 29 26 7,og 30 26 false (.iaddr 4 (tm 28) (tm 29)),Bb 31 26 0 30,AP 32 26 1 31,Bb 33 26 0 6,AP 34 26 1 33,
 og 35 26 false (.bin .neq (tm 32) (tm 34))]
 36 (tm 35),Aa 37 36,.grp none 37 false
 [Bb 38 37 1 6,AP 39 37 1 38,Bo 40 37 39,AK 41 37 40 0]
 42 (tm 41),Aa 43 42,.grp none 43 false
 [Bb 44 43 0 2,AP 45 43 1 44,Al 46 43 7,og 47 43 false (.iaddr 4 (tm 45) (tm 46)),Bb 48 43 2 47,AP 49 43 1 48,Al 50 43 49,.grp (some (43,false)) 50 true
 [A4 51 50 1 6,A3 52 50 1 51,AT 53 50 52,og 54 50 true (.bin .gtr (tm 53) (iv 1))]
 55 (tm 54)]
 56 (tm 55),Aa 57 56,.grp none 57 false
 [Al 58 57 5,AB 59 57 58 0,Al 60 57 59,.grp (some (57,false)) 60 true
 [Ae 61 60 1,Ae 62 60 5,Cb 63 60 62 1,AU 64 60 2 61 63,A4 65 60 0 64,A3 66 60 1 65,AN 67 60 33 66,A4 68 60 0 6,A3 69 60 1 68,AN 70 60 33 69,
 og 71 60 true (.bin .geq (tm 67) (tm 70))]
 72 (tm 71)]
 73 (tm 72)]
def ah2:LSO:=[Ag 4]
def ah1:LSO:=[Ad 74 1 6,Ac 75 1 74,Ah 76 75,Ab 77 0]
def ah0:LSO:=[Ai 78 77 76]
def ahZ:LSO:=[Aa 79 77,Aj 80 1 75 77,Ac 81 1 80,Aa 8 79,Aa 9 81]
def ahW:LSO:=[Ad 83 0 2,Ac 84 1 83,Aa 85 7,Aj 86 4 84 85,Ad 87 1 86,Ac 88 1 87,Aa 89 9,Am 90 38 88 89,Aa 82 90,Ar 91 82,As 92 82,Aa 10 91,Aa 11 92]
def ahV:LSO:=[Aa 93 11,Aw 94 93,Aa 95 94,.grp none 95 false
 [Al 96 95 8,AB 97 95 96 0,Al 98 95 97,.grp (some (95,false)) 98 true
 [A4 99 98 0 2,A3 100 98 1 99,Ae 101 98 7,AU 102 98 4 100 101,A4 103 98 1 102,A3 104 98 1 103,A4 105 98 1 6,A3 106 98 1 105,Ae 107 98 8,Cb 108 98 107 1,AU 109 98 1 106 108,
 A3 110 98 1 109,Bm 111 98 40 104 110,A4 112 98 0 2,A3 113 98 1 112,Ae 114 98 7,AU 115 98 4 113 114,A4 116 98 1 115,A3 117 98 1 116,Ae 118 98 9,Bm 119 98 40 117 118,
 og 120 98 true (.bin .geq (tm 111) (tm 119))]
 121 (tm 120)]
 122 (tm 121)]
def ahU:LSO:=[Ag 4]
def ahT:LSO:=[Af 123 77 1,Aa 77 123]
def ahS:LSO:=[Af 124 14 1,Aa 14 124]
def ahR:LSO:=[A0 4]
def ahQ:aV:=⟨125,(.seq (.sreg ah8 [])
 (.seq (.seq (.sreg ah7 [])
 (.block 0 (.loop (.seq (.sreg ah6 [])
 (.seq (.cond (tm 15) .skip
 (.exit 0))
 (.seq (.block 1 (.seq (.sreg ah5 Ct)
 (.seq (.sreg ah4 Co)
 (.seq (.seq (.sdreg ah3 [.pure,.pure,.pure,.pure,(.read 0 0),.pure,(.read 0 0),.pure,(.read 0 0),.pure,(.read 0 0),.pure,.pure,.pure,.pure,(.read 0 0),(.read 0 0),.pure,.pure,.pure,.pure,(.read 0 0),.pure,(.read 0 0),.pure,(.read 0 0),.pure,.pure,(.read 0 0),(.read 0 0),.pure,.pure,.pure,.pure,.pure,.pure,.pure,.pure,.pure,.pure,(.read 0 0),.pure,(.read 0 0),(.read 0 0),.pure,(.read 0 0)] Cv)
 (.cond (tm 73) (.seq (.sreg ah2 [])
 .ret)
 .skip))
 (.seq (.sreg ah1 Cz)
 (.block 2 (.loop (.seq (.sreg ah0 [])
 (.seq (.cond (tm 78) .skip
 (.exit 2))
 (.seq (.block 3 (.seq (.sreg ahZ Ct)
 (.seq (.sreg ahW [true,false,false,false,false,false,false,false,false,false,false,false,false])
 (.seq (.sdreg ahV [.pure,.pure,.pure,.pure,.pure,.pure,.pure,(.read 0 0),.pure,(.read 0 0),.pure,(.read 0 0),.pure,(.read 0 0),.pure,.pure,(.read 0 0),(.read 0 0),(.read 0 0),.pure,(.read 0 0),.pure,(.read 0 0),.pure,(.read 0 0),.pure] Cl)
 (.cond (tm 122) (.seq (.sreg ahU [])
 .ret)
 .skip)))))
 (.sreg ahT Cj)))))))))))
 (.sreg ahS Cj)))))))
 (.seq (.sreg ahR [])
 .ret))),[(.tmp 4)]⟩
attribute [push_cast] ah8 ah7 ah6 ah5 ah4 ah3 ah2 ah1 ah0 ahZ ahW ahV ahU ahT ahS ahR
theorem aiM:aX Tryz.prog (fun _ _=>1) 14=some ahQ.raw:=by kernel_rfl
attribute [push_cast] ahQ
end Go.Proofs.YtigifoeopopnbaaGreatDoor.Av
set_option maxRecDepth 100000
namespace Go.Proofs.YtigifoeopopnbaaGreatDoor.Av
open Go
variable {L:List Blk} {K:aef}
def aiA:LSO:=[Ag 4]
def aiz:LSO:=[Aa 7 0,Ah 8 7,Aa 9 1,Ah 10 9,o1 11 (.bin .neq (tm 8) (tm 10))]
def aiy:LSO:=[Ag 4]
def aix:LSO:=[Aa 12 0,Ah 13 12,Ab 14 0]
def aiw:LSO:=[Ai 15 14 13]
def aiv:LSO:=[Aa 16 14,Aa 5 16]
def aiu:LSO:=[Aa 17 0,Aa 18 5,Aj 19 2 17 18,Ad 20 0 19,Ac 21 1 20,Aa 22 1,Aa 23 5,Aj 24 2 22 23,Ad 25 0 24,Ac 26 1 25,o1 27 (.bin .neq (tm 21) (tm 26)),Aa 28 27,
 .grp none 28 false
 [Al 29 28 0,Al 30 28 5,og 31 28 false (.iaddr 2 (tm 29) (tm 30)),Bb 32 28 1 31,AP 33 28 1 32,Bo 34 28 33,Al 35 28 1,Al 36 28 5,og 37 28 false (.iaddr 2 (tm 35) (tm 36)),
 Bb 38 28 1 37,AP 39 28 1 38,Bo 40 28 39,og 41 28 false (.bin .neq (tm 34) (tm 40))]
 42 (tm 41)]
def ait:LSO:=[Ag 4]
def ais:LSO:=[Aa 43 0,Aa 44 5,Aj 45 2 43 44,Ad 46 1 45,Ac 47 1 46,Ah 48 47,Ab 49 0]
def air:LSO:=[Ai 50 49 48]
def aii:LSO:=[Aa 51 49,Aa 6 51]
def aih:LSO:=[Aa 52 0,Aa 53 5,Aj 54 2 52 53,Ad 55 1 54,Ac 56 1 55,Aa 57 6,Aj 58 1 56 57,Ac 59 1 58,Aa 60 1,Aa 61 5,Aj 62 2 60 61,Ad 63 1 62,Ac 64 1 63,Aa 65 6,
 Aj 66 1 64 65,Ac 67 1 66,o1 68 (.bin .neq (tm 59) (tm 67))]
def aig:LSO:=[Ag 4]
def aif:LSO:=[Af 69 49 1,Aa 49 69]
def aie:LSO:=[Af 70 14 1,Aa 14 70]
def aid:LSO:=[A0 4]
def aic:aV:=⟨71,(.seq (.sreg aiA [])
 (.seq (.seq (.sreg aiz Cm)
 (.cond (tm 11) (.seq (.sreg aiy [])
 .ret)
 .skip))
 (.seq (.seq (.sreg aix Cp)
 (.block 0 (.loop (.seq (.sreg aiw [])
 (.seq (.cond (tm 15) .skip
 (.exit 0))
 (.seq (.block 1 (.seq (.sreg aiv Cj)
 (.seq (.seq (.sdreg aiu [.pure,.pure,(.read 0 0),.pure,(.read 0 0),.pure,.pure,(.read 0 0),.pure,(.read 0 0),.pure,.pure,.pure,.pure,(.read 0 0),.pure,(.read 0 0),(.read 0 0),.pure,.pure,(.read 0 0),.pure,(.read 0 0),(.read 0 0)] [true,false,false,false,false,false,false,false,false,false,false,false,false])
 (.cond (tm 42) (.seq (.sreg ait [])
 .ret)
 .skip))
 (.seq (.sreg ais C4)
 (.block 2 (.loop (.seq (.sreg air [])
 (.seq (.cond (tm 50) .skip
 (.exit 2))
 (.seq (.block 3 (.seq (.sreg aii Cj)
 (.seq (.sdreg aih [.pure,.pure,(.read 0 0),.pure,(.read 0 0),.pure,(.read 0 0),(.read 0 0),.pure,.pure,(.read 0 0),.pure,(.read 0 0),.pure,(.read 0 0),(.read 0 0)] [true,false,false,false,false,false,false,false,false,false,false,false,false,false,false,false,false])
 (.cond (tm 68) (.seq (.sreg aig [])
 .ret)
 .skip))))
 (.sreg aif Cj))))))))))
 (.sreg aie Cj)))))))
 (.seq (.sreg aid [])
 .ret)))),[(.tmp 4)]⟩
attribute [push_cast] aiA aiz aiy aix aiw aiv aiu ait ais air aii aih aig aif aie aid
theorem aiX:aX Tryz.prog (fun _ _=>1) 13=some aic.raw:=by kernel_rfl
attribute [push_cast] aic
set_option maxHeartbeats 8000000
set_option maxRecDepth 100000
theorem aji {l:List Atr} {cap cap':Option Nat} (hl:l.length<=1100000) (hz:∀ a∈l,a.2.length<=1100000) (h:K (.bool true) L) :
  aee 13 [.sl (bh l) l.length cap,.sl (bh l) l.length cap'] L K:=by
 replace h:=hid h;refine aed aiX ?_;refine ai (fun m T' L'=>∃ k:Nat,m=l.length - k/\k<=l.length/\T'=[(14,.int .i64 (k:Int)),(13,.int .i64 l.length),(0,.sl (bh l) l.length cap),(1,.sl (bh l) l.length cap')]/\L=L') (CutS (b:=aeg _)) ⟨0,rfl,aej _,rfl,rfl⟩ ?_;rintro _ _ L' ⟨k,rfl,hk,rfl,e⟩;subst e;by_cases hlt:k<l.length
 ·have g1:(k:Int)<(l.length:Int):=by omega
  have g2:=aec k (by omega);have e4:k * 2+1<(bh l).length:=by rw [fZ];omega
  have e4':k * 2<(bh l).length:=by omega
  have e5:=Vj hlt;have e8:(bh l).getD (k * 2) .undef=.str (l.getD k ([],[])).1:=by
   have h3:=congrArg (fun l=>l[0]?) (iH hlt);simp only [ae1 (show 0<2 by omega),aeZ,afd] at h3;rw [aew,h3];rfl
  obtain ⟨⟨nm,vs⟩,ha⟩:∃ a,l.getD k ([],[])=a:=⟨_,rfl⟩;have hvs:=hz (nm,vs) (by rw [<- ha];simp [hlt]);simp only at hvs;rw [ha] at e5 e8;simp only [iI] at e5 e8;clear ha;refine wk ?_;refine ai (fun m T' L'=>∃ j:Nat,m=vs.length - j/\j<=vs.length/\T'=[(49,.int .i64 (j:Int)),(48,.int .i64 vs.length),(5,.int .i64 (k:Int)),(14,.int .i64 (k:Int)),(13,.int .i64 l.length),(0,.sl (bh l) l.length cap),(1,.sl (bh l) l.length cap')]/\L=L') (CutS (b:=aeg _)) ⟨0,rfl,aej _,rfl,rfl⟩ ?_;rintro _ _ L' ⟨j,rfl,hj,rfl,e⟩;subst e;by_cases hjl:j<vs.length
  ·have j1:(j:Int)<(vs.length:Int):=by omega
   have j2:=aec j (by omega);obtain ⟨v,hv⟩:=aea (vs.getD j []);have g3:(vs.map AV.str).getD j .undef=.str v:=by rw [<- hv];simp [hjl]
   clear hv;refine wk ?_;exact ag _ _ _ (by omega) (CutL (b:=by simp)) ⟨j+1,rfl,hjl,rfl,rfl⟩
  ·have j1:¬ (j:Int)<(vs.length:Int):=by omega
   refine wk ?_;exact ag _ _ _ (by omega) (CutL (b:=by simp)) ⟨k+1,rfl,hlt,rfl,rfl⟩
 ·have g1:¬ (k:Int)<(l.length:Int):=by omega
  refine wk ?_;exact ac h.out
theorem aiN {n m:List UInt8} {vs:List (List UInt8)} (h:aa m≠aa n):∀ (l:List Atr) (d:Bool),bu (fp n vs d l) m=bu l m
 | [],d=>by
   rw [fp];split
   ·rfl
   ·simp only [bu];rw [if_neg fun e=>h e.symm]
 | a::t,d=>by
   have ih:=aiN (vs:=vs) h t (d || !decide (aa a.1<aa n));rw [fp];have hskip:∀ r:List Atr,bu ((if d=false/\¬ aa a.1<aa n then [(n,vs)] else [])++r) m=bu r m:=fun r=>by
    split
    ·rw [aeT,aeR,bu,if_neg fun e=>h e.symm]
    ·rfl
   rw [aeu,hskip];split
   ·rw [aeT,aeR,bu,bu,ih]
   ·rename_i e
    simp only [ne_eq,agI] at e;rw [aeR,ih,bu,if_neg (fun e2=>h (e2.symm.trans e.symm))]
theorem ajb {ts:List Typ} {l:List Atr} {n:List UInt8} {vs:List (List UInt8)} (h0:(Od ts l (0,n,vs)).2=0):∀ m x,x∈bu l m->x∈bu (Od ts l (0,n,vs)).1 m:=by
 unfold Od at h0 ⊢;simp only [Int.reduceLT,or_self,if_false,Int.reduceEq] at h0 ⊢;rcases hty:ef ts n with _|ty
 ·rw [hty] at h0;simp at h0
 ·rw [hty] at h0;simp only [true_and,if_true] at h0 ⊢;split at h0
  ·simp at h0
  ·rename_i hv
   rw [if_neg hv];split at h0
   ·rename_i hb
    exact absurd h0 hb
   ·rename_i hb
    rw [if_neg hb];simp only [ne_eq,agI] at hb;intro m x hx;have hne:=Xa (.inr hv) hb;have he:((ek ty.2.1 ty.2.2.1 (bu l n) vs).1).isEmpty=false:=by
     rcases hh:(ek ty.2.1 ty.2.2.1 (bu l n) vs).1 with _|⟨_,_⟩
     ·exact absurd hh hne
     ·rfl
    rw [he];have hfn:=(lS hty).2;by_cases hf:aa m=aa ty.1
    ·rw [Qm hf,aiY];rw [Qm (hf.trans hfn)] at hx;exact (ahb hb x hx).1
    ·rw [aiN hf];exact hx
theorem ah9 {ts:List Typ} {l:List Atr} {n v:List UInt8}:HD ts l n v=true↔∃ ty m x,ef ts n=some ty/\ci ty.2.1 v=some m/\x∈bu l n/\bP ty.2.1 x=m:=by
 unfold HD;rcases h1:ef ts n with _|ty
 ·simp
 ·simp only;rcases h2:ci ty.2.1 v with _|m
  ·simp [h2]
  ·simp only [inM,afL,decide_eq_true_eq];constructor
   ·rintro ⟨x,hx,e⟩;exact ⟨ty,m,x,rfl,h2,hx,e⟩
   ·rintro ⟨ty',m',x,e1,e2,hx,e3⟩;cases e1;rw [h2] at e2;cases e2;exact ⟨x,hx,e3⟩
theorem ajg {ts:List Typ} {l:List Atr} {t w n v:List UInt8} (h0:(Od ts l (1,t,[w])).2=0) (hh:HD ts l n v=true)
  (hne:∀ ty,ef ts t=some ty->aa n=aa t->ci ty.2.1 v≠some (bP ty.2.1 w)):HD ts (Od ts l (1,t,[w])).1 n v=true:=by
 obtain ⟨ty',m,x,e1,e2,hx,e3⟩:=ah9.1 hh;unfold Od at h0 ⊢;simp only [Int.reduceLT,or_self,if_false,Int.reduceEq,false_and] at h0 ⊢;rcases hty:ef ts t with _|ty
 ·rw [hty] at h0;simp at h0
 rw [hty] at h0;simp only [List.cons_ne_self,reduceCtorEq,false_and,if_true,if_false] at h0 ⊢;rcases hk:ci ty.2.1 w with _|k
 ·simp only [hG,hk] at h0;simp at h0
 have hw:bP ty.2.1 w=k:=by unfold bP;rw [hk];rfl
 simp only [hG,hk] at h0 ⊢;by_cases hi:inM ty.2.1 (bu l t) k=false
 ·simp only [hi,if_true] at h0;simp at h0
 ·rw [if_neg hi];simp only [ne_eq,not_true_eq_false,if_false];obtain ⟨F,hF⟩:=aea ((bu l t).filter (fun x=>decide (¬bP ty.2.1 x=k)));rw [hF];refine ah9.2 ⟨ty',m,x,e1,e2,?_,e3⟩;have hft:=(lS hty).2;by_cases hf:aa n=aa t
  ·have hs:ty'=ty:=by rw [ph hf,hty] at e1;cases e1;rfl
   subst hs;have hxF:x∈F:=by
    rw [<- hF,afv];refine ⟨by rw [<- Qm hf];exact hx,?_⟩;rw [decide_eq_true_eq,e3];rintro rfl;exact hne ty' hty hf (by rw [e2,hw])
   have he:F.isEmpty=false:=by
    cases F with
    | nil=>cases hxF
    | cons _ _=>rfl
   rw [he,Qm (hf.trans hft.symm),aiY];exact hxF
  ·rw [aiN (fun e=>hf (e.trans hft))];exact hx
theorem ajc {ts:List Typ} {l:List Atr} {t w n v:List UInt8} (h0:(Od ts l (0,t,[w])).2=0) (hh:HD ts l n v=true):HD ts (Od ts l (0,t,[w])).1 n v=true:=by
 obtain ⟨ty',m,x,e1,e2,hx,e3⟩:=ah9.1 hh;exact ah9.2 ⟨ty',m,x,e1,e2,ajb h0 n x hx,e3⟩
theorem ajh {ts:List Typ} {l:List Atr} {t w:List UInt8} (h0:(Od ts l (0,t,[w])).2=0):HD ts (Od ts l (0,t,[w])).1 t w=true:=by
 unfold Od at h0 ⊢;simp only [Int.reduceLT,or_self,if_false,Int.reduceEq] at h0 ⊢;rcases hty:ef ts t with _|ty
 ·rw [hty] at h0;simp at h0
 rw [hty] at h0;simp only [reduceCtorEq,and_false,if_false] at h0 ⊢;rcases hk:ci ty.2.1 w with _|k
 ·simp only [ek,hk] at h0;simp at h0
 have hw:bP ty.2.1 w=k:=by unfold bP;rw [hk];rfl
 by_cases hb:(ek ty.2.1 ty.2.2.1 (bu l t) [w]).2=0
 ·have hin:w∈(ek ty.2.1 ty.2.2.1 (bu l t) [w]).1:=by
   rw [ek,hk] at hb ⊢;simp only at hb ⊢;split at hb
   ·simp at hb
   ·rename_i hi
    rw [if_neg hi];refine (ahb hb w ?_).1;refine (ai1 ?_).2 (.inl rfl);rw [hw];simpa using hi
  rw [if_neg (fun e=>e hb)];refine ah9.2 ⟨ty,k,w,hty,hk,?_,hw⟩;have he:((ek ty.2.1 ty.2.2.1 (bu l t) [w]).1).isEmpty=false:=by
   rcases hh:(ek ty.2.1 ty.2.2.1 (bu l t) [w]).1 with _|⟨_,_⟩
   ·rw [hh] at hin;cases hin
   ·rfl
  rw [he,Qm (lS hty).2.symm,aiY];exact hin
 ·rw [if_pos hb] at h0;exact absurd h0 hb
theorem aiZ {ts:List Typ} {n v:List UInt8}:∀ {ms:List Mdf} {l:List Atr},(TV ts l ms).2=0->HD ts l n v=true ->
  (∀ m∈ms,∃ w,m.2.2=[w]/\(m.1=0\/(m.1=1/\∀ ty,ef ts m.2.1=some ty->aa n=aa m.2.1->ci ty.2.1 v≠some (bP ty.2.1 w))))->HD ts (TV ts l ms).1 n v=true
 | [],l,_,h,_=>h
 | m::ms,l,h0,h,hm=>by
   rw [TV] at h0 ⊢;split at h0
   ·rename_i e;exact absurd h0 e
   ·rename_i e
    rw [if_neg e];simp only [ne_eq,agI] at e;refine aiZ h0 ?_ fun x hx=>hm x (by simp [hx])
    obtain ⟨k,t,vs⟩:=m;obtain ⟨w,hw,hk|⟨hk,hn⟩⟩:=hm (k,t,vs) (by simp)
    ·simp only at hk hw;subst hk;subst hw;exact ajc e h
    ·simp only at hk hw hn;subst hk;subst hw;exact ajg e h hn
theorem ai5 {ts:List Typ}:∀ {a b:List Mdf} {l:List Atr},(TV ts l (a++b)).2=0->(TV ts l a).2=0/\TV ts l (a++b)=TV ts (TV ts l a).1 b
 | [],b,l,_=>⟨rfl,rfl⟩
 | m::a,b,l,h0=>by
   rw [aeT,TV] at h0 ⊢;rw [TV];split at h0
   ·rename_i e;exact absurd h0 e
   ·rename_i e
    rw [if_neg e,if_neg e];exact ai5 h0
theorem ai2 {ts:List Typ} {x:Ava}:∀ {now:List Ava} {l:List Atr},(TV ts l (now.map fun a=>(0,a.1,[a.2]))).2=0->x∈now->HD ts (TV ts l (now.map fun a=>(0,a.1,[a.2]))).1 x.1 x.2=true
 | a::now,l,h0,hx=>by
   rw [aeG,TV] at h0 ⊢;split at h0
   ·rename_i e;exact absurd h0 e
   ·rename_i e
    rw [if_neg e];simp only [ne_eq,agI] at e;rcases aex.1 hx with rfl|hx
    ·refine aiZ h0 (ajh e) fun m hm=>?_
     obtain ⟨y,_,rfl⟩:=aey.1 hm;exact ⟨y.2,rfl,.inl rfl⟩
    ·exact ai2 h0 hx
theorem aje {ts:List Typ} {l:List Atr} {was now:List Ava} {drop:Bool} (h0:(abm ts l was now drop).2=0):(∀ x∈now,DC ts x.1 x.2=0)/\(∀ x∈now,HD ts (abm ts l was now drop).1 x.1 x.2=true):=by
 unfold abm at h0 ⊢;rcases hf:now.find? (fun a=>decide (DC ts a.1 a.2≠0)) with _|a
 rotate_left
 ·rw [hf] at h0;have:=List.find?_some hf;simp only [decide_eq_true_eq] at this;exact absurd h0 this
 rw [hf] at h0 ⊢;simp only at h0 ⊢;have hk:∀ x∈now,DC ts x.1 x.2=0:=fun x hx=>by
  have:=agL.1 hf x hx;simpa using this
 refine ⟨hk,fun x hx=>?_⟩;unfold aci at h0 ⊢;obtain ⟨g1,g2⟩:=ai5 h0;rw [g2] at h0 ⊢;by_cases hh:HD ts l x.1 x.2=true
 ·refine aiZ h0 (aiZ g1 hh fun m hm=>?_) fun m hm=>?_
  ·obtain ⟨y,hy,rfl⟩:=aey.1 hm;refine ⟨y.2,rfl,.inr ⟨rfl,fun ty hty hfo hn=>?_⟩⟩;have hy2:=(afv.1 hy).2;simp only [aek,ae2] at hy2;have hni:=hy2.2.2;unfold inN at hni;rw [afe] at hni;refine hni x hx ?_;simp only [hty,aeB,aeP,aek,decide_eq_true_eq];exact ⟨hn,hfo⟩
  ·obtain ⟨y,_,rfl⟩:=aey.1 hm;exact ⟨y.2,rfl,.inl rfl⟩
 ·refine ai2 h0 (afv.2 ⟨hx,?_⟩);simpa using hh
theorem ai9 {ts:List Typ} {r:List Atr} {now:List Ava} (hk:∀ x∈now,DC ts x.1 x.2=0) (hh:∀ x∈now,HD ts r x.1 x.2=true):abm ts r now now true=(r,0):=by
 unfold abm;have hf:now.find? (fun a=>decide (DC ts a.1 a.2≠0))=none:=agL.2 fun x hx=>by simp [hk x hx]
 rw [hf];simp only;have e1:(now.filter fun a=>true && (HD ts r a.1 a.2 && !inN ts now a))=[]:=List.filter_eq_nil_iff.2 fun a ha=>by
  have hi:inN ts now a=true:=by
   unfold inN;rw [afL];refine ⟨a,ha,?_⟩;obtain ⟨ty,m,x,e1,e2,_,_⟩:=ah9.1 (hh a ha);simp only [e1,aeB,aeP,aek,decide_eq_true_eq,and_true];rw [e2];unfold bP;rw [e2];rfl
  simp [hi]
 have e2:(now.filter fun a => !HD ts r a.1 a.2)=[]:=List.filter_eq_nil_iff.2 fun a ha=>by simp [hh a ha]
 unfold aci;rw [e1,e2];rfl
theorem ai4 {ts:List Typ} {l:List Atr}:∀ {now:List Ava},(∀ x∈now,HD ts l x.1 x.2=true)->uZ ts l now≠64
 | [],_=>by rw [uZ];decide
 | a::now,h=>by
   rw [uZ];split
   ·unfold DC;split
    ·decide
    ·split<;>decide
   ·rw [if_neg (by rw [h a (by simp)];decide)];exact ai4 fun x hx=>h x (by simp [hx])
theorem ajl {ts:List Typ} {cs:List Cls} {l:List Atr} {now:List Ava} (h:∀ x∈now,HD ts l x.1 x.2=true):TE ts cs now l≠64:=by
 unfold TE;split
 ·decide
 ·split
  ·decide
  ·split
   ·decide
   ·exact ai4 h
theorem ajf {ts:List Typ} {l:List Atr} {was now:List Ava} {drop:Bool} (h:(abm ts l was now drop).2≠0):(abm ts l was now drop).1=[]:=by
 unfold abm at h ⊢;split
 ·rfl
 ·rename_i hf
  rw [hf] at h;exact ai3 h
theorem ajj {ts:List Typ} {l:List Atr} {was now:List Ava} {drop:Bool} (hin:InA ts l) (h:(abm ts l was now drop).2=0):InA ts (abm ts l was now drop).1:=by
 unfold abm at h ⊢;split
 ·exact VW ts
 ·rename_i hf
  rw [hf] at h;exact ai6 hin h
end Go.Proofs.YtigifoeopopnbaaGreatDoor.Av
set_option maxRecDepth 100000
namespace Go.Proofs.YtigifoeopopnbaaGreatDoor.Av
open Go
variable {L:List Blk} {K:aef}
def ahO:LSO:=[Az 3 0,Az 5 2,Ag 6]
def ahN:LSO:=[An 16 2 3,Aa 17 1,Am 18 6 16 17,Aa 15 18,Ar 19 15,As 20 15,Aa 7 19,Aa 8 20]
def ahM:LSO:=[Aa 21 8,Aw 22 21,Aa 23 22,.grp none 23 false
 [Bb 24 23 0 5,AP 25 23 1 24,AY 26 23 7 25,Bg 27 23 26]
 28 (tm 27),Aa 29 28,.grp none 29 false
 [Bb 30 29 1 5,AP 31 29 1 30,AY 32 29 7 31,Bg 33 29 32]
 34 (tm 33)]
def ahL:LSO:=[o1 35 (.call 8 []),Aa 6 35]
def ahK:LSO:=[An 37 2 3,Aa 38 7,Ad 39 0 5,Ac 40 1 39,Ad 41 1 5,Ac 42 1 41,Ad 43 2 5,Ac 44 1 43,o1 45 (.call 11 [(tm 37),(tm 38),(tm 40),(tm 42),(tm 44)]),
 Aa 36 45,Ar 46 36,As 47 36,Aa 9 46,Aa 10 47]
def ahJ:LSO:=[Aa 48 10,AH 49 48 0]
def ahI:LSO:=[o1 50 (.call 8 []),Aa 51 50,.grp none 51 true
 [Ae 52 51 9,AT 53 51 52,AL 54 51 53 0]
 55 (tm 54),Aa 6 55]
def ahH:LSO:=[Ad 56 1 5,Ac 57 1 56,Ah 58 57,Ab 59 0]
def ahG:LSO:=[Ai 60 59 58]
def ahF:LSO:=[Aj 61 2 57 59,An 62 2 61,AF 12,Ap 2 12 62]
def ahE:LSO:=[An 63 2 3,Aa 64 9,Ad 65 0 12,Ac 66 1 65,Ad 67 1 12,Ac 68 1 67,Ch 69 12 63 64 66 68,Aw 70 69]
def ahD:LSO:=[Ag 6]
def ahC:LSO:=[Af 71 59 1,Aa 59 71]
def ahB:LSO:=[An 73 2 3,Aa 74 9,Ad 75 1 5,Ac 76 1 75,Ad 77 1 5,Ac 78 1 77,o1 79 (.call 11 [(tm 73),(tm 74),(tm 76),(tm 78),(.av (.bool true))]),Aa 72 79,
 Ar 80 72,As 81 72,Aa 13 80,Aa 14 81]
def ahA:LSO:=[o1 82 (.call 8 []),Aa 83 82,.grp none 83 true
 [Ae 84 83 14,AL 85 83 84 0]
 86 (tm 85),Aa 87 86,.grp none 87 true
 [Ae 88 87 13,Ae 89 87 9,Bm 90 87 13 88 89]
 91 (tm 90),Aa 92 91,.grp none 92 true
 [AX 93 92 2 3,Ae 94 92 9,Bm 95 92 14 93 94]
 96 (tm 95),Aa 97 96,.grp none 97 true
 [AX 98 97 2 3,A4 99 97 1 5,A3 100 97 1 99,Ae 101 97 9,Bn 102 97 9 98 100 101,BE 103 97 102 64]
 104 (tm 103),Aa 6 104]
def ahv:aV:=⟨105,(.seq (.sreg ahO [])
 (.seq (.sreg ahN Cu)
 (.seq (.seq (.sreg ahM Co)
 (.cond (tm 34) (.seq (.sreg ahL Cj)
 .ret)
 .skip))
 (.seq (.sreg ahK [true,true,false,false,false,false,false,false,false,false,false,false,false,false])
 (.seq (.seq (.sreg ahJ Cj)
 (.cond (tm 49) (.seq (.sreg ahI Cl)
 .ret)
 .skip))
 (.seq (.seq (.sreg ahH Cz)
 (.block 0 (.loop (.seq (.sreg ahG [])
 (.seq (.cond (tm 60) .skip
 (.exit 0))
 (.seq (.block 1 (.seq (.sreg ahF Ck)
 (.seq (.sreg ahE Cr)
 (.cond (tm 70) (.seq (.sreg ahD [])
 .ret)
 .skip))))
 (.sreg ahC Cj)))))))
 (.seq (.sreg ahB C3)
 (.seq (.sreg ahA Cv)
 .ret)))))))),[(.tmp 6)]⟩
attribute [push_cast] ahO ahN ahM ahL ahK ahJ ahI ahH ahG ahF ahE ahD ahC ahB ahA
theorem aim:aX Tryz.prog (fun _ _=>1) 4=some ahv.raw:=by kernel_rfl
attribute [push_cast] ahv
set_option maxHeartbeats 8000000
set_option maxRecDepth 100000
theorem ai0 {α:Type} {key:α->List UInt8} {l:List α} (h:fI key l) {i:Nat} {d:α} (hi:i+1<l.length):key (l.getD i d)<key (l.getD (i+1) d):=by
 have:=ag8.1 h i (i+1) (by omega) hi (by omega);simpa [show i<l.length by omega,hi] using this
theorem ai8 {ts:List Typ} {capT:Option Nat} {c2:List AV} {n2:Nat} {cap2:Option Nat} {l:List Atr} {cap:Option Nat} (hts:LI ts) (hin:InA ts l) (hl:l.length<=1100000) (hz:∀ a∈l,a.2.length<=1100000) (h:K (.bool true) L) :
  aee 14 [.agg [.sl (aW ts) ts.length capT,.sl c2 n2 cap2],.sl (bh l) l.length cap] L K:=by
 replace h:=hid h;replace hin:=hid hin;replace hz:=hid hz;refine aed aiM ?_;obtain ⟨sC,hsC⟩:=aea (AV.sl c2 n2 cap2);rw [hsC];clear hsC;refine ai (fun m T' L'=>∃ (i:Nat) (X:List Blk),m=l.length - i/\i<=l.length/\T'=[(14,.int .i64 (i:Int)),(13,.int .i64 l.length),(12,.sl (bh l) l.length cap),(1,.sl (bh l) l.length cap),(2,.ptr L.length 0)]/\L'=L++(.cells [.sl (aW ts) ts.length capT,sC]::X)) (CutS (b:=by simp)) ⟨0,[],rfl,aej _,rfl,by simp⟩ ?_;rintro _ _ _ ⟨i,X,rfl,hi,rfl,rfl⟩;by_cases hlt:i<l.length;rotate_left
 ·have g1:¬ (i:Int)<(l.length:Int):=by omega
  refine wk ?_;exact ab rfl h.out
 have g1:(i:Int)<(l.length:Int):=by omega
 have g2:=aec i (by omega);have e3:=iH hlt;have e4:i * 2+2<=(bh l).length:=by rw [fZ];omega
 obtain ⟨⟨nm,vs⟩,ha⟩:∃ a,l.getD i ([],[])=a:=⟨_,rfl⟩;have hm:(nm,vs)∈l:=by rw [<- ha];simp [hlt]
 obtain ⟨ty,t1,t2,t3,t4,t5⟩:=hin.out.2 _ hm;have hvs:=hz.out _ hm;simp only at t1 t2 t3 t4 t5 hvs;have hnm:am nm:=by rw [<- t2];exact hts.2.1 ty (lS t1).1
 rw [ha] at e3;simp only [atA] at e3;have hprev:0<i->∃ pn,am pn/\(bh l).getD ((i - 1) * 2) .undef=.str pn/\Op.bytesLess (aa pn) (aa nm)=true:=fun h0=>by
  have hpm:l.getD (i - 1) ([],[])∈l:=by simp [show i - 1<l.length by omega]
  obtain ⟨ty',u1,u2,_⟩:=hin.out.2 _ hpm;refine ⟨(l.getD (i - 1) ([],[])).1,by rw [<- u2];exact hts.2.1 ty' (lS u1).1,?_,?_⟩
  ·have h3:=congrArg (fun l=>l[0]?) (iH (l:=l) (k:=i - 1) (by omega));simp only [ae1 (show 0<2 by omega),aeZ,afd] at h3;rw [aew,h3];rfl
  ·rw [bytesLess_eq,decide_eq_true_eq];have:=ai0 hin.out.1 (i:=i - 1) (d:=([],[])) (by omega);rw [show i - 1+1=i by omega,ha] at this;exact this
 replace hprev:=hid hprev;clear ha;refine wk ?_;refine adi hts.1 hts.2.1 hnm (fun hty=>?_) (fun k hk hty=>?_)
 ·rw [t1] at hty;cases hty
 rw [t1] at hty;have hty:ts.getD k gk=ty:=(Option.some.inj hty).symm;have e5:=ik hk;rw [hty] at e5;have eg:∀ z,z<4->(aW ts).getD (k * 4+z) .undef=(tyC ty).getD z .undef:=fun z hz4=>by
  have h3:=congrArg (fun l=>l[z]?) e5;simp only [ae1 hz4,aeZ] at h3;rw [aew,h3,aew]
 have e6:k * 4+4<=(aW ts).length:=by rw [gG];omega
 have f0:(aW ts).getD (k * 4) .undef=.str nm:=by rw [<- t2];exact eg 0 (by omega)
 have f1:(aW ts).getD (k * 4+1) .undef=.int .i64 ty.2.1:=eg 1 (by omega);have f2:(aW ts).getD (k * 4+2) .undef=.bool ty.2.2.1:=eg 2 (by omega);have f3:k * 4<(aW ts).length:=by omega
 have f4:k * 4+1<(aW ts).length:=by omega
 have f5:k * 4+2<(aW ts).length:=by omega
 have g3:¬ (k:Int)<0:=by omega
 have g4:(k:Int)<(ts.length:Int):=by omega
 have g5:¬ (vs.length:Int)=0:=fun e=>t3 (ae3.1 (by omega))
 have g6:(ty.2.2.1 && decide ((1:Int)<(vs.length:Int)))=false:=by
  cases hsg:ty.2.2.1 with
  | false=>rfl
  | true =>
    have:=t5 hsg;simp;omega
 obtain ⟨sg,hsg⟩:=aea (ty.2.2.1);obtain ⟨syn,hsyn⟩:=aea (ty.2.1);rw [hsg] at f2 g6;rw [hsyn] at f1 t4;replace t4:=hid t4;clear eg e5 hty t1 t2 t3 t5 hsg hsyn hin hz hm;replace hts:=hid hts;by_cases h0:i=0;rotate_left;have q0:(0:Int)<(i:Int):=by omega
 have q1:IntKind.i64.wrap ((i:Int) - 1)=(i:Int) - 1:=ad (by omega) (by omega);have q2:((i:Int) - 1).toNat=i - 1:=by omega
 have q3:(i:Int) - 1<(l.length:Int):=by omega
 have q4:(i - 1) * 2<(bh l).length:=by omega
 obtain ⟨pn,hpn,q5,q6⟩:=hprev.out (by omega);have kk1:=@hid _ (fun L K=>bg hpn (L:=L) (K:=K));have kk2:=@hid _ (fun L K=>bg hnm (L:=L) (K:=K));refine sk ?_;refine wk ?_;clear q0 q1 q2 q3 q4 q5 q6 kk1 kk2 hpn pn;rotate_left;have q0:¬ (0:Int)<(i:Int):=by omega
 replace h0:=hid h0;refine sk ?_;refine wk ?_;clear q0
 all_goals
  clear h0 g6 f0 f2 f3 f5 e3 e4 hprev g5;refine ai (fun m T' L'=>∃ j:Nat,m=vs.length - j/\j<=vs.length/\T'=[(77,.int .i64 (j:Int)),(76,.int .i64 vs.length),(75,.sl (vs.map AV.str) vs.length none),(7,.int .i64 k),(6,.ptr (L.length+(X.length+1)) 0),(14,.int .i64 (i:Int)),(13,.int .i64 l.length),(12,.sl (bh l) l.length cap),(1,.sl (bh l) l.length cap),(2,.ptr L.length 0)]/\L'=L++(.cells [.sl (aW ts) ts.length capT,sC]::(X++[.cells [.str nm,.sl (vs.map AV.str) vs.length none]]))) (CutS (b:=by simp)) ⟨0,rfl,aej _,rfl,rfl⟩ ?_;rintro _ _ _ ⟨j,rfl,hj,rfl,rfl⟩;by_cases hjl:j<vs.length;rotate_left
  ·have j1:¬ (j:Int)<(vs.length:Int):=by omega
   refine wk ?_;exact ag _ _ _ (by omega) (CutL (b:=by simp)) ⟨i+1,_,rfl,hlt,rfl,rfl⟩
  have j1:(j:Int)<(vs.length:Int):=by omega
  have j2:=aec j (by omega);obtain ⟨v,hv⟩:=aea (vs.getD j []);have j3:(vs.map AV.str).getD j .undef=.str v:=by rw [<- hv];simp [hjl]
  have hvm:v∈vs:=by rw [<- hv];simp [hjl]
  obtain ⟨n,hn⟩:=ag4.1 (t4.out.2 v hvm);have hpv:0<j->∃ pv,(vs.map AV.str).getD (j - 1) .undef=.str pv/\Op.bytesLess (bP syn pv) (bP syn v)=true:=fun h0=>by
   refine ⟨vs.getD (j - 1) [],by simp [show j - 1<vs.length by omega],?_⟩;rw [bytesLess_eq,decide_eq_true_eq];have:=ai0 t4.out.1 (i:=j - 1) (d:=[]) (by omega);rw [show j - 1+1=j by omega,hv] at this;exact this
  clear hv hvm;replace hpv:=hid hpv;replace hn:=hid hn;refine wk ?_;refine mU ?_;rw [hn.out];simp only [gj];by_cases h0:j=0
  ·have q0:¬ (0:Int)<(j:Int):=by omega
   replace h0:=hid h0;refine sk ?_;refine wk ?_;exact ag _ _ _ (by omega) (CutL (b:=by simp)) ⟨j+1,rfl,hjl,rfl,rfl⟩
  ·have q0:(0:Int)<(j:Int):=by omega
   have q1:IntKind.i64.wrap ((j:Int) - 1)=(j:Int) - 1:=ad (by omega) (by omega);have q2:((j:Int) - 1).toNat=j - 1:=by omega
   have q3:(j:Int) - 1<(vs.length:Int):=by omega
   have q4:j - 1<vs.length:=by omega
   obtain ⟨pv,q5,q6⟩:=hpv.out (by omega);have kk1:=@hid _ (fun L K=>K8 (syn:=syn) (v:=pv) (L:=L) (K:=K));have kk2:=@hid _ (fun L K=>K8 (syn:=syn) (v:=v) (L:=L) (K:=K));refine sk ?_;refine wk ?_;exact ag _ _ _ (by omega) (CutL (b:=by simp)) ⟨j+1,rfl,hjl,rfl,rfl⟩
theorem ai7 {ts:List Typ} {B C:Nat}:∀ {ms:List Mdf} {l:List Atr},(∀ a∈l,a.2.length<=B)->(∀ m∈ms,m.2.2.length<=C)->(TV ts l ms).1.length<=l.length+ms.length/\∀ a∈(TV ts l ms).1,a.2.length<=B+C * ms.length
 | [],l,h,_=>by rw [TV];exact ⟨aeg _,by simpa using h⟩
 | m::ms,l,h,hm=>by
   rw [TV];split
   ·exact ⟨by simp,fun a ha=>by cases ha⟩
   ·obtain ⟨h1,h2⟩:=abt (ts:=ts) (m:=m) h;have h3:=hm m (by simp);have:=@ai7 ts (B+C) C ms (Od ts l m).1 (fun a ha=>by have:=h2 a ha;omega) (fun x hx=>hm x (by simp [hx]));rw [aet,Nat.mul_add_one];refine ⟨by have:=this.1;omega,fun a ha=>?_⟩;have:=this.2 a ha;omega
abbrev ajm (x:List Ava×List Ava×Bool):List AV:=[.sl (aH x.1) x.1.length none,.sl (aH x.2.1) x.2.1.length none,.bool x.2.2]
theorem aja:RdU Tryz.prog 36 ajm (fun x=>aay x.1/\aay x.2.1) :=
 (l6 Tryz.underlying36 (N:=3) (by kernel_rfl) (cO (sz:=1) rfl (by kernel_rfl) Zh (cO (sz:=1) rfl (by kernel_rfl) Zh (cO (sz:=1) rfl (by kernel_rfl) (Rd.u (WR Tryz.underlying4)) (DM rfl))))).map
  fun y hy=>⟨(y.1,y.2.1,y.2.2.1),⟨hy.1,hy.2.1⟩,rfl⟩
theorem ajk {ts:List Typ} {l:List Atr} {was now:List Ava} {dr:Bool} (hv:∀ a∈l,a.2.length<=3600) (hw:was.length<=10) (hn:now.length<=10):(abm ts l was now dr).1.length<=l.length+20/\∀ a∈(abm ts l was now dr).1,a.2.length<=3620:=by
 unfold abm;split
 ·exact ⟨by simp,fun a ha=>by cases ha⟩
 ·have hl:(aci ts l was now dr).length<=20:=by
   unfold aci;rw [aeF,aeS,aeS];have h1:=agK (fun a=>dr && (HD ts l a.1 a.2 && !inN ts now a)) was;have h2:=agK (fun a:Ava => !HD ts l a.1 a.2) now;omega
  have hm:∀ m∈aci ts l was now dr,m.2.2.length<=1:=fun m hm=>by
   unfold aci at hm;rcases aeo.1 hm with e|e<;>obtain ⟨a,_,rfl⟩:=aey.1 e<;>exact aeg _
  obtain ⟨h1,h2⟩:=ai7 (ts:=ts) (l:=l) (ms:=aci ts l was now dr) hv hm;exact ⟨by omega,fun a ha=>by have:=h2 a ha;omega⟩
theorem ajd {ts:List Typ} {cs:List Cls} {l:List Atr} {was now:List Ava} {dr:Bool} {capT capC cap capW capN:Option Nat} (hs:ab4 ts cs) (hl:adC l) (hw:aay was) (hn:aay now) (h:K (.bool true) L) :
  aee 4 [.agg [.sl (aW ts) ts.length capT,.sl (bE cs) cs.length capC],.sl (bh l) l.length cap,.agg [.sl (aH was) was.length capW,.sl (aH now) now.length capN,.bool dr]] L K:=by
 replace h:=hid h;obtain ⟨sw,hsw⟩:=aea (shM was);obtain ⟨sn,hsn⟩:=aea (shM now);have kk1:Hid (Ctr Tryz.prog 8 [] (.bool true)):=hid fun q=>Yt q
 have kk2:Hid (Ctr Tryz.prog 7 [.sl (aH was) was.length capW] (.bool sw)):=hid fun q=>abe hw (by rw [hsw];exact q)
 have kk3:Hid (Ctr Tryz.prog 7 [.sl (aH now) now.length capN] (.bool sn)):=hid fun q=>abe hn (by rw [hsn];exact q)
 refine aed aim ?_;refine ac3 hs hl fun l' b hb=>?_
 cases b with
 | false =>
   clear hb hsw hsn hs hl hw hn;refine sk ?_;refine wk ?_;exact ab rfl h.out
 | true =>
 obtain ⟨hts,hcs,hf⟩:=hb rfl;cases sw with
 | false =>
   clear hb hsw hsn hs hl hw hn hts hcs hf;refine sk ?_;refine wk ?_;exact ab rfl h.out
 | true =>
 cases sn with
 | false =>
   clear hb hsw hsn hs hl hw hn hts hcs hf;refine sk ?_;refine wk ?_;exact ab rfl h.out
 | true =>
 have hwl:=Y0 hsw;have hnl:=Y0 hsn;have hwr:∀ a∈was,am a.1:=fun a ha=>(hw.2 a ha).1
 have hnr:∀ a∈now,am a.1:=fun a ha=>(hn.2 a ha).1
 have hbd:=ajk (ts:=ts) (l:=l') (dr:=dr) hf.v hwl hnl;have hbad:=ajf (ts:=ts) (l:=l') (was:=was) (now:=now) (drop:=dr);have hhas:=aje (ts:=ts) (l:=l') (was:=was) (now:=now) (drop:=dr);have hrin:=ajj (was:=was) (now:=now) (drop:=dr) hf.i;obtain ⟨R,hR⟩:=aea (abm ts l' was now dr);rw [hR] at hbd hbad hhas hrin;have hfl:=hf.n;have kk4:Hid (Ctr Tryz.prog 11 [.agg [.sl (aW ts) ts.length capT,.sl (bE cs) cs.length capC],.sl (bh l') l'.length none,.sl (aH was) was.length capW,.sl (aH now) now.length capN,.bool dr] (.tup [.sl (bh R.1) R.1.length none,.int .i64 R.2])):=hid fun q=>XD hts hf.i (by omega) (fun a ha=>by have:=hf.v a ha;omega) (by omega) (by omega) hwr hnr hR q
 by_cases h0:R.2=0;rotate_left
 ·have he:=hbad h0;obtain ⟨R1,R2⟩:=R;simp only at he h0;subst he;clear hb hsw hsn hs hl hw hn hts hcs hf hbd hbad hhas hrin hR hwr hnr;refine sk ?_;refine wk ?_;exact ab rfl h.out
 obtain ⟨hk0,hh⟩:=hhas h0;have hin:=hrin h0;have hag:=ai9 hk0 hh;have hft:=ajl (cs:=cs) hh;obtain ⟨N,e0⟩:=R;simp only at h0;subst h0;simp only at hbd hin hh hag hft kk4 ⊢;have hNl:N.length<=9000:=by omega
 have hNv:∀ a∈N,a.2.length<=9000:=fun a ha=>by have:=hbd.2 a ha;omega
 have hNr:∀ a∈N,am a.1/\a.2.length<=1100000:=fun a ha=>⟨(Ig hts hin ha).1,by have:=hNv a ha;omega⟩
 obtain ⟨kf,hkf⟩:=aea (TE ts cs now N);rw [hkf] at hft;have kH:Hid (∀ (t v:List UInt8),(t,v)∈now->∀ {L:List Blk} {K:aef},K (.bool true) L->aee 12 [.agg [.sl (aW ts) ts.length capT,.sl (bE cs) cs.length capC],.sl (bh N) N.length none,.str t,.str v] L K):=hid (by intro t v hm L K q;exact abn hts (by omega) hNr (hnr _ hm) (by rw [hh _ hm];exact q));have kA:Hid (Ctr Tryz.prog 11 [.agg [.sl (aW ts) ts.length capT,.sl (bE cs) cs.length capC],.sl (bh N) N.length none,.sl (aH now) now.length capN,.sl (aH now) now.length capN,.bool true] (.tup [.sl (bh N) N.length none,.int .i64 0])):=hid fun q=>XD hts hin (by omega) (fun a ha=>by have:=hNv a ha;omega) (by omega) (by omega) hnr hnr hag q
 have kS:Hid (Ctr Tryz.prog 13 [.sl (bh N) N.length none,.sl (bh N) N.length none] (.bool true)):=hid fun q=>aji (by omega) (fun a ha=>(hNr a ha).2) q
 have kI:Hid (Ctr Tryz.prog 14 [.agg [.sl (aW ts) ts.length capT,.sl (bE cs) cs.length capC],.sl (bh N) N.length none] (.bool true)):=hid fun q=>ai8 hts hin (by omega) (fun a ha=>(hNr a ha).2) q
 have kF:Hid (Ctr Tryz.prog 9 [.agg [.sl (aW ts) ts.length capT,.sl (bE cs) cs.length capC],.sl (aH now) now.length capN,.sl (bh N) N.length none] (.int .i64 kf)):=hid fun q=>U4 hts hcs ⟨hin,hNl,hNv⟩ (by omega) hnr (by rw [hkf];exact q)
 have hnt:=hid (fun k (q:k<now.length)=>dc (r:=now) q);have hntl:=bW now;obtain ⟨NA,hNA⟩:=aea (aH now);obtain ⟨WA,hWA⟩:=aea (aH was);obtain ⟨LN,hLN⟩:=aea (bh N);obtain ⟨TA,hTA⟩:=aea (AV.sl (aW ts) ts.length capT);obtain ⟨CA,hCA⟩:=aea (AV.sl (bE cs) cs.length capC);have hto:TA.one=true:=by rw [<- hTA];rfl
 have hco:CA.one=true:=by rw [<- hCA];rfl
 rw [hNA] at hnt hntl kk3 kk4 kA kF ⊢;rw [hWA] at kk2 kk4 ⊢;rw [hLN] at kk4 kH kA kS kI kF;rw [hTA,hCA] at kk4 kH kA kI kF ⊢;clear hb hsw hsn hs hl hw hn hts hcs hf hbd hbad hhas hrin hR hwr hnr hk0 hh hin hag hkf hNl hNv hNr hNA hWA hLN hTA hCA hfl;refine sk ?_;refine wk ?_;clear kk2 kk3 kk4;refine ai (fun z T' L'=>∃ (j:Nat) (X:List Blk),z=now.length - j/\j<=now.length/\T'=[(59,.int .i64 (j:Int)),(58,.int .i64 now.length),(57,.sl NA now.length capN),(9,.sl LN N.length none),(5,.ptr (L.length+1) 0),(3,.ptr L.length 0)]/\L'=L++(.cells [TA,CA] :: .cells [.sl WA was.length capW,.sl NA now.length capN,.bool dr]::X)) (CutS (b:=by simp)) ⟨0,[],rfl,aej _,rfl,rfl⟩ ?_;rintro _ _ _ ⟨j,X,rfl,hj,rfl,rfl⟩;by_cases hjl:j<now.length
 ·have g1:(j:Int)<(now.length:Int):=by omega
  have g2:=aec j (by omega);have e3:=hnt.out j hjl;have e4:j * 2+2<=NA.length:=by omega
  obtain ⟨⟨nm,v⟩,ha⟩:∃ a,now.getD j ([],[])=a:=⟨_,rfl⟩;have ham:(nm,v)∈now:=by rw [<- ha];simp [hjl]
  rw [ha] at e3;simp only [gf] at e3;have hbx:∀ (a b k:Blk),(L++(a::b::(X++[k])))[L.length+(X.length+1+1)]?=some k:=fun a b k=>by
   rw [aes (by omega),show L.length+(X.length+1+1) - L.length=X.length+1+1 by omega,aeN,aeN,aes (aeg _)];simp
  have kk2:Hid (Ctr Tryz.prog 12 [.agg [TA,CA],.sl LN N.length none,.str nm,.str v] (.bool true)):=hid fun q=>kH.out nm v ham q
  clear kH ha ham kA kS kI kF;refine wk ?_;exact ag _ _ _ (by omega) (CutL (b:=by simp)) ⟨j+1,_,rfl,hjl,rfl,rfl⟩
 have hje:j=now.length:=by omega
 subst hje;have g1:¬ (now.length:Int)<(now.length:Int):=by omega
 clear kH
 revert kA kS kI kF
 intro kk2 kk3 kk4 kk5;refine wk ?_;exact ab rfl h.out
end Go.Proofs.YtigifoeopopnbaaGreatDoor.Av
