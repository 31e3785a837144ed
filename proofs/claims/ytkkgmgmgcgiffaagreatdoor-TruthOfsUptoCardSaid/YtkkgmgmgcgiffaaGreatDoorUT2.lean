/- Joined texts of the walk, made small by a program. -/
import Derived.Test.YtkkgmgmgcgiffaaGreatDoorUP4
import Derived.Test.YtkkgmgmgcgiffaaGreatDoorRows
import Derived.KernelRfl
import Derived.Test.YtkkgmgmgcgiffaaGreatDoorUP5
set_option linter.unusedSimpArgs false
set_option linter.unusedVariables false
namespace Go.Proofs.YtkkgmgmgcgiffaaGreatDoor.Av
open Go
def Nm:Int→List Int→Int
 | o,[]=>o
 | o,v::r=>if v=0 then 0 else if v=1 then Nm o r else Nm 2 r
def rQ (l:List Int):Int:=Nm 1 l
def il (v:Int):Int:=if v=0 then 1 else if v=1 then 0 else 2
def orV (l:List Int):Int:=il (rQ (l.map il))
end Go.Proofs.YtkkgmgmgcgiffaaGreatDoor.Av
set_option maxRecDepth 100000
namespace Go.Proofs.YtkkgmgmgcgiffaaGreatDoor.Av
open Go
def EE:LSO:=[Ab 2 0]
def ED:LSO:=[Ab 3 1]
def EC:LSO:=[Aa 6 0,An 7 6,Ab 8 0]
def EB:LSO:=[Ak 9 8 7]
def EA:LSO:=[Aq 10 1 6 8,Ad 11 1 10,Aa 5 11]
def Ez:LSO:=[Aa 13 5,Al 14 13 0,Aa 12 14]
def Ey:LSO:=[Ab 2 0]
def Ex:LSO:=[Aa 16 5,AF 17 16 1,Aa 15 17]
def Ew:LSO:=[Ab 3 2]
def Ev:LSO:=[Ah 18 8 1,Aa 8 18]
def xc:LSO:=[Aa 19 3,Aa 2 19]
def CY:aW:=⟨20,(.seq (.sreg EE [])
 (.seq (.sreg ED [])
 (.seq (.seq (.sreg EC [])
 (.block 0 (.loop (.seq (.sreg EB [])
 (.seq (.cond (tm 9) .skip
 (.exit 0))
 (.seq (.block 1 (.seq (.sreg EA Ch)
 (.block 2 (.seq (.sreg Ez Ch)
 (.cond (tm 12) (.seq (.sreg Ey [])
 .ret)
 (.seq (.sreg Ex Ch)
 (.cond (tm 15) (.sreg Ew [])
 .skip)))))))
 (.sreg Ev Cg)))))))
 (.seq (.sreg xc Cg)
 .ret)))),[(.tmp 2)]⟩
attribute [push_cast] EE ED EC EB EA Ez Ey Ex Ew Ev xc
theorem MZ:bb Tryz.prog (fun _ _=>1) 34=some CY.raw:=by kernel_rfl
def HM:LSO:=[Ab 2 0]
def HL:LSO:=[Am 3]
def HK:LSO:=[Aa 6 0,An 7 6,Ab 8 0]
def HJ:LSO:=[Ak 9 8 7]
def HI:LSO:=[Aq 10 1 6 8,Ad 11 1 10,Aa 5 11]
def HH:LSO:=[Aa 12 3,Aa 13 5,Aj 14 16 13,o1 15 (.bslice false 1 1 [(.int .i64 0)] [(0,(1,(tm 14)))]),o1 16 (.app 1 1 8 [(.int .i64 0)] (tm 12) (tm 15)),Aa 3 16]
def HG:LSO:=[Ah 17 8 1,Aa 8 17]
def HF:LSO:=[Aa 18 3,Aj 19 34 18,Aj 20 16 19,Aa 2 20]
def G9:aW:=⟨21,(.seq (.sreg HM [])
 (.seq (.sreg HL [])
 (.seq (.seq (.sreg HK [])
 (.block 0 (.loop (.seq (.sreg HJ [])
 (.seq (.cond (tm 9) .skip
 (.exit 0))
 (.seq (.block 1 (.seq (.sreg HI Ch)
 (.sreg HH Ck)))
 (.sreg HG Cg)))))))
 (.seq (.sreg HF Ci)
 .ret)))),[(.tmp 2)]⟩
attribute [push_cast] HM HL HK HJ HI HH HG HF
theorem Nz:bb Tryz.prog (fun _ _=>1) 35=some G9.raw:=by kernel_rfl
def Eu:LSO:=[Ab 2 0]
def Et:LSO:=[Aa 3 0]
def Es:LSO:=[Al 5 3 0,Aa 4 5]
def Er:LSO:=[Ab 2 1]
def Ep:LSO:=[Al 7 3 1,Aa 6 7]
def Eo:LSO:=[Ab 2 0]
def En:LSO:=[Ab 2 2]
def CX:aW:=⟨8,(.seq (.sreg Eu [])
 (.seq (.seq (.sreg Et [])
 (.block 0 (.seq (.sreg Es Cg)
 (.cond (tm 4) (.seq (.sreg Er [])
 .ret)
 (.seq (.sreg Ep Cg)
 (.cond (tm 6) (.seq (.sreg Eo [])
 .ret)
 .skip))))))
 (.seq (.sreg En [])
 .ret))),[(.tmp 2)]⟩
attribute [push_cast] Eu Et Es Er Ep Eo En
theorem MY:bb Tryz.prog (fun _ _=>1) 16=some CX.raw:=by kernel_rfl
variable {L:List Blk} {K:AV→List Blk→Prop}
set_option maxHeartbeats 8000000
set_option maxRecDepth 100000
theorem GN {v:Int} (h:K (.int .i64 (il v)) L):ad Tryz.prog 16 [.int .i64 v] L K:=by
 refine ae MY (by simp [CX]) ?_
 simp only [CX,ar]
 repeat' first
   | refine a8 ?_
   | (first|refine aP (by kernel_rfl) ?_|refine aB (by kernel_rfl) ?_|refine aC ?_|refine bj ?_|refine aX (fun _=>?_)|refine ay ?_|refine aS ?_)
     refine sm ?_
   | (first|refine aL (by kernel_rfl) ?_|refine aQ ?_|refine aR ?_|refine ba (ax ?_))
     refine sl ?_
   | exact aY
   | first|apply aZ|apply aM|apply a6|apply aN|apply a7|apply aO
   | refine aF ?_
   | first|refine aD rfl ?_|refine aE rfl ?_|refine ap rfl ?_ ?_|refine aH rfl (fun _=>?_) (fun _=>?_)|refine aG rfl (fun _=>?_) (fun _=>?_)
   | ((first|refine ao (fun _=>?_) (fun _=>?_)|refine aw (fun _=>?_) (fun _=>?_))<;>try refine sm ?_)
   | refine And.intro trivial ?_
   | refine And.intro (by omega) ?_
   | refine aI rfl (fun _=>?_) (fun _=>?_)
   | refine And.intro ?_ ?_
 all_goals (first|refine ab rfl (Kto h ?_)|refine aa (Kto h ?_)|refine ab (by simp only [AV.refs,AV.refsL, *];rfl) (Kto h ?_)|refine bE (ab rfl (Kto h ?_))|(trace_state;fail))
 all_goals (first|(simp [il, *];done)|(simp [il, *];omega)|(simp [il, *];intros;omega)|(simp_all [Hid,il];done)|(simp_all [Hid,il];omega))
theorem Yj {xs:List Int} {cap:Option Nat} (hn:(xs.length:Int)≤1000000) (h:K (.int .i64 (rQ xs)) L):ad Tryz.prog 34 [.sl (xs.map (AV.int .i64)) xs.length cap] L K:=by
 replace h:=hid h
 refine ae MZ (by simp [CY]) ?_
 simp only [CY,ar]
 repeat' first
   | refine a8 ?_
   | (first|refine aP (by kernel_rfl) ?_|refine aB (by kernel_rfl) ?_|refine aC ?_|refine bj ?_|refine aX (fun _=>?_)|refine ay ?_|refine aS ?_)
     refine sm ?_
   | (first|refine aL (by kernel_rfl) ?_|refine aQ ?_|refine aR ?_|refine ba (ax ?_))
     refine sl ?_
   | exact aY
   | first|apply aZ|apply aM|apply a6|apply aN|apply a7|apply aO
   | refine aF ?_
   | first|refine aD rfl ?_|refine aE rfl ?_|refine ap rfl ?_ ?_|refine aH rfl (fun _=>?_) (fun _=>?_)|refine aG rfl (fun _=>?_) (fun _=>?_)
   | ((first|refine ao (fun _=>?_) (fun _=>?_)|refine aw (fun _=>?_) (fun _=>?_))<;>try refine sm ?_)
   | refine And.intro trivial ?_
   | refine And.intro (by omega) ?_
   | refine aI rfl (fun _=>?_) (fun _=>?_)
   | refine And.intro ?_ ?_
 refine am (fun n T' L'=>∃ (k:Nat) (o:Int),n=xs.length - k∧k≤xs.length∧Hid (Nm o (xs.drop k)=rQ xs)∧T'=[(8,.int .i64 (k:Int)),(7,.int .i64 xs.length),(6,.sl (xs.map (AV.int .i64)) xs.length cap),(3,.int .i64 o),(2,.int .i64 0)]∧L'=L) (CutS (b:=by simp)) ⟨0,1,rfl,Nat.zero_le _,hid rfl,rfl,rfl⟩ ?_
 rintro _ _ _ ⟨k,o,rfl,hk,ho,rfl,rfl⟩
 by_cases hlt:k<xs.length
 · have h1:(k:Int)<(xs.length:Int):=by omega
   have h2:IntKind.i64.wrap ((k:Int)+1)=(k:Int)+1:=ac (by omega) (by omega)
   obtain ⟨x,hx⟩:∃ x,xs[k]=x:=⟨_,rfl⟩
   have hd:xs.drop k=x::xs.drop (k+1):=by rw [List.drop_eq_getElem_cons hlt,hx]
   have hg:(xs.map (AV.int .i64)).getD k .undef=.int .i64 x:=by rw [N8 hlt,hx]
   have hlk:k<(xs.map (AV.int .i64)).length:=by simpa using hlt
   have ho:=ho.out
   rw [hd] at ho
   simp only [Nm] at ho
   by_cases e0:x=0
   · rw [if_pos e0] at ho
     replace ho:=hid ho
     clear hx hd
     repeat' first
       | refine a8 ?_
       | (first|refine aP (by kernel_rfl) ?_|refine aB (by kernel_rfl) ?_|refine aC ?_|refine bj ?_|refine aX (fun _=>?_)|refine ay ?_|refine aS ?_)
         refine sm ?_
       | (first|refine aL (by kernel_rfl) ?_|refine aQ ?_|refine aR ?_|refine ba (ax ?_))
         refine sl ?_
       | exact aY
       | first|apply aZ|apply aM|apply a6|apply aN|apply a7|apply aO
       | refine aF ?_
       | first|refine aD rfl ?_|refine aE rfl ?_|refine ap rfl ?_ ?_|refine aH rfl (fun _=>?_) (fun _=>?_)|refine aG rfl (fun _=>?_) (fun _=>?_)
       | ((first|refine ao (fun _=>?_) (fun _=>?_)|refine aw (fun _=>?_) (fun _=>?_))<;>try refine sm ?_)
       | refine And.intro trivial ?_
       | refine And.intro (by omega) ?_
       | refine aI rfl (fun _=>?_) (fun _=>?_)
       | refine And.intro ?_ ?_
     refine aa ?_
     have h:=h.out
     rw [← ho.out] at h
     exact h
   · rw [if_neg e0] at ho
     by_cases e1:x=1
     · rw [if_pos e1] at ho
       replace ho:=hid ho
       clear hx hd
       repeat' first
         | refine a8 ?_
         | (first|refine aP (by kernel_rfl) ?_|refine aB (by kernel_rfl) ?_|refine aC ?_|refine bj ?_|refine aX (fun _=>?_)|refine ay ?_|refine aS ?_)
           refine sm ?_
         | (first|refine aL (by kernel_rfl) ?_|refine aQ ?_|refine aR ?_|refine ba (ax ?_))
           refine sl ?_
         | exact aY
         | first|apply aZ|apply aM|apply a6|apply aN|apply a7|apply aO
         | refine aF ?_
         | first|refine aD rfl ?_|refine aE rfl ?_|refine ap rfl ?_ ?_|refine aH rfl (fun _=>?_) (fun _=>?_)|refine aG rfl (fun _=>?_) (fun _=>?_)
         | ((first|refine ao (fun _=>?_) (fun _=>?_)|refine aw (fun _=>?_) (fun _=>?_))<;>try refine sm ?_)
         | refine And.intro trivial ?_
         | refine And.intro (by omega) ?_
         | refine aI rfl (fun _=>?_) (fun _=>?_)
         | refine And.intro ?_ ?_
       exact ak _ _ _ (by omega) (CutS (b:=by simp)) ⟨k+1,o,rfl,hlt,ho,rfl,rfl⟩
     · rw [if_neg e1] at ho
       replace ho:=hid ho
       clear hx hd
       repeat' first
         | refine a8 ?_
         | (first|refine aP (by kernel_rfl) ?_|refine aB (by kernel_rfl) ?_|refine aC ?_|refine bj ?_|refine aX (fun _=>?_)|refine ay ?_|refine aS ?_)
           refine sm ?_
         | (first|refine aL (by kernel_rfl) ?_|refine aQ ?_|refine aR ?_|refine ba (ax ?_))
           refine sl ?_
         | exact aY
         | first|apply aZ|apply aM|apply a6|apply aN|apply a7|apply aO
         | refine aF ?_
         | first|refine aD rfl ?_|refine aE rfl ?_|refine ap rfl ?_ ?_|refine aH rfl (fun _=>?_) (fun _=>?_)|refine aG rfl (fun _=>?_) (fun _=>?_)
         | ((first|refine ao (fun _=>?_) (fun _=>?_)|refine aw (fun _=>?_) (fun _=>?_))<;>try refine sm ?_)
         | refine And.intro trivial ?_
         | refine And.intro (by omega) ?_
         | refine aI rfl (fun _=>?_) (fun _=>?_)
         | refine And.intro ?_ ?_
       exact ak _ _ _ (by omega) (CutS (b:=by simp)) ⟨k+1,2,rfl,hlt,ho,rfl,rfl⟩
 · have hke:k=xs.length:=by omega
   subst hke
   have h1:¬ (xs.length:Int)<(xs.length:Int):=by omega
   have ho:=ho.out
   rw [List.drop_length] at ho
   replace ho:=hid (show o=rQ xs from ho)
   repeat' first
     | refine a8 ?_
     | (first|refine aP (by kernel_rfl) ?_|refine aB (by kernel_rfl) ?_|refine aC ?_|refine bj ?_|refine aX (fun _=>?_)|refine ay ?_|refine aS ?_)
       refine sm ?_
     | (first|refine aL (by kernel_rfl) ?_|refine aQ ?_|refine aR ?_|refine ba (ax ?_))
       refine sl ?_
     | exact aY
     | first|apply aZ|apply aM|apply a6|apply aN|apply a7|apply aO
     | refine aF ?_
     | first|refine aD rfl ?_|refine aE rfl ?_|refine ap rfl ?_ ?_|refine aH rfl (fun _=>?_) (fun _=>?_)|refine aG rfl (fun _=>?_) (fun _=>?_)
     | ((first|refine ao (fun _=>?_) (fun _=>?_)|refine aw (fun _=>?_) (fun _=>?_))<;>try refine sm ?_)
     | refine And.intro trivial ?_
     | refine And.intro (by omega) ?_
     | refine aI rfl (fun _=>?_) (fun _=>?_)
     | refine And.intro ?_ ?_
   refine aa ?_
   rw [ho.out]
   exact h.out
theorem Nk {xs:List Int} {i:Nat} (hn:(xs.length:Int)≤1000000) (h:K (.int .i64 (rQ xs)) L):ad Tryz.prog 34 [.gsl (xs.map (AV.int .i64)) xs.length i 1] L K :=
 fH (by simpa only [AV.frzL,AV.frz,JX] using Yj (cap:=none) hn h)
theorem Yv {xs:List Int} {cap:Option Nat} (hn:(xs.length:Int)≤1000000) (h:K (.int .i64 (orV xs)) L):ad Tryz.prog 35 [.sl (xs.map (AV.int .i64)) xs.length cap] L K:=by
 replace h:=hid h
 refine ae Nz (by simp [G9]) ?_
 simp only [G9,ar]
 repeat' first
   | refine a8 ?_
   | (first|refine aP (by kernel_rfl) ?_|refine aB (by kernel_rfl) ?_|refine aC ?_|refine bj ?_|refine aX (fun _=>?_)|refine ay ?_|refine aS ?_)
     refine sm ?_
   | (first|refine aL (by kernel_rfl) ?_|refine aQ ?_|refine aR ?_|refine ba (ax ?_))
     refine sl ?_
   | exact aY
   | first|apply aZ|apply aM|apply a6|apply aN|apply a7|apply aO
   | refine aF ?_
   | first|refine aD rfl ?_|refine aE rfl ?_|refine ap rfl ?_ ?_|refine aH rfl (fun _=>?_) (fun _=>?_)|refine aG rfl (fun _=>?_) (fun _=>?_)
   | ((first|refine ao (fun _=>?_) (fun _=>?_)|refine aw (fun _=>?_) (fun _=>?_))<;>try refine sm ?_)
   | refine And.intro trivial ?_
   | refine And.intro (by omega) ?_
   | refine aI rfl (fun _=>?_) (fun _=>?_)
   | refine And.intro ?_ ?_
 refine ch (l:=[]) (n:=0) 3 1 rfl (Nat.zero_mul 1).symm ?_
 refine am (fun n T' L'=>∃ (k:Nat) (ys:List Int) (v:List AV) (m:Nat),n=xs.length - k∧k≤xs.length∧m=k∧Hid (ys=(xs.take k).map il)∧v=ys.map (AV.int .i64)∧T'=[(8,.int .i64 (k:Int)),(7,.int .i64 xs.length),(6,.sl (xs.map (AV.int .i64)) xs.length cap),(3,.gsl v m L.length 1),(2,.int .i64 0)]∧L'=L++[.spare m 1]) (CutS (b:=by simp)) ⟨0,[],[],0,rfl,Nat.zero_le _,rfl,hid rfl,rfl,rfl,rfl⟩ ?_
 rintro _ _ _ ⟨k,ys,v,m,rfl,hk,hm,hy,rfl,rfl,rfl⟩
 by_cases hlt:k<xs.length
 · have h1:(k:Int)<(xs.length:Int):=by omega
   have h2:IntKind.i64.wrap ((k:Int)+1)=(k:Int)+1:=ac (by omega) (by omega)
   obtain ⟨x,hx⟩:∃ x,xs[k]=x:=⟨_,rfl⟩
   have hg:(xs.map (AV.int .i64)).getD k .undef=.int .i64 x:=by rw [N8 hlt,hx]
   have hlk:k<(xs.map (AV.int .i64)).length:=by simpa using hlt
   have hy':=hid (show ys++[il x]=(xs.take (k+1)).map il by rw [hy.out,List.take_succ_eq_append_getElem hlt,hx,List.map_append];rfl)
   clear hx
   replace hm:=hid hm
   have hm8:(m+1) * 8≤140737488355328:=by rw [hm.out];omega
   have hm1:m+1≤140737488355328:=by rw [hm.out];omega
   repeat' first
     | refine a8 ?_
     | (first|refine aP (by kernel_rfl) ?_|refine aB (by kernel_rfl) ?_|refine aC ?_|refine bj ?_|refine aX (fun _=>?_)|refine ay ?_|refine aS ?_|refine GN ?_|refine aK (GN ⟨rfl,rfl⟩) (GN ⟨rfl,rfl⟩) ?_|refine aq (GN ⟨rfl,rfl⟩) ?_)
       refine sm ?_
     | (first|refine aL (by kernel_rfl) ?_|refine aQ ?_|refine aR ?_|refine ba (ax ?_))
       refine sl ?_
     | exact aY
     | first|apply aZ|apply aM|apply a6|apply aN|apply a7|apply aO
     | refine aF ?_
     | first|refine aD rfl ?_|refine aE rfl ?_|refine ap rfl ?_ ?_|refine aH rfl (fun _=>?_) (fun _=>?_)|refine aG rfl (fun _=>?_) (fun _=>?_)
     | ((first|refine ao (fun _=>?_) (fun _=>?_)|refine aw (fun _=>?_) (fun _=>?_))<;>try refine sm ?_)
     | refine And.intro trivial ?_
     | refine And.intro (by omega) ?_
     | refine aI rfl (fun _=>?_) (fun _=>?_)
     | refine And.intro ?_ ?_
   exact ak _ _ _ (by omega) (CutS (b:=by simp)) ⟨k+1,ys++[il x],_,_,rfl,hlt,by rw [hm.out],hy',by simp,rfl,rfl⟩
 · have hke:k=xs.length:=by omega
   subst hke
   have h1:¬ (xs.length:Int)<(xs.length:Int):=by omega
   have hyl:m=ys.length:=by rw [hm,hy.out,List.take_length,List.length_map]
   have hyn:(ys.length:Int)≤1000000:=by rw [← hyl,hm];exact hn
   have e:orV xs=il (rQ ys):=by rw [orV,hy.out,List.take_length]
   replace e:=hid e
   subst hyl
   clear hm
   repeat' first
     | refine a8 ?_
     | (first|refine aP (by kernel_rfl) ?_|refine aB (by kernel_rfl) ?_|refine aC ?_|refine bj ?_|refine aX (fun _=>?_)|refine ay ?_|refine aS ?_|refine Nk hyn ?_|refine GN ?_|refine aK (Nk hyn ⟨rfl,rfl⟩) (Nk hyn ⟨rfl,rfl⟩) ?_|refine aK (GN ⟨rfl,rfl⟩) (GN ⟨rfl,rfl⟩) ?_|refine aq (Nk hyn ⟨rfl,rfl⟩) ?_|refine aq (GN ⟨rfl,rfl⟩) ?_)
       refine sm ?_
     | (first|refine aL (by kernel_rfl) ?_|refine aQ ?_|refine aR ?_|refine ba (ax ?_))
       refine sl ?_
     | exact aY
     | first|apply aZ|apply aM|apply a6|apply aN|apply a7|apply aO
     | refine aF ?_
     | first|refine aD rfl ?_|refine aE rfl ?_|refine ap rfl ?_ ?_|refine aH rfl (fun _=>?_) (fun _=>?_)|refine aG rfl (fun _=>?_) (fun _=>?_)
     | ((first|refine ao (fun _=>?_) (fun _=>?_)|refine aw (fun _=>?_) (fun _=>?_))<;>try refine sm ?_)
     | refine And.intro trivial ?_
     | refine And.intro (by omega) ?_
     | refine aI rfl (fun _=>?_) (fun _=>?_)
     | refine And.intro ?_ ?_
   refine ab rfl ?_
   rw [← e.out]
   exact h.out
end Go.Proofs.YtkkgmgmgcgiffaaGreatDoor.Av
