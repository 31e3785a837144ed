/- Joined texts of the walk, made small by a program. -/
import Derived.Test.YtkkgmgmgcgiffaaGreatDoorUS1
import Derived.Test.YtkkgmgmgcgiffaaGreatDoorUD1
import Derived.Test.YtkkgmgmgcgiffaaGreatDoorUP5
import Derived.Lib.IndexMore
set_option linter.unusedSimpArgs false
set_option linter.unusedVariables false
namespace Go.Proofs.YtkkgmgmgcgiffaaGreatDoor.Av
open Go
variable {L:List Blk} {K:AV→List Blk→Prop}
set_option maxHeartbeats 8000000
set_option maxRecDepth 100000
abbrev Pc:=Int×List UInt8
def pcA (p:Pc):List AV:=[.int .i64 p.1,.str p.2]
def b9 (l:List Pc):List AV:=l.flatMap pcA
theorem Mi (l:List Pc):(b9 l).length=l.length * 2:=by
 induction l with
 | nil=>rfl
 | cons a l ih=>simp only [b9,List.flatMap_cons,List.length_append,pcA,List.length_cons,List.length_nil] at ih ⊢;omega
theorem LF:∀ {l:List Pc} {k:Nat},k<l.length→((b9 l).drop (k * 2)).take 2=pcA (l.getD k (0,[]))
 | a::l,0,_=>rfl
 | a::l,k+1,h=>by
   have ih:=@LF l k (by simpa using h)
   rw [show (k+1) * 2=k * 2+1+1 by omega]
   simpa [b9,pcA] using ih
def TX (n i:Nat) (p:Pc):Bool:=decide (p.2=[]∨p.1<0∨2<p.1∨(p.1=0∧0<i)∨(p.1=2∧i+1<n))
def Mj (n:Nat):Nat→List Pc→Bool
 | _,[]=>true
 | i,p::t => !(TX n i p) && Mj n (i+1) t
def CJ (l:List Pc):Bool:=Mj l.length 0 l && decide (0<l.length)
theorem Pp {l:List Pc} {cap:Option Nat} (hn:l.length≤1100000) (h:K (.bool (CJ l)) L):ad Tryz.prog 134 [.sl (b9 l) l.length cap] L K:=by
 unfold CJ at h
 obtain ⟨R,hR⟩:∃ R,Mj l.length 0 l=R:=⟨_,rfl⟩
 rw [hR] at h
 replace h:=hid h
 have g0:IntKind.i64.wrap ((l.length:Int) - 1)=(l.length:Int) - 1:=ac (by omega) (by omega)
 refine ae Kj (by simp [mT]) ?_
 simp only [mT,ar]
 refine wk ?_
 refine am (fun n T' L'=>∃ (i:Nat) (X:List Blk),n=l.length - i∧i≤l.length∧Hid (Mj l.length i (l.drop i)=R)∧T'=[(7,.int .i64 (i:Int)),(6,.int .i64 l.length),(5,.sl (b9 l) l.length cap),(0,.sl (b9 l) l.length cap)]∧L'=L++X) (CutS (b:=by simp)) ⟨0,[],rfl,Nat.zero_le _,hid (by simpa using hR),rfl,by simp⟩ ?_
 rintro _ _ _ ⟨i,X,rfl,hi,hI,rfl,rfl⟩
 by_cases hlt:i<l.length
 · have g1:(i:Int)<(l.length:Int):=by omega
   have g2:IntKind.i64.wrap ((i:Int)+1)=(i:Int)+1:=ac (by omega) (by omega)
   have e3:=LF hlt
   have e4:i * 2+2≤(b9 l).length:=by rw [Mi];omega
   obtain ⟨⟨x,t⟩,ha⟩:∃ a,l.getD i (0,[])=a:=⟨_,rfl⟩
   have hdr:l.drop i=(x,t)::l.drop (i+1):=by rw [List.drop_eq_getElem_cons hlt,← ha];simp [hlt]
   rw [ha] at e3
   simp only [pcA] at e3
   have hI2:=hI.out
   rw [hdr,Mj] at hI2
   have hbad:TX l.length i (x,t)=true→K (.bool false) L:=fun e=>by
     have h':=h.out
     rw [e] at hI2
     simp only [Bool.not_true,Bool.false_and] at hI2
     rw [← hI2] at h'
     simpa using h'
   have hgo:TX l.length i (x,t)=false→Mj l.length (i+1) (l.drop (i+1))=R:=fun e=>by
     rw [e] at hI2;simpa using hI2
   simp only [TX,decide_eq_true_eq,decide_eq_false_iff_not] at hbad hgo
   replace hbad:=hid hbad
   replace hgo:=hid hgo
   clear hdr ha hI2 hR
   repeat' first
     | refine a8 ?_
     | (first|refine aP (by kernel_rfl) ?_|refine aB (by kernel_rfl) ?_|refine aC ?_|refine bj ?_|refine aX (fun _=>?_)|refine ay ?_|refine aS ?_)
       refine sm ?_
     | (first|refine aL (by kernel_rfl) ?_|refine aQ ?_|refine aR ?_|refine ba (ax ?_))
       refine sl ?_
     | exact aY
     | first|apply aZ|apply aM|apply a6|apply aN|apply a7|apply aO
     | refine aF ?_
     | first|refine aD rfl ?_|refine aE rfl ?_|refine ap rfl ?_ ?_|refine aH rfl (fun _=>?_) (fun _=>?_)|refine aG rfl (fun _=>?_) (fun _=>?_)
     | ((first|refine ao (fun _=>?_) (fun _=>?_)|refine aw (fun _=>?_) (fun _=>?_))<;>try refine sm ?_)
     | refine And.intro trivial ?_
     | refine And.intro (by omega) ?_
     | refine aI rfl (fun _=>?_) (fun _=>?_)
     | refine And.intro ?_ ?_
   · rename_i hx
     refine ab rfl (hbad.out ?_)
     rcases hx with (e|e)|e
     · exact .inl e
     · exact .inr (.inl e)
     · exact .inr (.inr (.inl e))
   · rename_i hx hy
     exact ab rfl (hbad.out (.inr (.inr (.inr (by omega)))))
   · rename_i hx hy
     refine ak _ _ _ (by omega) (CutL (b:=by simp)) ⟨i+1,_,rfl,hlt,hid (hgo.out fun hb=>?_),rfl,rfl⟩
     rcases hb with e|e|e|e
     · exact hx (.inl (.inl e))
     · exact hx (.inl (.inr e))
     · exact hx (.inr e)
     · exact hy (by omega)
 · have hke:i=l.length:=by omega
   subst hke
   have g1:¬ (l.length:Int)<(l.length:Int):=by omega
   have hz:=hI.out
   rw [List.drop_length,Mj] at hz
   have h':=h.out
   rw [← hz,Bool.true_and,show decide (0<l.length)=decide ((0:Int)<(l.length:Int)) by simp] at h'
   replace h':=hid h'
   clear hz hR
   refine wk ?_
   exact ab rfl h'.out
abbrev Yc (l:List Pc) (cap:Option Nat):AV:=.agg [.int .i64 4,.str [97],.str [],.sl (b9 l) l.length cap,.sl [] 0 (some 0)]
theorem U5 {l:List Pc} {cap:Option Nat} {p:Nat} (hn:l.length≤1100000) {L:List Blk} (hL:L[p]?=some (.cells [.int .i64 0])) {K:AV→List Blk→Prop} (h:K (.int .i64 (if CJ l=true then 0 else 4)) (L.set p (.cells [.int .i64 1]))) :
   ad Tryz.prog 88 [.ptr p 0,Yc l cap,.int .i64 1] L K:=by
 have hp:p<L.length:=(List.getElem?_eq_some_iff.1 hL).1
 have f1:∀ X:List Blk,(L++X)[p]?=some (.cells [.int .i64 0]):=fun X=>by rw [List.getElem?_append_left hp];exact hL
 have f2:∀ (X:List Blk) A,(L++X).set p A=L.set p A++X:=fun X A=>List.set_append_left _ _ hp
 have f3:∀ (X:List Blk) A,(L.set p A++X)[p]?=some A:=fun X A=>by rw [List.getElem?_append_left (by simpa using hp),List.getElem?_set,if_pos rfl,if_pos hp]
 have f4:∀ A:Blk,(L.set p A).length=L.length:=fun A=>by simp
 have f5:∀ (X:List Blk) A,(L.set p A++X)[L.length]?=X[0]?:=fun X A=>by
   rw [List.getElem?_append_right (by simp)];simp
 have hty:eS [97]=true:=by decide
 have fin:∀ (X:List Blk) (r:Int),K (.int .i64 r) (L.set p (.cells [.int .i64 1]))→Fin L (.int .i64 r) (L.set p (.cells [.int .i64 1])++X) K:=fun X r hk =>
   jU (f4 _) (fun hh k hk'=>by
     rcases List.mem_or_eq_of_mem_set hk' with e|e
     · exact hh k e
     · subst e;rfl) rfl hk
 replace fin:=hid fin
 replace h:=hid h
 refine ae qY (by simp [dR]) ?_
 simp only [dR,ar]
 refine wk ?_
 refine Oo ?_
 rw [hty]
 refine sk ?_
 cases hok:CJ l with
 | true =>
   have h':=h.out
   rw [hok,if_pos rfl] at h'
   replace h':=hid h'
   have kk1:=@hid _ (fun L K=>Pp (cap:=cap) hn (L:=L) (K:=K))
   refine wk ?_
   exact fin.out _ _ h'.out
 | false =>
   have h':=h.out
   rw [hok,if_neg (by simp)] at h'
   replace h':=hid h'
   have kk1:=@hid _ (fun L K=>Pp (cap:=cap) hn (L:=L) (K:=K))
   refine wk ?_
   exact fin.out _ _ h'.out
theorem lA {l:List Pc} {cap:Option Nat} (hn:l.length≤1100000) (h:K (.int .i64 (if CJ l=true then 0 else 4)) L) :
   ad Tryz.prog 41 [Yc l cap] L K:=by
 obtain ⟨r,hr⟩:∃ r:Int,(if CJ l=true then 0 else 4)=r:=⟨_,rfl⟩
 rw [hr] at h
 replace h:=hid h
 refine ae Lx (by simp [rN]) ?_
 simp only [rN,ar]
 refine wk ?_
 refine U5 hn (by rw [ju];rfl) ?_
 rw [hr]
 refine sk ?_
 refine wk ?_
 exact ab rfl h.out
def pcT (ex:Bool) (p:Pc):List UInt8:=if ex=true then p.2 else ah p.2
def QT (ex:Bool):List UInt8→List Pc→Bool
 | _,[]=>true
 | s,p::t=>if (p.1=0∧Lib.hasPrefix s (pcT ex p)=false)∨(p.1=2∧Lib.hasSuffix s (pcT ex p)=false)∨Lib.index s (pcT ex p)<0 then false
   else QT ex (s.drop ((Lib.index s (pcT ex p)).toNat+(pcT ex p).length)) t
def CP (syn:Int) (v:List UInt8) (l:List Pc):Option Bool:=match bU syn v with
 | none=>none
 | some s=>if (syn=1∨syn=2∨syn=3)∧CJ l=true then some (QT (decide (syn=2)) s l) else none
def PG:Option Bool→AV
 | none=>.tup [.bool false,.bool false]
 | some b=>.tup [.bool b,.bool true]
theorem Px {syn:Int} {v s:List UInt8} (h:bU syn v=some s) (h3:syn=1∨syn=2∨syn=3):s.length≤4096:=by
 have hv:=JP h
 have hp:=qN v
 unfold bU at h
 split at h
 · cases h
 · unfold Py at h
   rcases h3 with rfl|rfl|rfl
   · rw [if_pos rfl] at h
     split at h
     · cases h
     · split at h
       · cases h;omega
       · cases h
   · rw [if_neg (by decide),if_pos rfl] at h
     split at h
     · cases h
     · split at h
       · cases h;omega
       · cases h
   · rw [if_neg (by decide),if_neg (by decide),if_pos rfl] at h
     split at h
     · cases h;omega
     · cases h
theorem QS {syn:Int} {v:List UInt8} {l:List Pc} {cap:Option Nat} (hn:l.length≤1100000) (ht:∀ p∈l,(p.2.length:Int)≤140737488351232) (h:K (PG (CP syn v l)) L) :
   ad Tryz.prog 44 [.int .i64 syn,.str v,.sl (b9 l) l.length cap] L K:=by
 unfold CP at h
 refine ae J1 (by simp [mC]) ?_
 simp only [mC,ar]
 refine wk ?_
 refine dN ?_
 rcases hs:bU syn v with _|s
 · rw [hs] at h
   simp only [PG] at h
   replace h:=hid h
   simp only [fD]
   refine sk ?_
   refine wk ?_
   exact aa h.out
 rw [hs] at h
 simp only at h
 simp only [fD]
 by_cases h3:syn=1∨syn=2∨syn=3
 rotate_left
 · rw [if_neg (fun e=>h3 e.1)] at h
   simp only [PG] at h
   replace h:=hid h
   have k1:¬ syn=1:=fun e=>h3 (.inl e)
   have k2:¬ syn=2:=fun e=>h3 (.inr (.inl e))
   have k3:¬ syn=3:=fun e=>h3 (.inr (.inr e))
   clear hs h3
   refine sk ?_
   refine wk ?_
   exact aa h.out
 have hsl:=Px hs h3
 clear hs
 have hb3:(!decide (syn=1) && !decide (syn=2) && !decide (syn=3))=false:=by
   rcases h3 with rfl|rfl|rfl<;>rfl
 cases hok:CJ l with
 | false =>
   rw [hok,if_neg (by simp)] at h
   simp only [PG] at h
   replace h:=hid h
   have e4:(if false=true then (0:Int) else 4)=4:=rfl
   rcases h3 with rfl|rfl|rfl
   · refine sk ?_
     have kk1:=@hid _ (fun L K=>lA (cap:=cap) hn (L:=L) (K:=K))
     refine wk ?_
     exact aa h.out
   · refine sk ?_
     have kk1:=@hid _ (fun L K=>lA (cap:=cap) hn (L:=L) (K:=K))
     refine wk ?_
     exact aa h.out
   · refine sk ?_
     have kk1:=@hid _ (fun L K=>lA (cap:=cap) hn (L:=L) (K:=K))
     refine wk ?_
     exact aa h.out
 | true =>
 rw [if_pos ⟨h3,hok⟩] at h
 obtain ⟨R,hR⟩:∃ R,QT (decide (syn=2)) s l=R:=⟨_,rfl⟩
 rw [hR] at h
 simp only [PG] at h
 replace h:=hid h
 obtain ⟨ex,hex⟩:∃ ex,decide (syn=2)=ex:=⟨_,rfl⟩
 rw [hex] at hR
 replace hR:=hid hR
 replace ht:=hid ht
 refine sk ?_
 iterate 1 first
   | refine a8 ?_
   | (first|refine aP (by kernel_rfl) ?_|refine aB (by kernel_rfl) ?_|refine aC ?_|refine bj ?_|refine aX (fun _=>?_)|refine ay ?_|refine aS ?_)
     simp (config:={ maxSteps:=2000000 }) only [Kon,push_cast,reduceIte,Nat.reduceEqDiff,Nat.reduceAdd,Nat.reduceMul,Nat.reduceSub,Nat.reduceLT,Nat.reduceLeDiff,Int.reduceLT,Int.reduceLE,Int.reduceAdd,Int.reduceSub,Int.reduceNeg,Int.reduceToNat,Int.reduceEq,reduceCtorEq, *]
   | (first|refine aL (by kernel_rfl) ?_|refine aQ ?_|refine aR ?_|refine ba (ax ?_))
     simp only [push_cast,reduceIte,Nat.reduceEqDiff,Nat.reduceAdd,Nat.reduceMul,Nat.reduceSub,Nat.reduceLT,Nat.reduceLeDiff,Int.reduceLT,Int.reduceLE,Int.reduceAdd,Int.reduceSub,Int.reduceNeg,Int.reduceToNat,Int.reduceEq,reduceCtorEq, *]
   | exact aY
   | first|apply aZ|apply aM|apply a6|apply aN|apply a7|apply aO
   | refine aF ?_
   | first|refine aD rfl ?_|refine aE rfl ?_|refine ap rfl ?_ ?_|refine aH rfl (fun _=>?_) (fun _=>?_)|refine aG rfl (fun _=>?_) (fun _=>?_)
   | ((first|refine ao (fun _=>?_) (fun _=>?_)|refine aw (fun _=>?_) (fun _=>?_))<;>try simp (config:={ maxSteps:=2000000 }) only [Kon,push_cast,reduceIte,Nat.reduceEqDiff,Nat.reduceAdd,Nat.reduceMul,Nat.reduceSub,Nat.reduceLT,Nat.reduceLeDiff,Int.reduceLT,Int.reduceLE,Int.reduceAdd,Int.reduceSub,Int.reduceNeg,Int.reduceToNat,Int.reduceEq,reduceCtorEq, *])
   | refine And.intro trivial ?_
   | refine And.intro (by omega) ?_
   | refine aI rfl (fun _=>?_) (fun _=>?_)
   | refine And.intro ?_ ?_
 refine DG (fun T2 L2=>T2=[(8,.str s),(0,.int .i64 syn),(2,.sl (b9 l) l.length cap)]∧L=L2) ?_ ?_
 · rcases h3 with rfl|rfl|rfl
   · have kk1:=@hid _ (fun L K=>lA (cap:=cap) hn (L:=L) (K:=K))
     refine wk ?_
     exact eV _ _ (CutL (b:=by simp)) ⟨rfl,rfl⟩
   · have kk1:=@hid _ (fun L K=>lA (cap:=cap) hn (L:=L) (K:=K))
     refine wk ?_
     exact eV _ _ (CutL (b:=by simp)) ⟨rfl,rfl⟩
   · have kk1:=@hid _ (fun L K=>lA (cap:=cap) hn (L:=L) (K:=K))
     refine wk ?_
     exact eV _ _ (CutL (b:=by simp)) ⟨rfl,rfl⟩
 rintro _ _ ⟨rfl,rfl⟩ -
 clear hb3 hok
 refine wk ?_
 refine am (fun n T' L'=>∃ (i:Nat) (u:List UInt8) (Z:List Blk),n=l.length - i∧i≤l.length∧u.length≤4096∧Hid (QT ex u (l.drop i)=R)∧T'=[(42,.int .i64 (i:Int)),(41,.int .i64 l.length),(40,.sl (b9 l) l.length cap),(8,.str u),(0,.int .i64 syn)]∧L'=L++Z) (CutS (b:=by simp)) ⟨0,s,[],rfl,Nat.zero_le _,hsl,hid (by simpa using hR.out),rfl,by simp⟩ ?_
 clear hsl hR
 rintro _ _ _ ⟨i,u,X,rfl,hi,hul,hI,rfl,rfl⟩
 by_cases hlt:i<l.length
 rotate_left
 · have hke:i=l.length:=by omega
   subst hke
   have g1:¬ (l.length:Int)<(l.length:Int):=by omega
   have h':=h.out
   rw [← hI.out,List.drop_length,QT] at h'
   replace h':=hid h'
   refine wk ?_
   exact ab rfl h'.out
 have g1:(i:Int)<(l.length:Int):=by omega
 have g2:IntKind.i64.wrap ((i:Int)+1)=(i:Int)+1:=ac (by omega) (by omega)
 have e3:=LF hlt
 have e4:i * 2+2≤(b9 l).length:=by rw [Mi];omega
 obtain ⟨⟨x,t⟩,ha⟩:∃ a,l.getD i (0,[])=a:=⟨_,rfl⟩
 have hdr:l.drop i=(x,t)::l.drop (i+1):=by rw [List.drop_eq_getElem_cons hlt,← ha];simp [hlt]
 have htl:=ht.out (x,t) (by rw [← ha];simp [hlt])
 simp only at htl
 rw [ha] at e3
 simp only [pcA] at e3
 have hI2:=hI.out
 rw [hdr,QT] at hI2
 simp only at hI2
 obtain ⟨w,hw⟩:∃ w,pcT ex (x,t)=w:=⟨_,rfl⟩
 rw [hw] at hI2
 clear hdr ha hI
 replace hI2:=hid hI2
 iterate 15 first
   | refine a8 ?_
   | (first|refine aP (by kernel_rfl) ?_|refine aB (by kernel_rfl) ?_|refine aC ?_|refine bj ?_|refine aX (fun _=>?_)|refine ay ?_|refine aS ?_)
     simp (config:={ maxSteps:=2000000 }) only [Kon,push_cast,reduceIte,Nat.reduceEqDiff,Nat.reduceAdd,Nat.reduceMul,Nat.reduceSub,Nat.reduceLT,Nat.reduceLeDiff,Int.reduceLT,Int.reduceLE,Int.reduceAdd,Int.reduceSub,Int.reduceNeg,Int.reduceToNat,Int.reduceEq,reduceCtorEq, *]
   | (first|refine aL (by kernel_rfl) ?_|refine aQ ?_|refine aR ?_|refine ba (ax ?_))
     simp only [push_cast,reduceIte,Nat.reduceEqDiff,Nat.reduceAdd,Nat.reduceMul,Nat.reduceSub,Nat.reduceLT,Nat.reduceLeDiff,Int.reduceLT,Int.reduceLE,Int.reduceAdd,Int.reduceSub,Int.reduceNeg,Int.reduceToNat,Int.reduceEq,reduceCtorEq, *]
   | exact aY
   | first|apply aZ|apply aM|apply a6|apply aN|apply a7|apply aO
   | refine aF ?_
   | first|refine aD rfl ?_|refine aE rfl ?_|refine ap rfl ?_ ?_|refine aH rfl (fun _=>?_) (fun _=>?_)|refine aG rfl (fun _=>?_) (fun _=>?_)
   | ((first|refine ao (fun _=>?_) (fun _=>?_)|refine aw (fun _=>?_) (fun _=>?_))<;>try simp (config:={ maxSteps:=2000000 }) only [Kon,push_cast,reduceIte,Nat.reduceEqDiff,Nat.reduceAdd,Nat.reduceMul,Nat.reduceSub,Nat.reduceLT,Nat.reduceLeDiff,Int.reduceLT,Int.reduceLE,Int.reduceAdd,Int.reduceSub,Int.reduceNeg,Int.reduceToNat,Int.reduceEq,reduceCtorEq, *])
   | refine And.intro trivial ?_
   | refine And.intro (by omega) ?_
   | refine aI rfl (fun _=>?_) (fun _=>?_)
   | refine And.intro ?_ ?_
 refine DG (fun T2 L2=>T2=[(12,.str w),(11,.ptr (L.length+X.length) 0),(42,.int .i64 (i:Int)),(41,.int .i64 l.length),(40,.sl (b9 l) l.length cap),(8,.str u),(0,.int .i64 syn)]∧L2=L++(X++[.cells [.int .i64 x,.str t]])) ?_ ?_
 · unfold pcT at hw
   cases ex with
   | true =>
     rw [if_pos rfl] at hw
     have k2:syn=2:=by simpa using hex
     simp only at hw
     subst hw
     subst k2
     refine wk ?_
     exact eV _ _ (CutL (b:=by simp)) ⟨rfl,rfl⟩
   | false =>
     rw [if_neg (by simp)] at hw
     have k2:¬ syn=2:=by simpa using hex
     simp only at hw
     clear hex
     have kk1:=@hid _ (fun L K=>mu htl (L:=L) (K:=K))
     refine wk ?_
     exact eV _ _ (CutL (b:=by simp)) ⟨rfl,rfl⟩
 rintro _ _ ⟨rfl,rfl⟩ -
 clear hex hw
 obtain ⟨pf,hpf⟩:∃ b,Lib.hasPrefix u w=b:=⟨_,rfl⟩
 obtain ⟨sf,hsf⟩:∃ b,Lib.hasSuffix u w=b:=⟨_,rfl⟩
 obtain ⟨z,hz⟩:∃ z,Lib.index u w=z:=⟨_,rfl⟩
 have hI3:=hI2.out
 rw [hpf,hsf,hz] at hI3
 have hbad:((x=0∧pf=false)∨(x=2∧sf=false)∨z<0)→K (.tup [.bool false,.bool true]) L:=fun e=>by
   rw [if_pos e] at hI3
   have h':=h.out
   rwa [← hI3] at h'
 have hgo:¬ ((x=0∧pf=false)∨(x=2∧sf=false)∨z<0)→QT ex (u.drop (z.toNat+w.length)) (l.drop (i+1))=R:=fun e=>by
   rw [if_neg e] at hI3;exact hI3
 replace hbad:=hid hbad
 replace hgo:=hid hgo
 clear hI2 hI3
 have hul2:u.length≤1100000:=by omega
 by_cases hneg:z<0
 · repeat' first
     | refine a8 ?_
     | (first|refine aP (by kernel_rfl) ?_|refine aB (by kernel_rfl) ?_|refine aC ?_|refine bj ?_|refine aX (fun _=>?_)|refine ay ?_|refine aS ?_|refine eX ?_|refine eW hul2 ?_|refine jC hul2 ?_|refine aK (eX ⟨rfl,rfl⟩) (eX ⟨rfl,rfl⟩) ?_|refine aK (eW hul2 ⟨rfl,rfl⟩) (eW hul2 ⟨rfl,rfl⟩) ?_|refine aK (jC hul2 ⟨rfl,rfl⟩) (jC hul2 ⟨rfl,rfl⟩) ?_|refine aq (eX ⟨rfl,rfl⟩) ?_|refine aq (eW hul2 ⟨rfl,rfl⟩) ?_|refine aq (jC hul2 ⟨rfl,rfl⟩) ?_)
       simp (config:={ maxSteps:=2000000 }) only [Kon,push_cast,reduceIte,Nat.reduceEqDiff,Nat.reduceAdd,Nat.reduceMul,Nat.reduceSub,Nat.reduceLT,Nat.reduceLeDiff,Int.reduceLT,Int.reduceLE,Int.reduceAdd,Int.reduceSub,Int.reduceNeg,Int.reduceToNat,Int.reduceEq,reduceCtorEq, *]
     | (first|refine aL (by kernel_rfl) ?_|refine aQ ?_|refine aR ?_|refine ba (ax ?_))
       simp only [push_cast,reduceIte,Nat.reduceEqDiff,Nat.reduceAdd,Nat.reduceMul,Nat.reduceSub,Nat.reduceLT,Nat.reduceLeDiff,Int.reduceLT,Int.reduceLE,Int.reduceAdd,Int.reduceSub,Int.reduceNeg,Int.reduceToNat,Int.reduceEq,reduceCtorEq, *]
     | exact aY
     | first|apply aZ|apply aM|apply a6|apply aN|apply a7|apply aO
     | refine aF ?_
     | first|refine aD rfl ?_|refine aE rfl ?_|refine ap rfl ?_ ?_|refine aH rfl (fun _=>?_) (fun _=>?_)|refine aG rfl (fun _=>?_) (fun _=>?_)
     | ((first|refine ao (fun _=>?_) (fun _=>?_)|refine aw (fun _=>?_) (fun _=>?_))<;>try simp (config:={ maxSteps:=2000000 }) only [Kon,push_cast,reduceIte,Nat.reduceEqDiff,Nat.reduceAdd,Nat.reduceMul,Nat.reduceSub,Nat.reduceLT,Nat.reduceLeDiff,Int.reduceLT,Int.reduceLE,Int.reduceAdd,Int.reduceSub,Int.reduceNeg,Int.reduceToNat,Int.reduceEq,reduceCtorEq, *])
     | refine And.intro trivial ?_
     | refine And.intro (by omega) ?_
     | refine aI rfl (fun _=>?_) (fun _=>?_)
     | refine And.intro ?_ ?_
   · rename_i hx
     exact ab rfl (hbad.out (.inl (by simpa using hx)))
   · rename_i hx hy
     exact ab rfl (hbad.out (.inr (.inl (by simpa using hy))))
   · exact ab rfl (hbad.out (.inr (.inr hneg)))
 · have hroom:=Lib.index_room u w (by rw [hz];omega)
   rw [hz] at hroom
   obtain ⟨a,rfl⟩:∃ a:Nat,z=(a:Int):=⟨z.toNat,by omega⟩
   have m1:IntKind.i64.wrap ((a:Int)+(w.length:Int))=(a:Int)+(w.length:Int):=ac (by omega) (by omega)
   have m2:((a:Int)+(w.length:Int)).toNat=a+w.length:=by omega
   have m3:(u.drop (a+w.length)).take (u.length - (a+w.length))=u.drop (a+w.length):=List.take_of_length_le (by simp)
   have m4:(0:Int)≤(a:Int)+(w.length:Int):=by omega
   repeat' first
     | refine a8 ?_
     | (first|refine aP (by kernel_rfl) ?_|refine aB (by kernel_rfl) ?_|refine aC ?_|refine bj ?_|refine aX (fun _=>?_)|refine ay ?_|refine aS ?_|refine eX ?_|refine eW hul2 ?_|refine jC hul2 ?_|refine aK (eX ⟨rfl,rfl⟩) (eX ⟨rfl,rfl⟩) ?_|refine aK (eW hul2 ⟨rfl,rfl⟩) (eW hul2 ⟨rfl,rfl⟩) ?_|refine aK (jC hul2 ⟨rfl,rfl⟩) (jC hul2 ⟨rfl,rfl⟩) ?_|refine aq (eX ⟨rfl,rfl⟩) ?_|refine aq (eW hul2 ⟨rfl,rfl⟩) ?_|refine aq (jC hul2 ⟨rfl,rfl⟩) ?_)
       simp (config:={ maxSteps:=2000000 }) only [Kon,push_cast,reduceIte,Nat.reduceEqDiff,Nat.reduceAdd,Nat.reduceMul,Nat.reduceSub,Nat.reduceLT,Nat.reduceLeDiff,Int.reduceLT,Int.reduceLE,Int.reduceAdd,Int.reduceSub,Int.reduceNeg,Int.reduceToNat,Int.reduceEq,reduceCtorEq, *]
     | (first|refine aL (by kernel_rfl) ?_|refine aQ ?_|refine aR ?_|refine ba (ax ?_))
       simp only [push_cast,reduceIte,Nat.reduceEqDiff,Nat.reduceAdd,Nat.reduceMul,Nat.reduceSub,Nat.reduceLT,Nat.reduceLeDiff,Int.reduceLT,Int.reduceLE,Int.reduceAdd,Int.reduceSub,Int.reduceNeg,Int.reduceToNat,Int.reduceEq,reduceCtorEq, *]
     | exact aY
     | first|apply aZ|apply aM|apply a6|apply aN|apply a7|apply aO
     | refine aF ?_
     | first|refine aD rfl ?_|refine aE rfl ?_|refine ap rfl ?_ ?_|refine aH rfl (fun _=>?_) (fun _=>?_)|refine aG rfl (fun _=>?_) (fun _=>?_)
     | ((first|refine ao (fun _=>?_) (fun _=>?_)|refine aw (fun _=>?_) (fun _=>?_))<;>try simp (config:={ maxSteps:=2000000 }) only [Kon,push_cast,reduceIte,Nat.reduceEqDiff,Nat.reduceAdd,Nat.reduceMul,Nat.reduceSub,Nat.reduceLT,Nat.reduceLeDiff,Int.reduceLT,Int.reduceLE,Int.reduceAdd,Int.reduceSub,Int.reduceNeg,Int.reduceToNat,Int.reduceEq,reduceCtorEq, *])
     | refine And.intro trivial ?_
     | refine And.intro (by omega) ?_
     | refine aI rfl (fun _=>?_) (fun _=>?_)
     | refine And.intro ?_ ?_
   · rename_i hx
     exact ab rfl (hbad.out (.inl (by simpa using hx)))
   · rename_i hx hy
     exact ab rfl (hbad.out (.inr (.inl (by simpa using hy))))
   · rename_i hx hy
     refine ak _ _ _ (by omega) (CutL (b:=by simp)) ⟨i+1,u.drop (a+w.length),_,rfl,hlt,?_,hid ?_,rfl,rfl⟩
     · simp;omega
     · have:=hgo.out (fun e=>by
         rcases e with e|e|e
         · rw [decide_eq_true e.1,e.2] at hx;simp at hx
         · rw [decide_eq_true e.1,e.2] at hy;simp at hy
         · omega)
       simpa using this
end Go.Proofs.YtkkgmgmgcgiffaaGreatDoor.Av
