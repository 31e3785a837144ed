/- Joined texts of the walk, made small by a program. -/
import Derived.Test.YtkkgmgmgcgiffaaGreatDoorUE6
import Derived.Test.YtkkgmgmgcgiffaaGreatDoorUE2
import Derived.Test.YtkkgmgmgcgiffaaGreatDoorUE3
import Derived.Test.YtkkgmgmgcgiffaaGreatDoorUE4
import Derived.Test.YtkkgmgmgcgiffaaGreatDoorUE1
import Derived.Test.YtkkgmgmgcgiffaaGreatDoorUT4
import Derived.Test.YtkkgmgmgcgiffaaGreatDoorUT2
import Derived.Test.YtkkgmgmgcgiffaaGreatDoorUSyR
import Derived.Test.YtkkgmgmgcgiffaaGreatDoorUT3
import Derived.Test.YtkkgmgmgcgiffaaGreatDoorUE5
import Derived.Test.YtkkgmgmgcgiffaaGreatDoorUP5
set_option linter.unusedSimpArgs false
set_option linter.unusedVariables false
namespace Go.Proofs.YtkkgmgmgcgiffaaGreatDoor.Av
open Go
set_option maxHeartbeats 8000000
set_option maxRecDepth 100000
theorem XZ:RdU Tryz.prog 137 pcA (fun p=>p.2.length≤1048576) :=
 (ji Tryz.underlying137 (N:=2) (by kernel_rfl) (ce (sz:=1) rfl (by kernel_rfl) (Rd.u (Oy Tryz.underlying3)) (ce (sz:=1) rfl (by kernel_rfl) (lD Tryz.underlying9) (kO rfl)))).map
   fun y hy=>⟨(y.1,y.2.1),hy.2.1,rfl⟩
theorem P0:∀ l:List Flt,l.flatMap fA=fsA l
 | []=>rfl
 | f::r=>by rw [List.flatMap_cons,P0 r,fsA]
theorem TS:RdU Tryz.prog 30 fA Ro:=fun F=>by
 induction F with
 | zero=>exact fun H enc w fuel cs x hF=>absurd hF (Nat.not_lt_zero _)
 | succ F ih =>
   exact (L6 Tryz.underlying30 (N:=5) (by kernel_rfl) (kE (sz:=1) rfl (by kernel_rfl) (Rd.u (Oy Tryz.underlying3) F) (kE (sz:=1) rfl (by kernel_rfl) (lD Tryz.underlying9 F) (kE (sz:=1) rfl (by kernel_rfl) (lD Tryz.underlying9 F)
     (kE (sz:=1) rfl (by kernel_rfl) (mX Tryz.underlying27 XZ (by kernel_rfl) F) (kE (sz:=1) rfl (by kernel_rfl) ((NU Tryz.underlying28 ih (by kernel_rfl)).mono (Nat.le_succ F)) (kO rfl F))))))).map
     fun y hy=>⟨.mk y.1 y.2.1 y.2.2.1 y.2.2.2.1 y.2.2.2.2.1,⟨hy.2.1,hy.2.2.1,hy.2.2.2.1.1,hy.2.2.2.1.2,hy.2.2.2.2.1.1,O9 hy.2.2.2.2.1.2⟩,by
       rw [ky]
       simp only [P0,b9,List.cons_append,List.nil_append,List.append_nil]⟩
abbrev tcA (x:List Atr×Flt):List AV:=.sl (bn x.1) x.1.length none::fA x.2
theorem TQ:RdU Tryz.prog 32 tcA (fun x=>WI x.1∧Ro x.2) :=
 (ji Tryz.underlying32 (N:=6) (by kernel_rfl) (ce (sz:=1) rfl (by kernel_rfl) W9 (ce (sz:=5) rfl (by kernel_rfl) TS (kO rfl)))).map
   fun y hy=>⟨(y.1,y.2.1),⟨hy.1,hy.2.1⟩,by simp only [List.cons_append,List.nil_append,List.append_nil]⟩
variable {L:List Blk} {K:AV→List Blk→Prop}
theorem V6 {syn:Int} {v:List UInt8} {l:List Pc} {cap:Option Nat} (hn:l.length≤1000) (ht:∀ p∈l,(p.2.length:Int)≤140737488351232) (h:K (.tup [.bool ((CP syn v l).getD false),.bool (CP syn v l).isSome]) L) :
   ad Tryz.prog 44 [.int .i64 syn,.str v,.sl (b9 l) l.length cap] L K:=by
 refine QS (by omega) ht ?_
 revert h
 rcases CP syn v l with _|c<;>exact fun h=>h
theorem W1 {b:Bool} (h:K (.int .i64 (tf1 b)) L):ad Tryz.prog 39 [.bool b] L K:=by
 cases b with
 | false =>
   replace h:Hid (K (.int .i64 0) L):=hid h
   refine ae CW (by simp [jP]) ?_
   simp only [jP,ar]
   refine wk ?_
   exact aa h.out
 | true =>
   replace h:Hid (K (.int .i64 1) L):=hid h
   refine ae CW (by simp [jP]) ?_
   simp only [jP,ar]
   refine wk ?_
   exact aa h.out
theorem X5 {ty:Typ} {k:Int} {a v x:List UInt8} {ps:List Pc} {cp:Option Nat} {ks:AV} {pt pf:Nat} {L:List Blk} (hp:L[pt]?=some (.cells (tyC ty))) (hf:L[pf]?=some (.cells [.int .i64 k,.str a,.str v,.sl (b9 ps) ps.length cp,ks])) (hn:ps.length≤1000) (ht:∀ p∈ps,(p.2.length:Int)≤140737488351232)
   {K:AV→List Blk→Prop} (h:K (.bool ((CP ty.2.1 x ps).getD false)) L):ad Tryz.prog 43 [.str x,.ptr pt 0,.ptr pf 0] L K:=by
 obtain ⟨r,hr⟩:∃ r,(CP ty.2.1 x ps).getD false=r:=⟨_,rfl⟩
 obtain ⟨b,hb⟩:∃ b,(CP ty.2.1 x ps).isSome=b:=⟨_,rfl⟩
 have kk1:Hid (Ctr Tryz.prog 44 [.int .i64 ty.2.1,.str x,.sl (b9 ps) ps.length cp] (.tup [.bool r,.bool b])):=hid fun q=>V6 hn ht (by rw [hr,hb];exact q)
 rw [hr] at h
 replace h:=hid h
 simp only [tyC] at hp
 clear hr hb ht
 refine ae Lh (by simp [rq]) ?_
 simp only [rq,ar]
 refine wk ?_
 exact aa h.out
theorem WO {ty:Typ} {k:Int} {a v x:List UInt8} {ps ks:AV} {pt pf:Nat} {L:List Blk} (hp:L[pt]?=some (.cells (tyC ty))) (hf:L[pf]?=some (.cells [.int .i64 k,.str a,.str v,ps,ks]))
   {K:AV→List Blk→Prop} (h:K (.bool (decide ((k7 ty.2.1 x v).getD 0=0) || (decide (0<(k7 ty.2.1 x v).getD 0) == decide (k=5)))) L):ad Tryz.prog 46 [.str x,.ptr pt 0,.ptr pf 0] L K:=by
 obtain ⟨r,hr⟩:∃ r,(k7 ty.2.1 x v).getD 0=r:=⟨_,rfl⟩
 obtain ⟨b,hb⟩:∃ b,(k7 ty.2.1 x v).isSome=b:=⟨_,rfl⟩
 have kk1:Hid (Ctr Tryz.prog 45 [.int .i64 ty.2.1,.str x,.str v] (.tup [.int .i64 r,.bool b])):=hid fun q=>Ps (by rw [hr,hb];exact q)
 rw [hr] at h
 replace h:=hid h
 simp only [tyC] at hp
 clear hr hb
 refine ae Lg (by simp [rp]) ?_
 simp only [rp,ar]
 refine wk ?_
 refine aa (Kto h.out (congrArg AV.bool ?_))
 by_cases h1:r=0<;>by_cases h2:0<r<;>by_cases h3:k=5<;>simp [h1,h2,h3]
theorem V2 {ts:List Typ} {capT:Option Nat} {c2:List AV} {n2:Nat} {cap2:Option Nat} {l:List Atr} {cap:Option Nat} (hts:O4 ts) (hin:InA ts l) (hl:l.length≤1100000) (hz:∀ a∈l,a.2.length≤1100000):∀ (f:Flt),Dp f→∀ {L:List Blk} {K:AV→List Blk→Prop},K (.int .i64 (ofM ts l f)) L →
   ad Tryz.prog 11 [.agg [.sl (bc ts) ts.length capT,.sl c2 n2 cap2],.agg (fA f),.sl (bn l) l.length cap] L K:=by
 refine OR fun k a v ps ks ih hrd L K h=>?_
 simp only [FlB] at hrd
 obtain ⟨r1,r2,r3,r4,r5,r6⟩:=hrd
 have ih2:∀ x∈ks,∀ {L:List Blk} {K:AV→List Blk→Prop},K (.int .i64 (ofM ts l x)) L→ad Tryz.prog 11 [.agg [.sl (bc ts) ts.length capT,.sl c2 n2 cap2],.agg (fA x),.sl (bn l) l.length cap] L K:=fun x hx {L K} q=>ih x hx (Nr r6 x hx) q
 replace ih2:=@hid _ @ih2
 clear ih r6
 rw [ofM,CK] at h
 rw [ky]
 obtain ⟨PS,hPS⟩:∃ P,P=b9 ps:=⟨_,rfl⟩
 obtain ⟨KS,hKS⟩:∃ P,P=fsA ks:=⟨_,rfl⟩
 rw [← hPS,← hKS]
 replace hPS:=hid hPS
 replace hKS:=hid hKS
 by_cases hk:k=0∨k=1∨k=2
 · rw [if_pos hk] at h
   obtain ⟨V,hV⟩:∃ V,V=ks.map (ofM ts l):=⟨_,rfl⟩
   rw [← hV] at h
   replace hV:=hid hV
   replace h:=hid h
   have hnl:V.length=ks.length:=by rw [hV.out];simp
   have e2:∀ A B:Blk,(L++[A,B]).length=L.length+2:=fun A B=>by simp
   have stp:∀ i:Nat,i<ks.length→∃ q:Flt,Hid ((KS.drop (i * 5)).take 5=fA q∧i * 5+5≤KS.length∧(∀ {L:List Blk} {K:AV→List Blk→Prop},K (.int .i64 (ofM ts l q)) L→ad Tryz.prog 11 [.agg [.sl (bc ts) ts.length capT,.sl c2 n2 cap2],.agg (fA q),.sl (bn l) l.length cap] L K)∧(i:Int)<(ks.length:Int)∧IntKind.i64.wrap ((i:Int)+1)=(i:Int)+1∧(V.take (i+1)).map (AV.int .i64)=(V.take i).map (AV.int .i64)++[.int .i64 (ofM ts l q)]):=fun i hlt=>by
     refine ⟨ks.getD i RK,hid ⟨?_,?_,?_,by omega,ac (by omega) (by omega),?_⟩⟩
     · rw [hKS.out];exact Rc hlt
     · rw [hKS.out,OP];omega
     · exact fun q=>ih2.out _ (by simp [hlt]) q
     · rw [List.take_succ_eq_append_getElem (by omega),List.map_append]
       congr 1
       simp [hV.out,hlt]
   refine ae GR (by simp [ll]) ?_
   simp only [ll,ar]
   rcases hk with rfl|rfl|rfl
   · refine wk ?_
     refine ch (l:=[]) (n:=0) 7 1 rfl (Nat.zero_mul 1).symm ?_
     rw [e2]
     refine am (fun m T' L'=>∃ (i:Nat) (C:List AV) (Y:List Blk),m=ks.length - i∧i≤ks.length∧Hid (C=(V.take i).map (AV.int .i64))∧T'=[(26,.int .i64 (i:Int)),(25,.int .i64 ks.length),(24,.sl KS ks.length none),(7,.gsl C i (L.length+2) 1),(4,.ptr (L.length+1) 0),(3,.ptr L.length 0),(2,.sl (bn l) l.length cap)]∧L'=L++(.cells [.sl (bc ts) ts.length capT,.sl c2 n2 cap2] :: .cells [.int .i64 0,.str a,.str v,.sl PS ps.length none,.sl KS ks.length none] :: .spare i 1::Y)) (CutS (b:=by simp)) ⟨0,[],[],rfl,Nat.zero_le _,hid rfl,rfl,by simp⟩ ?_
     rintro _ _ _ ⟨i,C,Y,rfl,hi,hC,rfl,rfl⟩
     by_cases hlt:i<ks.length
     · obtain ⟨q,hq⟩:=stp i hlt
       obtain ⟨e3,e4,e5,g1,g2,e6⟩:=hq.out
       have kk1:=@hid _ @e5
       clear e5 hq
       have hC2:=hid (show C++[.int .i64 (ofM ts l q)]=(V.take (i+1)).map (AV.int .i64) by rw [hC.out,e6])
       clear e6
       simp only [N9] at e3 kk1
       refine wk ?_
       exact ak _ _ _ (by omega) (CutS (b:=by simp)) ⟨i+1,_,_,rfl,hlt,hC2,rfl,rfl⟩
     · have hke:i=ks.length:=by omega
       subst hke
       have g1:¬ (ks.length:Int)<(ks.length:Int):=by omega
       have hC2:=hC.out
       rw [← hnl,List.take_length] at hC2
       subst hC2
       clear hC stp
       replace hnl:=hid hnl
       have kk1:Hid (∀ {i:Nat} {L:List Blk} {K:AV→List Blk→Prop},K (.int .i64 (rQ V)) L→ad Tryz.prog 34 [.gsl (V.map (AV.int .i64)) ks.length i 1] L K):=hid fun q=>by
         rw [← hnl.out]
         exact Nk (by have:=hnl.out;omega) q
       have h':=hid (show K (.int .i64 (rQ V)) L by have:=h.out;simpa [MB] using this)
       refine wk ?_
       exact ab rfl h'.out
   · refine wk ?_
     refine ch (l:=[]) (n:=0) 7 1 rfl (Nat.zero_mul 1).symm ?_
     rw [e2]
     refine am (fun m T' L'=>∃ (i:Nat) (C:List AV) (Y:List Blk),m=ks.length - i∧i≤ks.length∧Hid (C=(V.take i).map (AV.int .i64))∧T'=[(26,.int .i64 (i:Int)),(25,.int .i64 ks.length),(24,.sl KS ks.length none),(7,.gsl C i (L.length+2) 1),(4,.ptr (L.length+1) 0),(3,.ptr L.length 0),(2,.sl (bn l) l.length cap)]∧L'=L++(.cells [.sl (bc ts) ts.length capT,.sl c2 n2 cap2] :: .cells [.int .i64 1,.str a,.str v,.sl PS ps.length none,.sl KS ks.length none] :: .spare i 1::Y)) (CutS (b:=by simp)) ⟨0,[],[],rfl,Nat.zero_le _,hid rfl,rfl,by simp⟩ ?_
     rintro _ _ _ ⟨i,C,Y,rfl,hi,hC,rfl,rfl⟩
     by_cases hlt:i<ks.length
     · obtain ⟨q,hq⟩:=stp i hlt
       obtain ⟨e3,e4,e5,g1,g2,e6⟩:=hq.out
       have kk1:=@hid _ @e5
       clear e5 hq
       have hC2:=hid (show C++[.int .i64 (ofM ts l q)]=(V.take (i+1)).map (AV.int .i64) by rw [hC.out,e6])
       clear e6
       simp only [N9] at e3 kk1
       refine wk ?_
       exact ak _ _ _ (by omega) (CutS (b:=by simp)) ⟨i+1,_,_,rfl,hlt,hC2,rfl,rfl⟩
     · have hke:i=ks.length:=by omega
       subst hke
       have g1:¬ (ks.length:Int)<(ks.length:Int):=by omega
       have hC2:=hC.out
       rw [← hnl,List.take_length] at hC2
       subst hC2
       clear hC stp
       replace hnl:=hid hnl
       have kk1:Hid (∀ {i:Nat} {L:List Blk} {K:AV→List Blk→Prop},K (.int .i64 (orV V)) L→ad Tryz.prog 35 [.gsl (V.map (AV.int .i64)) ks.length i 1] L K):=hid fun q=>by
         rw [← hnl.out]
         exact fH (by simpa only [AV.frzL,AV.frz,JX] using Yv (cap:=none) (by have:=hnl.out;omega) q)
       have h':=hid (show K (.int .i64 (orV V)) L by have:=h.out;simpa [MB] using this)
       refine wk ?_
       exact ab rfl h'.out
   · refine wk ?_
     refine ch (l:=[]) (n:=0) 7 1 rfl (Nat.zero_mul 1).symm ?_
     rw [e2]
     refine am (fun m T' L'=>∃ (i:Nat) (C:List AV) (Y:List Blk),m=ks.length - i∧i≤ks.length∧Hid (C=(V.take i).map (AV.int .i64))∧T'=[(26,.int .i64 (i:Int)),(25,.int .i64 ks.length),(24,.sl KS ks.length none),(7,.gsl C i (L.length+2) 1),(4,.ptr (L.length+1) 0),(3,.ptr L.length 0),(2,.sl (bn l) l.length cap)]∧L'=L++(.cells [.sl (bc ts) ts.length capT,.sl c2 n2 cap2] :: .cells [.int .i64 2,.str a,.str v,.sl PS ps.length none,.sl KS ks.length none] :: .spare i 1::Y)) (CutS (b:=by simp)) ⟨0,[],[],rfl,Nat.zero_le _,hid rfl,rfl,by simp⟩ ?_
     rintro _ _ _ ⟨i,C,Y,rfl,hi,hC,rfl,rfl⟩
     by_cases hlt:i<ks.length
     · obtain ⟨q,hq⟩:=stp i hlt
       obtain ⟨e3,e4,e5,g1,g2,e6⟩:=hq.out
       have kk1:=@hid _ @e5
       clear e5 hq
       have hC2:=hid (show C++[.int .i64 (ofM ts l q)]=(V.take (i+1)).map (AV.int .i64) by rw [hC.out,e6])
       clear e6
       simp only [N9] at e3 kk1
       refine wk ?_
       exact ak _ _ _ (by omega) (CutS (b:=by simp)) ⟨i+1,_,_,rfl,hlt,hC2,rfl,rfl⟩
     · have hke:i=ks.length:=by omega
       subst hke
       have g1:¬ (ks.length:Int)<(ks.length:Int):=by omega
       have hC2:=hC.out
       rw [← hnl,List.take_length] at hC2
       subst hC2
       clear hC stp
       replace hnl:=hid hnl
       by_cases h1:ks.length=1
       · obtain ⟨x,rfl⟩:∃ x,V=[x]:=List.length_eq_one_iff.1 (hnl.out.trans h1)
         have h':=hid (show K (.int .i64 (il x)) L by have:=h.out;simpa [MB] using this)
         rw [h1]
         refine wk ?_
         refine GN ?_
         refine sk ?_
         refine wk ?_
         exact ab rfl h'.out
       · have g3:¬ (ks.length:Int)=1:=by omega
         have h':=hid (show K (.int .i64 2) L by
           have:=h.out
           simpa [MB,show V.length≠1 by rw [hnl.out];exact h1] using this)
         refine wk ?_
         exact ab rfl h'.out
 rw [if_neg hk] at h
 unfold Uo at h
 have k0:¬ k=0:=fun e=>hk (.inl e)
 have k1:¬ k=1:=fun e=>hk (.inr (.inl e))
 have k2:¬ k=2:=fun e=>hk (.inr (.inr e))
 have hn:bf a:=by unfold bf;omega
 refine ae GR (by simp [ll]) ?_
 simp only [ll,ar]
 refine wk ?_
 refine UW hts.1 hts.2.1 hn ?_
 unfold Jx
 rcases hty:fJ ts a with _|ty
 · rw [hty] at h
   replace h:=hid h
   simp only [Option.getD_none,Option.isSome_none,tyC]
   clear hty
   refine sk ?_
   refine wk ?_
   exact ab rfl h.out
 rw [hty] at h
 simp only at h
 simp only [Option.getD_some,Option.isSome_some,tyC]
 by_cases m1:k<0
 · rw [if_pos (.inl m1)] at h
   replace h:=hid h
   clear hty
   refine sk ?_
   refine wk ?_
   exact ab rfl h.out
 by_cases m2:8<k
 · rw [if_pos (.inr m2)] at h
   replace h:=hid h
   clear hty
   refine sk ?_
   refine wk ?_
   exact ab rfl h.out
 rw [if_neg (fun e=>e.elim m1 m2)] at h
 have hW:(dU l a).length≤1100000:=Qu hz
 have kk1:Hid (Ctr Tryz.prog 37 [.sl (bn l) l.length cap,.str a] (mA (dU l a))):=hid fun q=>Xw hl hin.1 (fun x hx=>⟨(N5 hts hin hx).1,hz x hx⟩) hn q
 have kk3:Hid (Ctr Tryz.prog 40 [.agg [.sl (bc ts) ts.length capT,.sl c2 n2 cap2],.sl (bn l) l.length cap,.str a,.str v] (.bool (UB ts l a v))):=hid fun q=>Xv hts hin hl hz hn q
 obtain ⟨nn,hnn⟩:∃ x,(bU ty.2.1 v).getD []=x:=⟨_,rfl⟩
 obtain ⟨nb,hnb⟩:∃ x,(bU ty.2.1 v).isSome=x:=⟨_,rfl⟩
 have kk2:Hid (Ctr Tryz.prog 38 [.int .i64 ty.2.1,.str v] (.tup [.str nn,.bool nb])):=hid fun q=>V4 (by rw [hnn,hnb];exact q)
 obtain ⟨on,hon⟩:∃ x,(k7 ty.2.1 v v).getD 0=x:=⟨_,rfl⟩
 obtain ⟨ob,hob⟩:∃ x,(k7 ty.2.1 v v).isSome=x:=⟨_,rfl⟩
 have kk4:Hid (Ctr Tryz.prog 45 [.int .i64 ty.2.1,.str v,.str v] (.tup [.int .i64 on,.bool ob])):=hid fun q=>Ps (by rw [hon,hob];exact q)
 have kk5:Hid (∀ {b:Bool} {L:List Blk} {K:AV→List Blk→Prop},K (.int .i64 (tf1 b)) L→ad Tryz.prog 39 [.bool b] L K):=hid fun q=>W1 q
 have kk6:Hid (Ctr Tryz.prog 41 [.agg [.int .i64 4,.str [97],.str [],.sl PS ps.length none,.sl [] 0 (some 0)]] (.int .i64 (if CJ ps=true then 0 else 4))):=hid fun q=>by
   rw [hPS.out]
   exact lA (by omega) q
 unfold Us at h
 have hnone:(bU ty.2.1 v).isNone = !nb:=by rw [← hnb];cases bU ty.2.1 v<;>rfl
 have onone:(k7 ty.2.1 v v).isNone = !ob:=by rw [← hob];cases k7 ty.2.1 v v<;>rfl
 rw [hnone,onone] at h
 obtain ⟨W,hWe⟩:∃ W,dU l a=W:=⟨_,rfl⟩
 obtain ⟨H,hHe⟩:∃ H,UB ts l a v=H:=⟨_,rfl⟩
 rw [hWe,hHe] at h
 rw [hWe] at hW kk1
 rw [hHe] at kk3
 simp only [mA] at kk1
 have hc:k=3∨k=4∨k=5∨k=6∨k=7∨k=8:=by omega
 clear hWe hHe hnone onone hob hon hnb hnn hty hn ih2 k0 k1 k2 m1 m2 hk
 rcases hc with rfl|rfl|rfl|rfl|rfl|rfl
 · cases nb with
   | false =>
     replace h:=hid (show K (.int .i64 2) L by simpa using h)
     refine sk ?_
     refine wk ?_
     exact ab rfl h.out
   | true =>
     replace h:=hid (show K (.int .i64 (tf1 H)) L by simpa using h)
     refine sk ?_
     refine wk ?_
     exact ab rfl h.out
 · obtain ⟨R,hR⟩:∃ R,W.any (fun x=>(CP ty.2.1 x ps).getD false)=R:=⟨_,rfl⟩
   rw [hR] at h
   replace hR:=hid hR
   by_cases s3:3<ty.2.1
   · replace h:=hid (show K (.int .i64 2) L by simpa [s3] using h)
     refine sk ?_
     refine wk ?_
     exact ab rfl h.out
   cases hok:CJ ps with
   | false =>
     replace h:=hid (show K (.int .i64 2) L by simpa [hok] using h)
     rw [hok] at kk6
     simp only [Bool.false_eq_true,if_false] at kk6
     clear hok
     refine sk ?_
     refine wk ?_
     exact ab rfl h.out
   | true =>
     replace h:=hid (show K (.int .i64 (tf1 R)) L by simpa [hok,s3] using h)
     rw [hok] at kk6
     simp only [if_true] at kk6
     clear hok
     refine sk ?_
     refine wk ?_
     refine U6 (q:=fun x=>(CP ty.2.1 x ps).getD false) hW (fun x K _ q=>X5 (ty:=ty) (k:=4) (a:=a) (v:=v) (cp:=none) (ks:=.sl KS ks.length none) (by simp [tyC]) (by rw [← hPS.out];simp) (by omega) (fun p hp=>by have:=r4 p hp;omega) q) ?_
     rw [hR.out]
     refine sk ?_
     refine wk ?_
     exact ab rfl h.out
 · obtain ⟨R,hR⟩:∃ R,W.any (fun x=>decide ((k7 ty.2.1 x v).getD 0=0) || (decide (0<(k7 ty.2.1 x v).getD 0) == decide ((5:Int)=5)))=R:=⟨_,rfl⟩
   cases ob with
   | false =>
     replace h:=hid (show K (.int .i64 2) L by simpa using h)
     clear hR
     refine sk ?_
     refine wk ?_
     exact ab rfl h.out
   | true =>
     replace h:=hid (show K (.int .i64 (tf1 R)) L by
       rw [if_neg (by decide),if_neg (by decide),if_neg (by decide),if_neg (by decide)] at h
       rw [← hR];exact h)
     replace hR:=hid hR
     refine sk ?_
     refine wk ?_
     refine U6 (q:=fun x=>decide ((k7 ty.2.1 x v).getD 0=0) || (decide (0<(k7 ty.2.1 x v).getD 0) == decide ((5:Int)=5))) hW (fun x K _ q=>WO (ty:=ty) (k:=5) (a:=a) (v:=v) (ps:=.sl PS ps.length none) (ks:=.sl KS ks.length none) (by simp [tyC]) (by simp) q) ?_
     rw [hR.out]
     refine sk ?_
     refine wk ?_
     exact ab rfl h.out
 · obtain ⟨R,hR⟩:∃ R,W.any (fun x=>decide ((k7 ty.2.1 x v).getD 0=0) || (decide (0<(k7 ty.2.1 x v).getD 0) == decide ((6:Int)=5)))=R:=⟨_,rfl⟩
   cases ob with
   | false =>
     replace h:=hid (show K (.int .i64 2) L by simpa using h)
     clear hR
     refine sk ?_
     refine wk ?_
     exact ab rfl h.out
   | true =>
     replace h:=hid (show K (.int .i64 (tf1 R)) L by
       rw [if_neg (by decide),if_neg (by decide),if_neg (by decide),if_neg (by decide)] at h
       rw [← hR];exact h)
     replace hR:=hid hR
     refine sk ?_
     refine wk ?_
     refine U6 (q:=fun x=>decide ((k7 ty.2.1 x v).getD 0=0) || (decide (0<(k7 ty.2.1 x v).getD 0) == decide ((6:Int)=5))) hW (fun x K _ q=>WO (ty:=ty) (k:=6) (a:=a) (v:=v) (ps:=.sl PS ps.length none) (ks:=.sl KS ks.length none) (by simp [tyC]) (by simp) q) ?_
     rw [hR.out]
     refine sk ?_
     refine wk ?_
     exact ab rfl h.out
 · replace h:=hid (show K (.int .i64 (tf1 (decide ((0:Int)<(W.length:Int))))) L by
     have:(!W.isEmpty)=decide ((0:Int)<(W.length:Int)):=by cases W<;>simp<;>omega
     rw [← this]
     simpa using h)
   refine sk ?_
   refine wk ?_
   exact ab rfl h.out
 · cases nb with
   | false =>
     replace h:=hid (show K (.int .i64 2) L by simpa using h)
     refine sk ?_
     refine wk ?_
     exact ab rfl h.out
   | true =>
     replace h:=hid (show K (.int .i64 (tf1 H)) L by simpa using h)
     refine sk ?_
     refine wk ?_
     exact ab rfl h.out
set_option maxRecDepth 1000000
abbrev exA:List Atr:=[([99,110],[[97]])]
theorem Xu:InA bH exA:=by
 have h:Jl bH [] exA=(exA,0):=by kernel_rfl
 have:=OF (ts:=bH) (l:=exA) (out:=[]) (Uc _) (by rw [h])
 rwa [h] at this
theorem Um {s:List UInt8} {k:Int} {a v:List UInt8} {ks:List AV} {nk:Nat} {cp ck:Option Nat} (f:Flt) {r:Int} (hf:AV.frzL [.int .i64 k,.str a,.str v,.sl [] 0 cp,.sl ks nk ck]=fA f) (hb:Dp f) (hr:ofM bH exA f=r)
   (hp:∀ {L:List Blk} {K:AV→List Blk→Prop},K (.tup [.agg [.int .i64 k,.str a,.str v,.sl [] 0 cp,.sl ks nk ck],.int .i64 0]) L→ad Tryz.prog 76 [.str s] L K)
   {L:List Blk} {K:AV→List Blk→Prop} (h:K (.int .i64 r) L):ad Tryz.prog 33 [.str s] L K:=by
 obtain ⟨x,hx⟩:∃ x,bc bH=x:=⟨_,rfl⟩
 obtain ⟨m,hm⟩:∃ m,bH.length=m:=⟨_,rfl⟩
 obtain ⟨y,hy⟩:∃ y,P5=y:=⟨_,rfl⟩
 have kk1:=@hid _ @hp
 have kk2:Hid (Ctr Tryz.prog 58 [] (.agg [.sl x m none,.sl y 9 none])):=hid fun q=>Xz (by rw [hx,hm,hy];exact q)
 have f3:(∀ {L:List Blk} {K:AV→List Blk→Prop},K (.int .i64 r) L→ad Tryz.prog 11 [.agg [.sl x m none,.sl y 9 none],.agg [.int .i64 k,.str a,.str v,.sl [] 0 cp,.sl ks nk ck],.sl [.str [99,110],.sl [.str [97]] 1 (some 1)] 1 (some 1)] L K):=fun {L K} q=>by
   rw [← hx,← hm,← hy]
   refine fH ?_
   have:=V2 (capT:=none) (cap:=none) (c2:=P5) (n2:=9) (cap2:=none) Wm Xu (by simp) (by simp) f hb (L:=L) (K:=K) (by rw [hr];exact q)
   rw [← hf] at this
   simpa only [AV.frzL,AV.frz,wT,SY,eN,bn,List.flatMap_cons,List.flatMap_nil,atA,List.append_nil,List.length_cons,List.length_nil,Nat.zero_add,List.map_cons,List.map_nil] using this
 have kk3:=@hid _ @f3
 clear hx hy hm hp hf hb hr f3
 replace h:=hid h
 refine ae NC (by simp [Hh]) ?_
 simp only [Hh,ar]
 refine wk ?_
 exact ab rfl h.out
theorem lf1:O8 [40,99,110,61,65,41] 1 99 110 65:=⟨rfl,rfl,rfl,rfl,rfl,by decide,by decide,rfl,rfl,rfl,by decide,by decide,by decide,by decide⟩
theorem lf2:O8 [40,115,110,61,120,41] 1 115 110 120:=⟨rfl,rfl,rfl,rfl,rfl,by decide,by decide,rfl,rfl,rfl,by decide,by decide,by decide,by decide⟩
theorem lf3:O8 [40,122,122,61,120,41] 1 122 122 120:=⟨rfl,rfl,rfl,rfl,rfl,by decide,by decide,rfl,rfl,rfl,by decide,by decide,by decide,by decide⟩
theorem OH {s:List UInt8} {a b v:UInt8} (q:O8 s 1 a b v) (h0:s.getD 0 0=40) (hl:s.length=6) (ha:a.toNat≠38∧a.toNat≠124∧a.toNat≠33) {r:Int} (hr:ofM bH exA (.mk 3 [a,b] [v] [] [])=r) (h:K (.int .i64 r) L):ad Tryz.prog 33 [.str s] L K :=
 Um (k:=3) (a:=[a,b]) (v:=[v]) (ks:=[]) (nk:=0) (cp:=some 0) (ck:=some 0) (.mk 3 [a,b] [v] [] []) rfl (by simp [FlB,LA]) hr (fun {L K} q'=>JN (n:=1) (by omega) (fun _=>rfl) (fun {p L K} hL q2=>LJ (i:=0) q h0 ha (by omega) (by omega) (by omega) hL (by rw [hl] at q2;exact q2)) q') h
theorem S5 (h:K (.bool true) L):ad Tryz.prog 10 [] L K:=by
 have kk1:Hid (Ctr Tryz.prog 33 [.str [40,99,110,61,65,41]] (.int .i64 1)):=hid fun q=>OH lf1 rfl rfl (by decide) (by kernel_rfl) q
 have kk2:Hid (Ctr Tryz.prog 33 [.str [40,115,110,61,120,41]] (.int .i64 0)):=hid fun q=>OH lf2 rfl rfl (by decide) (by kernel_rfl) q
 have kk3:Hid (Ctr Tryz.prog 33 [.str [40,122,122,61,120,41]] (.int .i64 2)):=hid fun q=>OH lf3 rfl rfl (by decide) (by kernel_rfl) q
 have kk4:Hid (Ctr Tryz.prog 33 [.str [40,33,40,122,122,61,120,41,41]] (.int .i64 2)):=hid fun q=>Um (.mk 2 [] [] [] [.mk 3 [122,122] [120] [] []]) rfl (by simp [FlB,LA]) (by kernel_rfl) (fun q'=>JN (by decide) (fun _=>rfl) (fun hL q2=>SS hL q2) q') q
 have kk5:Hid (Ctr Tryz.prog 33 [.str [40,124,40,122,122,61,120,41,40,99,110,61,97,41,41]] (.int .i64 1)):=hid fun q=>Um (.mk 1 [] [] [] [.mk 3 [122,122] [120] [] [],.mk 3 [99,110] [97] [] []]) rfl (by simp [FlB,LA]) (by kernel_rfl) (fun q'=>JN (by decide) (fun _=>rfl) (fun hL q2=>UX hL q2) q') q
 replace h:=hid h
 refine ae Kf (by simp [mP]) ?_
 simp only [mP,ar]
 refine wk ?_
 exact aa h.out
theorem Xg {ts:List Typ} {cs:List Cls} {l:List Atr} {f:Flt} {capT capC cap:Option Nat} (hs:WB ts cs) (hl:WI l) (hf:Ro f) (h0:∀ C n c,K (.tup [.sl C n c,.bool false]) L)
   (h1:∀ R:List Atr,O4 ts→InA ts R→R.length≤100→(∀ a∈R,a.2.length≤6000)→Dp f→K (.tup [.sl (bn R) R.length none,.bool true]) L) :
   ad Tryz.prog 9 [.agg [.sl (bc ts) ts.length capT,.sl (df cs) cs.length capC],.agg (.sl (bn l) l.length cap::fA f)] L K:=by
 replace h0:=hid h0
 replace h1:=hid h1
 obtain ⟨fb,hfb⟩:∃ b,UY l=b:=⟨_,rfl⟩
 have kk1:Hid (Ctr Tryz.prog 31 [.sl (bn l) l.length cap] (.bool fb)):=hid fun q=>Yd (by have:=hl.1;omega) (fun a ha=>by have:=(hl.2 a ha).2;omega) (by rw [hfb];exact q)
 obtain ⟨k,a,v,ps,ks⟩:=f
 have h20:∀ {L:List Blk} {K:AV→List Blk→Prop},(∀ b:Bool,(b=true→Dp (.mk k a v ps ks))→K (.bool b) L)→ad Tryz.prog 13 [.agg (fA (.mk k a v ps ks))] L K:=fun q=>Ol hf q
 replace h20:=@hid _ @h20
 rw [ky] at *
 refine ae Lw (by simp [rK]) ?_
 simp only [rK,ar]
 refine wk ?_
 refine VN hs fun b hb=>?_
 cases b with
 | false =>
   refine sk ?_
   refine wk ?_
   exact ab rfl (h0.out _ _ _)
 | true =>
 have hts:=(hb rfl).1
 clear hb
 cases fb with
 | false =>
   refine sk ?_
   refine wk ?_
   exact ab rfl (h0.out _ _ _)
 | true =>
 have hfw:=Wh hfb
 clear hfb
 refine sk ?_
 refine wk ?_
 refine h20.out fun b hb=>?_
 cases b with
 | false =>
   clear hb
   refine sk ?_
   refine wk ?_
   exact ab rfl (h0.out _ _ _)
 | true =>
 have hfs:=hid (hb rfl)
 clear hb h20 kk1 hf
 have hfl:=hid hfw
 refine sk ?_
 refine wk ?_
 refine am (fun m T' L'=>∃ (i:Nat) (X:List Blk),m=l.length - i∧i≤l.length∧T'=[(30,.int .i64 (i:Int)),(29,.int .i64 l.length),(28,.sl (bn l) l.length cap),(3,.ptr (L.length+1) 0),(2,.ptr L.length 0)]∧L'=L++(.cells [.sl (bc ts) ts.length capT,.sl (df cs) cs.length capC] :: .cells [.sl (bn l) l.length cap,.int .i64 k,.str a,.str v,.sl (b9 ps) ps.length none,.sl (fsA ks) ks.length none]::X)) (CutS (b:=by simp)) ⟨0,[],rfl,Nat.zero_le _,rfl,rfl⟩ ?_
 rintro _ _ _ ⟨i,X,rfl,hi,rfl,rfl⟩
 by_cases hlt:i<l.length
 · have g1:(i:Int)<(l.length:Int):=by omega
   have g2:IntKind.i64.wrap ((i:Int)+1)=(i:Int)+1:=ac (by omega) (by omega)
   obtain ⟨⟨nm,vs⟩,ha⟩:∃ a,l.getD i ([],[])=a:=⟨_,rfl⟩
   have e3:=mw hlt
   have e4:i * 2+2≤(bn l).length:=by rw [jR];omega
   have hvl:vs.length≤60:=(hfl.out.2 (nm,vs) (by rw [← ha];simp [hlt])).1
   rw [ha] at e3
   simp only [atA,mA] at e3
   clear ha hfw
   refine wk ?_
   refine am (fun m T' L'=>∃ (j:Nat),m=vs.length - j∧j≤vs.length∧T'=[(37,.int .i64 (j:Int)),(36,.int .i64 vs.length),(35,.sl (vs.map AV.str) vs.length none),(30,.int .i64 (i:Int)),(29,.int .i64 l.length),(28,.sl (bn l) l.length cap),(3,.ptr (L.length+1) 0),(2,.ptr L.length 0)]∧L'=L++(.cells [.sl (bc ts) ts.length capT,.sl (df cs) cs.length capC] :: .cells [.sl (bn l) l.length cap,.int .i64 k,.str a,.str v,.sl (b9 ps) ps.length none,.sl (fsA ks) ks.length none]::(X++[.cells [.str nm,.sl (vs.map AV.str) vs.length none]]))) (CutS (b:=by simp)) ⟨0,rfl,Nat.zero_le _,rfl,rfl⟩ ?_
   rintro _ _ _ ⟨j,rfl,hj,rfl,rfl⟩
   by_cases hjl:j<vs.length
   · have j1:(j:Int)<(vs.length:Int):=by omega
     have j2:IntKind.i64.wrap ((j:Int)+1)=(j:Int)+1:=ac (by omega) (by omega)
     obtain ⟨w,hw⟩:∃ v,vs.getD j []=v:=⟨_,rfl⟩
     have j3:(vs.map AV.str).getD j .undef=.str w:=by rw [← hw];simp [hjl]
     have j4:j<(vs.map AV.str).length:=by simpa using hjl
     clear hw
     repeat' first
       | refine a8 ?_
       | (first|refine aP (by kernel_rfl) ?_|refine aB (by kernel_rfl) ?_|refine aC ?_|refine bj ?_|refine aX (fun _=>?_)|refine ay ?_|refine aS ?_)
         refine sm ?_
       | (first|refine aL (by kernel_rfl) ?_|refine aQ ?_|refine aR ?_|refine ba (ax ?_))
         refine sl ?_
       | exact aY
       | first|apply aZ|apply aM|apply a6|apply aN|apply a7|apply aO
       | refine aF ?_
       | first|refine aD rfl ?_|refine aE rfl ?_|refine ap rfl ?_ ?_|refine aH rfl (fun _=>?_) (fun _=>?_)|refine aG rfl (fun _=>?_) (fun _=>?_)
       | ((first|refine ao (fun _=>?_) (fun _=>?_)|refine aw (fun _=>?_) (fun _=>?_))<;>try refine sm ?_)
       | refine And.intro trivial ?_
       | refine And.intro (by omega) ?_
       | refine aI rfl (fun _=>?_) (fun _=>?_)
       | refine And.intro ?_ ?_
     · exact ab rfl (h0.out _ _ _)
     · exact ak _ _ _ (by omega) (CutL (b:=by simp)) ⟨j+1,rfl,hjl,rfl,rfl⟩
   · have hke:j=vs.length:=by omega
     subst hke
     have j1:¬ (vs.length:Int)<(vs.length:Int):=by omega
     refine wk ?_
     exact ak _ _ _ (by omega) (CutL (b:=by simp)) ⟨i+1,_,rfl,hlt,rfl,rfl⟩
 have hke:i=l.length:=by omega
 subst hke
 have g1:¬ (l.length:Int)<(l.length:Int):=by omega
 obtain ⟨R,hR⟩:∃ R,Jl ts [] l=R:=⟨_,rfl⟩
 have hv:∀ a∈l,bf a.1∧a.2.length≤9000:=fun a ha=>⟨(hl.2 a ha).1,by have:=(hfl.out.2 a ha).1;omega⟩
 have hR1:R.1.length≤60∧∀ a∈R.1,a.2.length≤3600:=by
   have:=Uj (ts:=ts) (l:=l) (out:=[]) (i:=0) (B:=60) (Nat.le_refl _) (by simp) (fun a ha=>(hfl.out.2 a ha).1)
   rw [hR] at this
   have hl60:=hfl.out.1
   exact ⟨by have:=this.1;omega,fun a ha=>by have:=this.2 a ha;omega⟩
 have kk1:Hid (Ctr Tryz.prog 32 [.agg [.sl (bc ts) ts.length capT,.sl (df cs) cs.length capC],.sl (bn l) l.length cap] (.tup [.sl (bn R.1) R.1.length none,.int .i64 R.2])):=hid fun q=>VU hts (by have:=hfl.out.1;omega) hv hR q
 by_cases hz:R.2=0
 · have hin:InA ts R.1:=by rw [← hR] at hz ⊢;exact OF (Uc ts) hz
   have h':=hid (h1.out R.1 hts hin (by omega) (fun a ha=>by have:=hR1.2 a ha;omega) hfs.out)
   clear hR hv hR1 hfw hin hts
   refine wk ?_
   exact ab (by simp only [AV.refs,AV.refsL,rb,Bool.and_self]) h'.out
 · clear hR hv hR1 hfw hts
   refine wk ?_
   exact ab (by simp only [AV.refs,AV.refsL,rb,Bool.and_self]) (h0.out _ _ _)
end Go.Proofs.YtkkgmgmgcgiffaaGreatDoor.Av
