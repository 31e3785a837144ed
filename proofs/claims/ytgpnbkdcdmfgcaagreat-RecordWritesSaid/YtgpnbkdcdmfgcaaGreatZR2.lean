/- Joined texts of the walk, made small by a program. -/
import Derived.Test.YtgpnbkdcdmfgcaaGreatZD2
import Derived.Test.YtgpnbkdcdmfgcaaGreatZR1
import Derived.Test.YtgpnbkdcdmfgcaaGreatZP5
set_option linter.unusedSimpArgs false
set_option linter.unusedVariables false
namespace Go.Proofs.YtgpnbkdcdmfgcaaGreat.Av
open Go
set_option maxHeartbeats 8000000
set_option maxRecDepth 100000
theorem xx (sep x:List UInt8):∀ xs:List (List UInt8),Lib.join (xs++[x]) sep=if xs=[] then x else Lib.join xs sep++sep++x
 | []=>by simp [Lib.join,List.intercalate]
 | [y]=>by simp [Lib.join,List.intercalate]
 | y::z::l=>by
   have ih:=xx sep x (z::l)
   rw [if_neg (by simp)] at ih ⊢
   have e1:Lib.join (y::z::l++[x]) sep=y++(sep++Lib.join (z::l++[x]) sep):=by simp [Lib.join,List.intercalate]
   have e2:Lib.join (y::z::l) sep=y++(sep++Lib.join (z::l) sep):=by simp [Lib.join,List.intercalate]
   rw [e1,ih,e2];simp
theorem DT {d:List Rdn} {cap:Option Nat} (hn:d.length≤1000) (hr:∀ r∈d,r.length≤1000∧∀ a∈r,a.1.length≤10000∧a.2.length≤10000) {L:List Blk} {K:AV→List Blk→Prop} (h:K (.str (eb false d)) L) :
   ab Tryz.prog 47 [.sl (d.map aA) d.length cap] L K:=by
 replace h:=hid h
 have hat:=hid (fun k=>@iL d k)
 replace hr:=hid hr
 refine af yZ (by simp [lq]) ?_
 simp only [lq,an]
 refine wk ?_
 refine ai (fun n T' L'=>∃ (i:Nat) (acc:List UInt8) (Z:List Blk),n=d.length - i∧i≤d.length∧acc.length≤i * 50000000∧Hid (acc=Lib.join ((d.take i).map (dC false)) [44])∧T'=[(10,.int .i64 (i:Int)),(9,.int .i64 d.length),(8,.sl (d.map aA) d.length cap),(3,.str acc)]∧L'=L++Z) (CutS (b:=by simp)) ⟨0,[],[],rfl,Nat.zero_le _,by simp,hid (by simp [Lib.join]),rfl,by simp⟩ ?_
 rintro _ _ _ ⟨i,acc,X,rfl,hi,hal,hacc,rfl,rfl⟩
 by_cases hlt:i<d.length
 · have g1:(i:Int)<(d.length:Int):=by omega
   have g2:IntKind.i64.wrap ((i:Int)+1)=(i:Int)+1:=ae (by omega) (by omega)
   have e2:=hat.out i hlt
   have hrm:d.getD i []∈d:=by rw [List.getD_eq_getElem?_getD,List.getElem?_eq_getElem hlt];exact List.getElem_mem _
   have hrl:=hr.out _ hrm
   obtain ⟨r,hri⟩:∃ r,d.getD i []=r:=⟨_,rfl⟩
   have htk:d.take (i+1)=d.take i++[r]:=by rw [List.take_succ_eq_append_getElem hlt,← hri];simp [hlt]
   rw [hri] at e2 hrl
   clear hri hrm
   obtain ⟨hrl1,hrl2⟩:=hrl
   replace hrl2:=hid hrl2
   obtain ⟨B,hB⟩:∃ B,(if 0<i then acc++[44] else acc)=B:=⟨_,rfl⟩
   have hBl:B.length≤i * 50000000+1:=by
     rw [← hB];split
     · exact Nat.le_trans (Nat.le_of_eq (by simp)) (Nat.add_le_add_right hal 1)
     · exact Nat.le_trans hal (Nat.le_add_right _ _)
   have hfin:B++dC false r=Lib.join ((d.take (i+1)).map (dC false)) [44]:=by
     rw [htk,List.map_append,List.map_singleton,xx,← hacc.out,← hB]
     by_cases h0:0<i
     · rw [if_pos h0,if_neg]
       intro e
       rcases List.take_eq_nil_iff.1 (List.map_eq_nil_iff.1 e) with e|e
       · omega
       · rw [e] at hlt;simp at hlt
     · have:i=0:=by omega
       subst this
       simp at hal
       simp [hal]
   replace hfin:=hid hfin
   replace hB:=hid hB
   replace htk:=hid htk
   have hb0:(i:Int)≤1000:=by omega
   have hab:((acc.length+1:Nat):Int)≤9223372036854775807:=by omega
   iterate 12 first
     | refine cv ?_
     | (first|refine bp (by kernel_rfl) ?_|refine aQ (by kernel_rfl) ?_|refine aR ?_|refine dy ?_|refine cn (fun _=>?_)|refine aF ?_|refine bs ?_)
       simp (config:={ maxSteps:=2000000 }) only [Kon,push_cast,reduceIte,Nat.reduceEqDiff,Nat.reduceAdd,Nat.reduceMul,Nat.reduceSub,Nat.reduceLT,Nat.reduceLeDiff,Int.reduceLT,Int.reduceLE,Int.reduceAdd,Int.reduceSub,Int.reduceNeg,Int.reduceToNat,Int.reduceEq,reduceCtorEq, *]
     | (first|refine bj (by kernel_rfl) ?_|refine bq ?_|refine br ?_|refine cw (aE ?_))
       simp only [push_cast,reduceIte,Nat.reduceEqDiff,Nat.reduceAdd,Nat.reduceMul,Nat.reduceSub,Nat.reduceLT,Nat.reduceLeDiff,Int.reduceLT,Int.reduceLE,Int.reduceAdd,Int.reduceSub,Int.reduceNeg,Int.reduceToNat,Int.reduceEq,reduceCtorEq, *]
     | exact co
     | first|apply cq|apply bm|apply cr|apply bn|apply cu|apply bo
     | refine aU ?_
     | first|refine aS rfl ?_|refine aT rfl ?_|refine ax rfl ?_ ?_|refine a8 rfl (fun _=>?_) (fun _=>?_)|refine a7 rfl (fun _=>?_) (fun _=>?_)
     | ((first|refine aw (fun _=>?_) (fun _=>?_)|refine aD (fun _=>?_) (fun _=>?_))<;>try simp (config:={ maxSteps:=2000000 }) only [Kon,push_cast,reduceIte,Nat.reduceEqDiff,Nat.reduceAdd,Nat.reduceMul,Nat.reduceSub,Nat.reduceLT,Nat.reduceLeDiff,Int.reduceLT,Int.reduceLE,Int.reduceAdd,Int.reduceSub,Int.reduceNeg,Int.reduceToNat,Int.reduceEq,reduceCtorEq, *])
     | refine And.intro trivial ?_
     | refine And.intro (by omega) ?_
     | refine aX rfl (fun _=>?_) (fun _=>?_)
     | refine And.intro ?_ ?_
   refine lH (fun T2 L2=>T2=[(3,.str B),(5,aA r),(10,.int .i64 (i:Int)),(9,.int .i64 d.length),(8,.sl (d.map aA) d.length cap)]∧L2=L++X) ?_ ?_
   · by_cases h0:0<i
     · have k0:(0:Int)<(i:Int):=by omega
       have hB':=hB.out
       rw [if_pos h0] at hB'
       subst hB'
       clear h0
       refine wk ?_
       exact dI _ _ (CutL (b:=by simp)) ⟨rfl,rfl⟩
     · have k0:¬ (0:Int)<(i:Int):=by omega
       have hB':=hB.out
       rw [if_neg h0] at hB'
       subst hB'
       clear h0
       refine wk ?_
       exact dI _ _ (CutL (b:=by simp)) ⟨rfl,rfl⟩
   rintro _ _ ⟨rfl,rfl⟩ -
   refine wk ?_
   refine ai (fun n T' L'=>∃ (k:Nat) (acc2:List UInt8) (Z:List Blk),n=r.length - k∧k≤r.length∧acc2.length≤i * 50000000+1+k * 40002∧X.length≤Z.length∧Hid (acc2=B++Lib.join ((r.take k).map (avT false)) [43])∧T'=[(21,.int .i64 (k:Int)),(20,.int .i64 r.length),(19,aA r),(10,.int .i64 (i:Int)),(9,.int .i64 d.length),(8,.sl (d.map aA) d.length cap),(3,.str acc2)]∧L'=L++Z) (CutS (b:=by simp)) ⟨0,B,X,rfl,Nat.zero_le _,by omega,Nat.le_refl _,hid (by simp [Lib.join]),rfl,rfl⟩ ?_
   rintro _ _ _ ⟨k,acc2,Z,rfl,hk,hal2,hXZ,hacc2,rfl,rfl⟩
   replace hXZ:=hid hXZ
   by_cases hkl:k<r.length
   · have g3:(k:Int)<(r.length:Int):=by omega
     have g4:IntKind.i64.wrap ((k:Int)+1)=(k:Int)+1:=ae (by omega) (by omega)
     have e3:=dr hkl
     have e4:k * 2+2≤(aW r).length:=by rw [cy];omega
     obtain ⟨⟨ty,va⟩,ha⟩:∃ a,r.getD k ([],[])=a:=⟨_,rfl⟩
     have ham:(ty,va)∈r:=by rw [← ha];simp [hkl]
     have htk2:r.take (k+1)=r.take k++[(ty,va)]:=by rw [List.take_succ_eq_append_getElem hkl,← ha];simp [hkl]
     rw [ha] at e3
     simp only [kN] at e3
     have hva:=hrl2.out _ ham
     simp only at hva
     have hva':va.length≤100000:=by omega
     have hwl:=vc va.length va 0
     obtain ⟨wv,hwv⟩:∃ wv,ef va=wv:=⟨_,rfl⟩
     have hwl2:wv.length≤30000:=by rw [← hwv];unfold ef;omega
     have hty:=hva.1
     obtain ⟨B2,hB2⟩:∃ B2,(if 0<k then acc2++[43] else acc2)=B2:=⟨_,rfl⟩
     have hB2l:B2.length≤i * 50000000+1+k * 40002+1:=by
       rw [← hB2];split
       · exact Nat.le_trans (Nat.le_of_eq (by simp)) (Nat.add_le_add_right hal2 1)
       · exact Nat.le_trans hal2 (Nat.le_add_right _ _)
     have hnew:B2++ty++[61]++wv=B++Lib.join ((r.take (k+1)).map (avT false)) [43]:=by
       rw [htk2,List.map_append,List.map_singleton,xx,← hB2]
       have e0:avT false (ty,va)=ty++[61]++wv:=by simp [avT,hwv]
       by_cases h0:0<k
       · rw [if_pos h0,if_neg,hacc2.out,e0]
         · simp
         · intro e
           rcases List.take_eq_nil_iff.1 (List.map_eq_nil_iff.1 e) with e|e
           · omega
           · rw [e] at hkl;simp at hkl
       · have:k=0:=by omega
         subst this
         have:=hacc2.out
         simp only [List.take_zero,List.map_nil] at this
         rw [if_neg (by omega),this,e0];simp [Lib.join]
     replace hnew:=hid hnew
     have hBn:(B2++ty++[61]++wv).length=B2.length+ty.length+1+wv.length:=by simp only [List.length_append,List.length_cons,List.length_nil]
     have hBn2:(B2++ty++[61]++wv).length≤i * 50000000+1+(k+1) * 40002:=by rw [hBn];omega
     replace hB2:=hid hB2
     clear hwl ha ham hva htk2
     have hkb:k<1000:=by omega
     have b0:((acc2.length+1:Nat):Int)≤9223372036854775807:=by omega
     have b1:((B2.length+ty.length:Nat):Int)≤9223372036854775807:=by omega
     have b2:((B2.length+ty.length+1:Nat):Int)≤9223372036854775807:=by omega
     have b3:((B2.length+ty.length+1+wv.length:Nat):Int)≤9223372036854775807:=by omega
     simp only [Int.natCast_add,Int.cast_ofNat_Int] at b0 b1 b2 b3
     iterate 12 first
       | refine cv ?_
       | (first|refine bp (by kernel_rfl) ?_|refine aQ (by kernel_rfl) ?_|refine aR ?_|refine dy ?_|refine cn (fun _=>?_)|refine aF ?_|refine bs ?_)
         simp (config:={ maxSteps:=2000000 }) only [Kon,push_cast,reduceIte,Nat.reduceEqDiff,Nat.reduceAdd,Nat.reduceMul,Nat.reduceSub,Nat.reduceLT,Nat.reduceLeDiff,Int.reduceLT,Int.reduceLE,Int.reduceAdd,Int.reduceSub,Int.reduceNeg,Int.reduceToNat,Int.reduceEq,reduceCtorEq, *]
       | (first|refine bj (by kernel_rfl) ?_|refine bq ?_|refine br ?_|refine cw (aE ?_))
         simp only [push_cast,reduceIte,Nat.reduceEqDiff,Nat.reduceAdd,Nat.reduceMul,Nat.reduceSub,Nat.reduceLT,Nat.reduceLeDiff,Int.reduceLT,Int.reduceLE,Int.reduceAdd,Int.reduceSub,Int.reduceNeg,Int.reduceToNat,Int.reduceEq,reduceCtorEq, *]
       | exact co
       | first|apply cq|apply bm|apply cr|apply bn|apply cu|apply bo
       | refine aU ?_
       | first|refine aS rfl ?_|refine aT rfl ?_|refine ax rfl ?_ ?_|refine a8 rfl (fun _=>?_) (fun _=>?_)|refine a7 rfl (fun _=>?_) (fun _=>?_)
       | ((first|refine aw (fun _=>?_) (fun _=>?_)|refine aD (fun _=>?_) (fun _=>?_))<;>try simp (config:={ maxSteps:=2000000 }) only [Kon,push_cast,reduceIte,Nat.reduceEqDiff,Nat.reduceAdd,Nat.reduceMul,Nat.reduceSub,Nat.reduceLT,Nat.reduceLeDiff,Int.reduceLT,Int.reduceLE,Int.reduceAdd,Int.reduceSub,Int.reduceNeg,Int.reduceToNat,Int.reduceEq,reduceCtorEq, *])
       | refine And.intro trivial ?_
       | refine And.intro (by omega) ?_
       | refine aX rfl (fun _=>?_) (fun _=>?_)
       | refine And.intro ?_ ?_
     refine lH (fun T2 L2=>T2=[(3,.str B2),(7,.ptr (L.length+Z.length) 0),(21,.int .i64 (k:Int)),(20,.int .i64 r.length),(19,aA r),(10,.int .i64 (i:Int)),(9,.int .i64 d.length),(8,.sl (d.map aA) d.length cap)]∧L2=L++(Z++[.cells [.str ty,.str va]])) ?_ ?_
     · by_cases h0:0<k
       · have k0:(0:Int)<(k:Int):=by omega
         have hB':=hB2.out
         rw [if_pos h0] at hB'
         subst hB'
         clear h0
         refine wk ?_
         exact dI _ _ (CutL (b:=by simp)) ⟨rfl,rfl⟩
       · have k0:¬ (0:Int)<(k:Int):=by omega
         have hB':=hB2.out
         rw [if_neg h0] at hB'
         subst hB'
         clear h0
         refine wk ?_
         exact dI _ _ (CutL (b:=by simp)) ⟨rfl,rfl⟩
     rintro _ _ ⟨rfl,rfl⟩ -
     have kk1:=@hid _ (fun L K=>C5 hva' (L:=L) (K:=K))
     refine wk ?_
     exact ao _ _ _ (by omega) (CutL (b:=by have:=hXZ.out;simp;omega)) ⟨k+1,B2++ty++[61]++wv,_,rfl,hkl,hBn2,by have:=hXZ.out;simp;omega,hnew,rfl,rfl⟩
   · have hke:k=r.length:=by omega
     subst hke
     have g3:¬ (r.length:Int)<(r.length:Int):=by omega
     have hfl:acc2.length≤(i+1) * 50000000:=by
       rw [Nat.succ_mul]
       clear hal hBl hab
       generalize i * 50000000=M at hal2 ⊢
       omega
     have e:=hacc2.out
     rw [List.take_length,show Lib.join (r.map (avT false)) [43]=dC false r by simp [dC],hfin.out] at e
     replace e:=hid e
     refine wk ?_
     exact ao _ _ _ (by omega) (CutL (b:=by simp)) ⟨i+1,acc2,_,rfl,hlt,hfl,e,rfl,rfl⟩
 · have hke:i=d.length:=by omega
   subst hke
   have g1:¬ (d.length:Int)<(d.length:Int):=by omega
   have e:=hacc.out
   rw [List.take_length] at e
   have h':=h.out
   simp only [eb] at h'
   rw [← e] at h'
   replace h':=hid h'
   clear hacc e
   refine wk ?_
   exact aa rfl h'.out
set_option maxHeartbeats 8000000
set_option maxRecDepth 100000
def vm (r:Rdn):Nat:=(r.map fun a=>min a.2.length 5000).sum
def yP (d:List Rdn):Nat:=(d.map vm).sum
theorem Fv (n:Nat):∀ (s:List UInt8) (i:Nat),s.length≤(wrL n i s).length
 | [],_=>by simp
 | c::s,i=>by
   have h1:=Fv n s (i+1)
   have h2:1≤(wrB i n c).length:=by
     unfold wrB;split
     · simp
     · split<;>simp
   simp only [wrL,List.length_append,List.length_cons];omega
theorem BH (sep:List UInt8):∀ xs:List (List UInt8),(xs.map List.length).sum≤(Lib.join xs sep).length
 | []=>by simp [Lib.join]
 | [x]=>by simp [Lib.join,List.intercalate]
 | x::y::l=>by
   have h1:=BH sep (y::l)
   have e:Lib.join (x::y::l) sep=x++(sep++Lib.join (y::l) sep):=by simp [Lib.join,List.intercalate]
   rw [e]
   simp only [List.map_cons,List.sum_cons,List.length_append] at h1 ⊢
   omega
theorem Hm (r:Rdn):vm r≤(dC false r).length:=by
 have h1:vm r≤((r.map (avT false)).map List.length).sum:=by
   induction r with
   | nil=>simp [vm]
   | cons a r ih =>
     have h2:=Fv a.2.length a.2 0
     have h3:min a.2.length 5000≤(avT false a).length:=by
       simp only [avT,Bool.false_eq_true,if_false,List.length_append,ef];omega
     simp only [vm,List.map_cons,List.sum_cons] at ih ⊢
     omega
 have h2:=BH [43] (r.map (avT false))
 simp only [dC,Bool.false_eq_true,if_false]
 omega
theorem G7 (d:List Rdn):yP d≤(eb false d).length:=by
 have h1:yP d≤((d.map (dC false)).map List.length).sum:=by
   induction d with
   | nil=>simp [yP]
   | cons a r ih =>
     have h2:=Hm a
     simp only [yP,List.map_cons,List.sum_cons] at ih ⊢
     omega
 have h2:=BH [44] (d.map (dC false))
 simp only [eb]
 omega
theorem BE:∀ {l:List Nat} {x:Nat},x∈l→x≤l.sum
 | [],_,h=>by cases h
 | y::l,x,h=>by
   rw [List.sum_cons]
   rcases List.mem_cons.1 h with rfl|h
   · omega
   · have:=BE h;omega
theorem FJ {d:List Rdn} (h:yP d≤4096):∀ r∈d,∀ a∈r,a.2.length≤4096:=fun r hr a ha=>by
 have h1:vm r≤yP d:=by
   unfold yP
   exact BE (List.mem_map_of_mem hr)
 have h2:min a.2.length 5000≤vm r:=by
   unfold vm
   exact BE (List.mem_map_of_mem (f:=fun a:Ava=>min a.2.length 5000) ha)
 omega
theorem F7 {d:List Rdn} (h:∀ r∈d,∀ a∈r,a.2.length≤4096):xb d=false:=by
 unfold xb rj
 rw [List.any_eq_false]
 intro r hr
 simp only [Bool.not_eq_true,List.any_eq_false,decide_eq_true_eq]
 intro a ha
 have:=h r hr a ha
 omega
theorem Hp {r:Rdn} {typ:List UInt8} {n:Nat} {cap:Option Nat} (hr:r.length=n) (hn:n≤8) (h1:∀ a∈r,a.1.length≤32) (h2:typ.length≤32) {L:List Blk} {K:AV→List Blk→Prop} (h:K (.bool (iM r typ)) L) :
   ab Tryz.prog 46 [.sl (aW r) n cap,.str typ] L K:=by
 subst hr
 exact Iy (by omega) (fun a ha=>by have:=h1 a ha;omega) (by omega) h
theorem A3 {d:List Rdn} {cap:Option Nat} (hn:d.length≤1000000) (hr:∀ r∈d,r.length≤1000000∧∀ a∈r,(a.1.length:Int)≤140737488351232) {L:List Blk} {K:AV→List Blk→Prop} (h:K (AE (prS d)) L):ab Tryz.prog 27 [.sl (d.map aA) d.length cap] L K:=by
 obtain ⟨R,hR⟩:∃ R,prS d=R:=⟨_,rfl⟩
 rw [hR] at h
 replace h:=hid h
 have hat:=hid (fun k=>@iL d k)
 replace hr:=hid hr
 have hbad:gn 0 d≠0→R=([],gn 0 d):=fun e=>by rw [← hR,prS,if_pos e]
 replace hbad:=hid hbad
 replace hR:=hid hR
 refine af xB (by simp [iN]) ?_
 simp only [iN,an]
 refine wk ?_
 refine ai (fun n T' L'=>∃ (i:Nat) (c:Int) (X:List Blk),n=d.length - i∧i≤d.length∧i≤32∧Hid (c=(yP (d.take i):Nat)∧c≤40000 * i)∧Hid (gn i (d.drop i)=gn 0 d)∧T'=[(11,.int .i64 (i:Int)),(10,.int .i64 d.length),(9,.sl (d.map aA) d.length cap),(4,.int .i64 c),(0,.sl (d.map aA) d.length cap)]∧L'=L++X) (CutS (b:=by simp)) ⟨0,0,[],rfl,Nat.zero_le _,by omega,hid ⟨rfl,by omega⟩,hid rfl,rfl,by simp⟩ ?_
 rintro _ _ _ ⟨i,c,X,rfl,hi,hi32,hc,he,rfl,rfl⟩
 by_cases hlt:i<d.length
 · have g1:(i:Int)<(d.length:Int):=by omega
   have g2:IntKind.i64.wrap ((i:Int)+1)=(i:Int)+1:=ae (by omega) (by omega)
   have e2:=hat.out i hlt
   have hrm:d.getD i []∈d:=by rw [List.getD_eq_getElem?_getD,List.getElem?_eq_getElem hlt];exact List.getElem_mem _
   obtain ⟨hrl,hrt⟩:=hr.out (d.getD i []) hrm
   obtain ⟨r,hri⟩:∃ r,d.getD i []=r:=⟨_,rfl⟩
   have hdr:d.drop i=r::d.drop (i+1):=by rw [List.drop_eq_getElem_cons hlt,← hri];simp [hlt]
   have hdt:d.take (i+1)=d.take i++[r]:=by rw [List.take_succ_eq_append_getElem hlt,← hri];simp [hlt]
   rw [hri] at e2 hrl hrt
   have he2:=he.out
   rw [hdr,gn] at he2
   clear hdr hri hrm
   replace hrt:=hid hrt
   replace hdt:=hid hdt
   by_cases h32:i=32
   · rw [if_pos h32] at he2
     have h':=h.out
     rw [hbad.out (by rw [← he2];decide),← he2] at h'
     replace h':=hid h'
     have k1:(i:Int)=32:=by omega
     have g1':(32:Int)<(d.length:Int):=by omega
     clear h32 he2
     refine wk ?_
     exact aa rfl h'.out
   rw [if_neg h32] at he2
   have k1:¬ (i:Int)=32:=by omega
   by_cases hr0:r=[]
   · rw [if_pos hr0] at he2
     subst hr0
     have h':=h.out
     rw [hbad.out (by rw [← he2];decide),← he2] at h'
     replace h':=hid h'
     clear h32 he2
     refine wk ?_
     exact aa rfl h'.out
   rw [if_neg hr0] at he2
   have k2:¬ (r.length:Int)=0:=by have:=List.length_pos_iff.2 hr0;omega
   have herr:∀ e:Int,dk [] r=e→e≠0→K (.tup [.str [],.int .i64 e]) L:=fun e a1 a2=>by
     rw [if_pos (by rw [a1];exact a2),a1] at he2
     have h':=h.out
     rwa [hbad.out (by rw [← he2];exact a2),← he2] at h'
   replace herr:=hid herr
   replace he2:=hid he2
   clear h32
   refine wk ?_
   refine ai (fun n T' L'=>∃ (k:Nat) (c':Int) (Y:List Blk),n=r.length - k∧k≤r.length∧k≤8∧Hid (c'=c+(vm (r.take k):Nat)∧0≤c'∧c'≤40000 * i+5000 * k)∧Hid (dk (r.take k) (r.drop k)=dk [] r∧∀ a∈r.take k,a.1.length≤32)∧T'=[(23,.int .i64 (k:Int)),(22,.int .i64 r.length),(21,aA r),(6,aA r),(11,.int .i64 (i:Int)),(10,.int .i64 d.length),(9,.sl (d.map aA) d.length cap),(4,.int .i64 c'),(0,.sl (d.map aA) d.length cap)]∧L'=L++(X++Y)) (CutS (b:=by simp)) ⟨0,c,[],rfl,Nat.zero_le _,by omega,hid ⟨by simp [vm],by have:=hc.out;omega,by have:=hc.out;omega⟩,hid ⟨rfl,by simp⟩,rfl,by simp⟩ ?_
   rintro _ _ _ ⟨k,c',Y,rfl,hk,hk8,hc',hrow,rfl,rfl⟩
   by_cases hkl:k<r.length
   · have g3:(k:Int)<(r.length:Int):=by omega
     have g4:IntKind.i64.wrap ((k:Int)+1)=(k:Int)+1:=ae (by omega) (by omega)
     have e3:=dr hkl
     have e4:k * 2+2≤(aW r).length:=by rw [cy];omega
     obtain ⟨⟨ty,va⟩,ha⟩:∃ a,r.getD k ([],[])=a:=⟨_,rfl⟩
     have ham:(ty,va)∈r:=by rw [← ha];simp [hkl]
     have hdk:r.drop k=(ty,va)::r.drop (k+1):=by rw [List.drop_eq_getElem_cons hkl,← ha];simp [hkl]
     have htk:r.take (k+1)=r.take k++[(ty,va)]:=by rw [List.take_succ_eq_append_getElem hkl,← ha];simp [hkl]
     rw [ha] at e3
     simp only [kN] at e3
     have hty1:=hrt.out _ ham
     simp only at hty1
     obtain ⟨hr1,hr2⟩:=hrow.out
     rw [hdk,dk] at hr1
     have hlk:(r.take k).length=k:=by simp;omega
     rw [hlk] at hr1
     clear hdk ha hrow ham
     have e5:(aW r).take (k * 2)=aW (r.take k):=Bq
     have g5:(k:Int)≤(r.length:Int):=by omega
     replace hr1:=hid hr1
     replace hr2:=hid hr2
     replace htk:=hid htk
     have e6:=hid hlk
     clear hlk
     repeat' first
       | refine cv ?_
       | (first|refine bp (by kernel_rfl) ?_|refine aQ (by kernel_rfl) ?_|refine aR ?_|refine dy ?_|refine cn (fun _=>?_)|refine aF ?_|refine bs ?_)
         refine sm ?_
       | (first|refine bj (by kernel_rfl) ?_|refine bq ?_|refine br ?_|refine cw (aE ?_))
         refine sl ?_
       | exact co
       | first|apply cq|apply bm|apply cr|apply bn|apply cu|apply bo
       | refine aU ?_
       | first|refine aS rfl ?_|refine aT rfl ?_|refine ax rfl ?_ ?_|refine a8 rfl (fun _=>?_) (fun _=>?_)|refine a7 rfl (fun _=>?_) (fun _=>?_)
       | ((first|refine aw (fun _=>?_) (fun _=>?_)|refine aD (fun _=>?_) (fun _=>?_))<;>try refine sm ?_)
       | refine And.intro trivial ?_
       | refine And.intro (by omega) ?_
       | refine aX rfl (fun _=>?_) (fun _=>?_)
       | refine And.intro ?_ ?_
     · rename_i h8
       have h':=hid (herr.out 9 (by rw [← hr1.out,if_pos (by omega)]) (by decide))
       exact aa rfl h'.out
     · rename_i h8
       have hr3:=hr1.out
       rw [if_neg (by omega)] at hr3
       replace hr3:=hid hr3
       refine FO hty1 ?_
       cases hty:gk ty with
       | false =>
         have h':=hid (herr.out 20 (by rw [← hr3.out,if_pos hty]) (by decide))
         clear hr3
         refine sk ?_
         refine wk ?_
         exact aa rfl h'.out
       | true =>
         have hr4:=hr3.out
         rw [if_neg (by rw [hty];simp)] at hr4
         replace hr4:=hid hr4
         have htl:=vf hty
         clear hr3
         refine sk ?_
         repeat' first
           | refine cv ?_
           | (first|refine bp (by kernel_rfl) ?_|refine aQ (by kernel_rfl) ?_|refine aR ?_|refine dy ?_|refine cn (fun _=>?_)|refine aF ?_|refine bs ?_)
             refine sm ?_
           | (first|refine bj (by kernel_rfl) ?_|refine bq ?_|refine br ?_|refine cw (aE ?_))
             refine sl ?_
           | exact co
           | first|apply cq|apply bm|apply cr|apply bn|apply cu|apply bo
           | refine aU ?_
           | first|refine aS rfl ?_|refine aT rfl ?_|refine ax rfl ?_ ?_|refine a8 rfl (fun _=>?_) (fun _=>?_)|refine a7 rfl (fun _=>?_) (fun _=>?_)
           | ((first|refine aw (fun _=>?_) (fun _=>?_)|refine aD (fun _=>?_) (fun _=>?_))<;>try refine sm ?_)
           | refine And.intro trivial ?_
           | refine And.intro (by omega) ?_
           | refine aX rfl (fun _=>?_) (fun _=>?_)
           | refine And.intro ?_ ?_
         refine az (Hp e6.out (by omega) hr2.out htl ⟨rfl,rfl⟩) ?_
         cases hha:iM (r.take k) ty with
         | true =>
           have h':=hid (herr.out 21 (by rw [← hr4.out,if_pos hha]) (by decide))
           refine sk ?_
           refine wk ?_
           exact aa rfl h'.out
         | false =>
           have hr5:=hr4.out
           rw [if_neg (by rw [hha];simp),← htk.out] at hr5
           replace hr5:=hid hr5
           clear hr4
           obtain ⟨z,hz⟩:∃ z:Int,(if (5000:Int)<(va.length:Int) then 5000 else (va.length:Int))=z:=⟨_,rfl⟩
           have hz2:z=((min va.length 5000:Nat):Int):=by rw [← hz];split<;>omega
           have hzw:IntKind.i64.wrap (c'+z)=c'+z:=by
             have:=hc'.out
             exact ae (by omega) (by omega)
           replace hz2:=hid hz2
           refine sk ?_
           refine wk ?_
           refine ao _ _ _ (by omega) (CutL (b:=by simp)) ⟨k+1,c'+z,Y++[.cells [.str ty,.str va]],rfl,hkl,by omega,hid ?_,hid ⟨hr5.out,fun a ha=>?_⟩,rfl,by simp⟩
           · have:=hc'.out
             have e:vm (r.take (k+1))=vm (r.take k)+min va.length 5000:=by rw [htk.out];simp [vm]
             have:=hz2.out
             omega
           rw [htk.out] at ha
           rcases List.mem_append.1 ha with h|h
           · exact hr2.out a h
           · rw [List.mem_singleton.1 h];exact htl
   · have hke:k=r.length:=by omega
     subst hke
     have g3:¬ (r.length:Int)<(r.length:Int):=by omega
     have hz:=hrow.out.1
     rw [List.drop_length,dk] at hz
     have he3:=he2.out
     rw [← hz] at he3
     simp only [ne_eq,not_true_eq_false,if_false] at he3
     replace he3:=hid he3
     have hcn:=hc'.out
     rw [List.take_length] at hcn
     replace hcn:=hid hcn
     clear hz
     refine wk ?_
     refine ao _ _ _ (by omega) (CutS (b:=by simp)) ⟨i+1,c',X++Y,rfl,hlt,by omega,hid ?_,hid he3.out,rfl,rfl⟩
     have e:yP (d.take (i+1))=yP (d.take i)+vm r:=by rw [hdt.out];simp [yP]
     have:=hcn.out
     have:=hc.out
     omega
 · have hke:i=d.length:=by omega
   subst hke
   have g1:¬ (d.length:Int)<(d.length:Int):=by omega
   have hch:=he.out
   rw [List.drop_length,gn] at hch
   have hcc:=hc.out.1
   rw [List.take_length] at hcc
   have hR':=hR.out
   rw [prS,if_neg (by rw [← hch];simp)] at hR'
   have hge:=G7 d
   by_cases hbig:4096<yP d
   · have k1:(4096:Int)<c:=by omega
     have h':=h.out
     rw [← hR'] at h'
     have e:(if xb d=true then (([]:List UInt8),(5:Int)) else if 4096<(eb false d).length then ([],5) else (eb false d,0))=([],5):=by
       split
       · rfl
       · rw [if_pos (by omega)]
     rw [e] at h'
     replace h':=hid h'
     clear hbig hge hcc e hR' hch
     refine wk ?_
     exact aa rfl h'.out
   · have k1:¬ (4096:Int)<c:=by omega
     have hlo:=FJ (d:=d) (by omega)
     obtain ⟨hd32,hd8⟩:=zo d 0 hch.symm (by omega)
     rw [F7 hlo,if_neg (by simp)] at hR'
     replace hlo:=hid hlo
     replace hd8:=hid hd8
     have hbn:=hid (show ∀ r∈d,r.length≤1000∧∀ a∈r,a.1.length≤10000∧a.2.length≤10000 from fun r hr=>⟨by have:=(hd8.out r hr).1;omega,fun a ha=>⟨by have:=(hd8.out r hr).2 a ha;omega,by have:=hlo.out r hr a ha;omega⟩⟩)
     by_cases hlg:4096<(eb false d).length
     · have k2:(4096:Int)<((eb false d).length:Int):=by omega
       have h':=h.out
       rw [← hR',if_pos hlg] at h'
       replace h':=hid h'
       clear hbig hge hcc hR' hch hlg
       have kk1:=@hid _ (fun L K=>DT (cap:=cap) (by omega) hbn.out (L:=L) (K:=K))
       refine wk ?_
       exact aa rfl h'.out
     · have k2:¬ (4096:Int)<((eb false d).length:Int):=by omega
       have h':=h.out
       rw [← hR',if_neg hlg] at h'
       replace h':=hid h'
       clear hbig hge hcc hR' hch hlg
       have kk1:=@hid _ (fun L K=>DT (cap:=cap) (by omega) hbn.out (L:=L) (K:=K))
       refine wk ?_
       exact aa rfl h'.out
end Go.Proofs.YtgpnbkdcdmfgcaaGreat.Av
