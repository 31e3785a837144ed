/- Joined texts of the walk, made small by a program. -/
import Derived.Test.YtdhjplmjpjfjnaaGreatHD2
import Derived.Test.YtdhjplmjpjfjnaaGreatHR1
import Derived.Test.YtdhjplmjpjfjnaaGreatHP5
import Derived.Test.YtdhjplmjpjfjnaaGreatHOctC
import Derived.Sort.Walk0
set_option linter.unusedSimpArgs false
set_option linter.unusedVariables false
namespace Go.Proofs.YtdhjplmjpjfjnaaGreat.Av
open Go
set_option maxHeartbeats 8000000
set_option maxRecDepth 100000
theorem zO (sep x:List UInt8):∀ xs:List (List UInt8),Lib.join (xs++[x]) sep=if xs=[] then x else Lib.join xs sep++sep++x
 | []=>by simp [Lib.join,List.intercalate]
 | [y]=>by simp [Lib.join,List.intercalate]
 | y::z::l=>by
   have ih:=zO sep x (z::l)
   rw [if_neg (by simp)] at ih ⊢
   have e1:Lib.join (y::z::l++[x]) sep=y++(sep++Lib.join (z::l++[x]) sep):=by simp [Lib.join,List.intercalate]
   have e2:Lib.join (y::z::l) sep=y++(sep++Lib.join (z::l) sep):=by simp [Lib.join,List.intercalate]
   rw [e1,ih,e2];simp
theorem CY {d:List Rdn} {cap:Option Nat} (hn:d.length≤1000) (hr:∀ r∈d,r.length≤1000∧∀ a∈r,a.1.length≤10000∧a.2.length≤10000) {L:List Blk} {K:AV→List Blk→Prop} (h:K (.str (aK false d)) L) :
   ab Tryz.prog 54 [.sl (d.map ao) d.length cap] L K:=by
 replace h:=hid h
 have hat:=hid (fun k=>@ij d k)
 replace hr:=hid hr
 refine aa CI (by simp [qg]) ?_
 simp only [qg,am]
 refine wk ?_
 refine ax (fun n T' L'=>∃ (i:Nat) (acc:List UInt8) (Z:List Blk),n=d.length - i∧i≤d.length∧acc.length≤i * 50000000∧Hid (acc=Lib.join ((d.take i).map (bL false)) [44])∧T'=[(10,.int .i64 (i:Int)),(9,.int .i64 d.length),(8,.sl (d.map ao) d.length cap),(3,.str acc)]∧L'=L++Z) (CutS (b:=by simp)) ⟨0,[],[],rfl,Nat.zero_le _,by simp,hid (by simp [Lib.join]),rfl,by simp⟩ ?_
 rintro _ _ _ ⟨i,acc,X,rfl,hi,hal,hacc,rfl,rfl⟩
 by_cases hlt:i<d.length
 · have g1:(i:Int)<(d.length:Int):=by omega
   have g2:IntKind.i64.wrap ((i:Int)+1)=(i:Int)+1:=ah (by omega) (by omega)
   have e2:=hat.out i hlt
   have hrm:d.getD i []∈d:=by rw [List.getD_eq_getElem?_getD,List.getElem?_eq_getElem hlt];exact List.getElem_mem _
   have hrl:=hr.out _ hrm
   obtain ⟨r,hri⟩:∃ r,d.getD i []=r:=⟨_,rfl⟩
   have htk:d.take (i+1)=d.take i++[r]:=by rw [List.take_succ_eq_append_getElem hlt,← hri];simp [hlt]
   rw [hri] at e2 hrl
   clear hri hrm
   obtain ⟨hrl1,hrl2⟩:=hrl
   replace hrl2:=hid hrl2
   obtain ⟨B,hB⟩:∃ B,(if 0<i then acc++[44] else acc)=B:=⟨_,rfl⟩
   have hBl:B.length≤i * 50000000+1:=by
     rw [← hB];split
     · exact Nat.le_trans (Nat.le_of_eq (by simp)) (Nat.add_le_add_right hal 1)
     · exact Nat.le_trans hal (Nat.le_add_right _ _)
   have hfin:B++bL false r=Lib.join ((d.take (i+1)).map (bL false)) [44]:=by
     rw [htk,List.map_append,List.map_singleton,zO,← hacc.out,← hB]
     by_cases h0:0<i
     · rw [if_pos h0,if_neg]
       intro e
       rcases List.take_eq_nil_iff.1 (List.map_eq_nil_iff.1 e) with e|e
       · omega
       · rw [e] at hlt;simp at hlt
     · have:i=0:=by omega
       subst this
       simp at hal
       simp [hal]
   replace hfin:=hid hfin
   replace hB:=hid hB
   replace htk:=hid htk
   have hb0:(i:Int)≤1000:=by omega
   have hab:((acc.length+1:Nat):Int)≤9223372036854775807:=by omega
   iterate 12 first
     | refine dT ?_
     | (first|refine cA (by kernel_rfl) ?_|refine bM (by kernel_rfl) ?_|refine bN ?_|refine fN ?_|refine ez (fun _=>?_)|refine bv ?_|refine cC ?_)
       simp (config:={ maxSteps:=2000000 }) only [Kon,push_cast,reduceIte,Nat.reduceEqDiff,Nat.reduceAdd,Nat.reduceMul,Nat.reduceSub,Nat.reduceLT,Nat.reduceLeDiff,Int.reduceLT,Int.reduceLE,Int.reduceAdd,Int.reduceSub,Int.reduceNeg,Int.reduceToNat,Int.reduceEq,reduceCtorEq, *]
     | (first|refine ct (by kernel_rfl) ?_|refine co ?_|refine cB ?_|refine eF (bu ?_))
       simp only [push_cast,reduceIte,Nat.reduceEqDiff,Nat.reduceAdd,Nat.reduceMul,Nat.reduceSub,Nat.reduceLT,Nat.reduceLeDiff,Int.reduceLT,Int.reduceLE,Int.reduceAdd,Int.reduceSub,Int.reduceNeg,Int.reduceToNat,Int.reduceEq,reduceCtorEq, *]
     | exact eA
     | first|apply eB|apply cu|apply eC|apply cv|apply eD|apply cw
     | refine bQ ?_
     | first|refine bO rfl ?_|refine bP rfl ?_|refine aX rfl ?_ ?_|refine bX rfl (fun _=>?_) (fun _=>?_)|refine bW rfl (fun _=>?_) (fun _=>?_)
     | ((first|refine aW (fun _=>?_) (fun _=>?_)|refine br (fun _=>?_) (fun _=>?_))<;>try simp (config:={ maxSteps:=2000000 }) only [Kon,push_cast,reduceIte,Nat.reduceEqDiff,Nat.reduceAdd,Nat.reduceMul,Nat.reduceSub,Nat.reduceLT,Nat.reduceLeDiff,Int.reduceLT,Int.reduceLE,Int.reduceAdd,Int.reduceSub,Int.reduceNeg,Int.reduceToNat,Int.reduceEq,reduceCtorEq, *])
     | refine And.intro trivial ?_
     | refine And.intro (by omega) ?_
     | refine bR rfl (fun _=>?_) (fun _=>?_)
     | refine And.intro ?_ ?_
   refine F6 (fun T2 L2=>T2=[(3,.str B),(5,ao r),(10,.int .i64 (i:Int)),(9,.int .i64 d.length),(8,.sl (d.map ao) d.length cap)]∧L2=L++X) ?_ ?_
   · by_cases h0:0<i
     · have k0:(0:Int)<(i:Int):=by omega
       have hB':=hB.out
       rw [if_pos h0] at hB'
       subst hB'
       clear h0
       refine wk ?_
       exact z6 _ _ (CutL (b:=by simp)) ⟨rfl,rfl⟩
     · have k0:¬ (0:Int)<(i:Int):=by omega
       have hB':=hB.out
       rw [if_neg h0] at hB'
       subst hB'
       clear h0
       refine wk ?_
       exact z6 _ _ (CutL (b:=by simp)) ⟨rfl,rfl⟩
   rintro _ _ ⟨rfl,rfl⟩ -
   refine wk ?_
   refine ax (fun n T' L'=>∃ (k:Nat) (acc2:List UInt8) (Z:List Blk),n=r.length - k∧k≤r.length∧acc2.length≤i * 50000000+1+k * 40002∧X.length≤Z.length∧Hid (acc2=B++Lib.join ((r.take k).map (avT false)) [43])∧T'=[(21,.int .i64 (k:Int)),(20,.int .i64 r.length),(19,ao r),(10,.int .i64 (i:Int)),(9,.int .i64 d.length),(8,.sl (d.map ao) d.length cap),(3,.str acc2)]∧L'=L++Z) (CutS (b:=by simp)) ⟨0,B,X,rfl,Nat.zero_le _,by omega,Nat.le_refl _,hid (by simp [Lib.join]),rfl,rfl⟩ ?_
   rintro _ _ _ ⟨k,acc2,Z,rfl,hk,hal2,hXZ,hacc2,rfl,rfl⟩
   replace hXZ:=hid hXZ
   by_cases hkl:k<r.length
   · have g3:(k:Int)<(r.length:Int):=by omega
     have g4:IntKind.i64.wrap ((k:Int)+1)=(k:Int)+1:=ah (by omega) (by omega)
     have e3:=dQ hkl
     have e4:k * 2+2≤(aL r).length:=by rw [bt];omega
     obtain ⟨⟨ty,va⟩,ha⟩:∃ a,r.getD k ([],[])=a:=⟨_,rfl⟩
     have ham:(ty,va)∈r:=by rw [← ha];simp [hkl]
     have htk2:r.take (k+1)=r.take k++[(ty,va)]:=by rw [List.take_succ_eq_append_getElem hkl,← ha];simp [hkl]
     rw [ha] at e3
     simp only [lF] at e3
     have hva:=hrl2.out _ ham
     simp only at hva
     have hva':va.length≤100000:=by omega
     have hwl:=xN va.length va 0
     obtain ⟨wv,hwv⟩:∃ wv,eG va=wv:=⟨_,rfl⟩
     have hwl2:wv.length≤30000:=by rw [← hwv];unfold eG;omega
     have hty:=hva.1
     obtain ⟨B2,hB2⟩:∃ B2,(if 0<k then acc2++[43] else acc2)=B2:=⟨_,rfl⟩
     have hB2l:B2.length≤i * 50000000+1+k * 40002+1:=by
       rw [← hB2];split
       · exact Nat.le_trans (Nat.le_of_eq (by simp)) (Nat.add_le_add_right hal2 1)
       · exact Nat.le_trans hal2 (Nat.le_add_right _ _)
     have hnew:B2++ty++[61]++wv=B++Lib.join ((r.take (k+1)).map (avT false)) [43]:=by
       rw [htk2,List.map_append,List.map_singleton,zO,← hB2]
       have e0:avT false (ty,va)=ty++[61]++wv:=by simp [avT,hwv]
       by_cases h0:0<k
       · rw [if_pos h0,if_neg,hacc2.out,e0]
         · simp
         · intro e
           rcases List.take_eq_nil_iff.1 (List.map_eq_nil_iff.1 e) with e|e
           · omega
           · rw [e] at hkl;simp at hkl
       · have:k=0:=by omega
         subst this
         have:=hacc2.out
         simp only [List.take_zero,List.map_nil] at this
         rw [if_neg (by omega),this,e0];simp [Lib.join]
     replace hnew:=hid hnew
     have hBn:(B2++ty++[61]++wv).length=B2.length+ty.length+1+wv.length:=by simp only [List.length_append,List.length_cons,List.length_nil]
     have hBn2:(B2++ty++[61]++wv).length≤i * 50000000+1+(k+1) * 40002:=by rw [hBn];omega
     replace hB2:=hid hB2
     clear hwl ha ham hva htk2
     have hkb:k<1000:=by omega
     have b0:((acc2.length+1:Nat):Int)≤9223372036854775807:=by omega
     have b1:((B2.length+ty.length:Nat):Int)≤9223372036854775807:=by omega
     have b2:((B2.length+ty.length+1:Nat):Int)≤9223372036854775807:=by omega
     have b3:((B2.length+ty.length+1+wv.length:Nat):Int)≤9223372036854775807:=by omega
     simp only [Int.natCast_add,Int.cast_ofNat_Int] at b0 b1 b2 b3
     iterate 12 first
       | refine dT ?_
       | (first|refine cA (by kernel_rfl) ?_|refine bM (by kernel_rfl) ?_|refine bN ?_|refine fN ?_|refine ez (fun _=>?_)|refine bv ?_|refine cC ?_)
         simp (config:={ maxSteps:=2000000 }) only [Kon,push_cast,reduceIte,Nat.reduceEqDiff,Nat.reduceAdd,Nat.reduceMul,Nat.reduceSub,Nat.reduceLT,Nat.reduceLeDiff,Int.reduceLT,Int.reduceLE,Int.reduceAdd,Int.reduceSub,Int.reduceNeg,Int.reduceToNat,Int.reduceEq,reduceCtorEq, *]
       | (first|refine ct (by kernel_rfl) ?_|refine co ?_|refine cB ?_|refine eF (bu ?_))
         simp only [push_cast,reduceIte,Nat.reduceEqDiff,Nat.reduceAdd,Nat.reduceMul,Nat.reduceSub,Nat.reduceLT,Nat.reduceLeDiff,Int.reduceLT,Int.reduceLE,Int.reduceAdd,Int.reduceSub,Int.reduceNeg,Int.reduceToNat,Int.reduceEq,reduceCtorEq, *]
       | exact eA
       | first|apply eB|apply cu|apply eC|apply cv|apply eD|apply cw
       | refine bQ ?_
       | first|refine bO rfl ?_|refine bP rfl ?_|refine aX rfl ?_ ?_|refine bX rfl (fun _=>?_) (fun _=>?_)|refine bW rfl (fun _=>?_) (fun _=>?_)
       | ((first|refine aW (fun _=>?_) (fun _=>?_)|refine br (fun _=>?_) (fun _=>?_))<;>try simp (config:={ maxSteps:=2000000 }) only [Kon,push_cast,reduceIte,Nat.reduceEqDiff,Nat.reduceAdd,Nat.reduceMul,Nat.reduceSub,Nat.reduceLT,Nat.reduceLeDiff,Int.reduceLT,Int.reduceLE,Int.reduceAdd,Int.reduceSub,Int.reduceNeg,Int.reduceToNat,Int.reduceEq,reduceCtorEq, *])
       | refine And.intro trivial ?_
       | refine And.intro (by omega) ?_
       | refine bR rfl (fun _=>?_) (fun _=>?_)
       | refine And.intro ?_ ?_
     refine F6 (fun T2 L2=>T2=[(3,.str B2),(7,.ptr (L.length+Z.length) 0),(21,.int .i64 (k:Int)),(20,.int .i64 r.length),(19,ao r),(10,.int .i64 (i:Int)),(9,.int .i64 d.length),(8,.sl (d.map ao) d.length cap)]∧L2=L++(Z++[.cells [.str ty,.str va]])) ?_ ?_
     · by_cases h0:0<k
       · have k0:(0:Int)<(k:Int):=by omega
         have hB':=hB2.out
         rw [if_pos h0] at hB'
         subst hB'
         clear h0
         refine wk ?_
         exact z6 _ _ (CutL (b:=by simp)) ⟨rfl,rfl⟩
       · have k0:¬ (0:Int)<(k:Int):=by omega
         have hB':=hB2.out
         rw [if_neg h0] at hB'
         subst hB'
         clear h0
         refine wk ?_
         exact z6 _ _ (CutL (b:=by simp)) ⟨rfl,rfl⟩
     rintro _ _ ⟨rfl,rfl⟩ -
     have kk1:=@hid _ (fun L K=>ii hva' (L:=L) (K:=K))
     refine wk ?_
     exact ay _ _ _ (by omega) (CutL (b:=by have:=hXZ.out;simp;omega)) ⟨k+1,B2++ty++[61]++wv,_,rfl,hkl,hBn2,by have:=hXZ.out;simp;omega,hnew,rfl,rfl⟩
   · have hke:k=r.length:=by omega
     subst hke
     have g3:¬ (r.length:Int)<(r.length:Int):=by omega
     have hfl:acc2.length≤(i+1) * 50000000:=by
       rw [Nat.succ_mul]
       clear hal hBl hab
       generalize i * 50000000=M at hal2 ⊢
       omega
     have e:=hacc2.out
     rw [List.take_length,show Lib.join (r.map (avT false)) [43]=bL false r by simp [bL],hfin.out] at e
     replace e:=hid e
     refine wk ?_
     exact ay _ _ _ (by omega) (CutL (b:=by simp)) ⟨i+1,acc2,_,rfl,hlt,hfl,e,rfl,rfl⟩
 · have hke:i=d.length:=by omega
   subst hke
   have g1:¬ (d.length:Int)<(d.length:Int):=by omega
   have e:=hacc.out
   rw [List.take_length] at e
   have h':=h.out
   simp only [aK] at h'
   rw [← e] at h'
   replace h':=hid h'
   clear hacc e
   refine wk ?_
   exact ac rfl h'.out
variable {L:List Blk} {K:AV→List Blk→Prop}
def xU (r:Rdn):Nat:=(r.map fun a=>min a.2.length 5000).sum
def CG (d:List Rdn):Nat:=(d.map xU).sum
theorem J4 (n:Nat):∀ (s:List UInt8) (i:Nat),s.length≤(wrL n i s).length
 | [],_=>by simp
 | c::s,i=>by
   have h1:=J4 n s (i+1)
   have h2:1≤(wrB i n c).length:=by
     unfold wrB;split
     · simp
     · split<;>simp
   simp only [wrL,List.length_append,List.length_cons];omega
theorem FL (sep:List UInt8):∀ xs:List (List UInt8),(xs.map List.length).sum≤(Lib.join xs sep).length
 | []=>by simp [Lib.join]
 | [x]=>by simp [Lib.join,List.intercalate]
 | x::y::l=>by
   have h1:=FL sep (y::l)
   have e:Lib.join (x::y::l) sep=x++(sep++Lib.join (y::l) sep):=by simp [Lib.join,List.intercalate]
   rw [e]
   simp only [List.map_cons,List.sum_cons,List.length_append] at h1 ⊢
   omega
theorem LV (r:Rdn):xU r≤(bL false r).length:=by
 have h1:xU r≤((r.map (avT false)).map List.length).sum:=by
   induction r with
   | nil=>simp [xU]
   | cons a r ih =>
     have h2:=J4 a.2.length a.2 0
     have h3:min a.2.length 5000≤(avT false a).length:=by
       simp only [avT,Bool.false_eq_true,if_false,List.length_append,eG];omega
     simp only [xU,List.map_cons,List.sum_cons] at ih ⊢
     omega
 have h2:=FL [43] (r.map (avT false))
 simp only [bL,Bool.false_eq_true,if_false]
 omega
theorem LF (d:List Rdn):CG d≤(aK false d).length:=by
 have h1:CG d≤((d.map (bL false)).map List.length).sum:=by
   induction d with
   | nil=>simp [CG]
   | cons a r ih =>
     have h2:=LV a
     simp only [CG,List.map_cons,List.sum_cons] at ih ⊢
     omega
 have h2:=FL [44] (d.map (bL false))
 simp only [aK]
 omega
theorem FE:∀ {l:List Nat} {x:Nat},x∈l→x≤l.sum
 | [],_,h=>by cases h
 | y::l,x,h=>by
   rw [List.sum_cons]
   rcases List.mem_cons.1 h with rfl|h
   · omega
   · have:=FE h;omega
theorem Kj {d:List Rdn} (h:CG d≤4096):∀ r∈d,∀ a∈r,a.2.length≤4096:=fun r hr a ha=>by
 have h1:xU r≤CG d:=by
   unfold CG
   exact FE (List.mem_map_of_mem hr)
 have h2:min a.2.length 5000≤xU r:=by
   unfold xU
   exact FE (List.mem_map_of_mem (f:=fun a:Ava=>min a.2.length 5000) ha)
 omega
theorem KF {d:List Rdn} (h:∀ r∈d,∀ a∈r,a.2.length≤4096):pI d=false:=by
 unfold pI ve
 rw [List.any_eq_false]
 intro r hr
 simp only [Bool.not_eq_true,List.any_eq_false,decide_eq_true_eq]
 intro a ha
 have:=h r hr a ha
 omega
theorem LY {r:Rdn} {typ:List UInt8} {n:Nat} {cap:Option Nat} (hr:r.length=n) (hn:n≤8) (h1:∀ a∈r,a.1.length≤32) (h2:typ.length≤32) (h:K (.bool (mC r typ)) L) :
   ab Tryz.prog 78 [.sl (aL r) n cap,.str typ] L K:=by
 subst hr
 exact Nr (by omega) (fun a ha=>by have:=h1 a ha;omega) (by omega) h
theorem lG {d:List Rdn} {cap:Option Nat} (hn:d.length≤1100000) (hr:∀ r∈d,r.length≤1100000∧∀ a∈r,(a.1.length:Int)≤140737488351232) (h:K (Fu (prS d)) L):ab Tryz.prog 52 [.sl (d.map ao) d.length cap] L K:=by
 obtain ⟨R,hR⟩:∃ R,prS d=R:=⟨_,rfl⟩
 rw [hR] at h
 replace h:=hid h
 have hat:=hid (fun k=>@ij d k)
 replace hr:=hid hr
 have hbad:fz 0 d≠0→R=([],fz 0 d):=fun e=>by rw [← hR,prS,if_pos e]
 replace hbad:=hid hbad
 replace hR:=hid hR
 refine aa zT (by simp [oA]) ?_
 simp only [oA,am]
 refine wk ?_
 refine ax (fun n T' L'=>∃ (i:Nat) (c:Int) (X:List Blk),n=d.length - i∧i≤d.length∧i≤32∧Hid (c=(CG (d.take i):Nat)∧c≤40000 * i)∧Hid (fz i (d.drop i)=fz 0 d)∧T'=[(11,.int .i64 (i:Int)),(10,.int .i64 d.length),(9,.sl (d.map ao) d.length cap),(4,.int .i64 c),(0,.sl (d.map ao) d.length cap)]∧L'=L++X) (CutS (b:=by simp)) ⟨0,0,[],rfl,Nat.zero_le _,by omega,hid ⟨rfl,by omega⟩,hid rfl,rfl,by simp⟩ ?_
 rintro _ _ _ ⟨i,c,X,rfl,hi,hi32,hc,he,rfl,rfl⟩
 by_cases hlt:i<d.length
 · have g1:(i:Int)<(d.length:Int):=by omega
   have g2:IntKind.i64.wrap ((i:Int)+1)=(i:Int)+1:=ah (by omega) (by omega)
   have e2:=hat.out i hlt
   have hrm:d.getD i []∈d:=by rw [List.getD_eq_getElem?_getD,List.getElem?_eq_getElem hlt];exact List.getElem_mem _
   obtain ⟨hrl,hrt⟩:=hr.out (d.getD i []) hrm
   obtain ⟨r,hri⟩:∃ r,d.getD i []=r:=⟨_,rfl⟩
   have hdr:d.drop i=r::d.drop (i+1):=by rw [List.drop_eq_getElem_cons hlt,← hri];simp [hlt]
   have hdt:d.take (i+1)=d.take i++[r]:=by rw [List.take_succ_eq_append_getElem hlt,← hri];simp [hlt]
   rw [hri] at e2 hrl hrt
   have he2:=he.out
   rw [hdr,fz] at he2
   clear hdr hri hrm
   replace hrt:=hid hrt
   replace hdt:=hid hdt
   by_cases h32:i=32
   · rw [if_pos h32] at he2
     have h':=h.out
     rw [hbad.out (by rw [← he2];decide),← he2] at h'
     replace h':=hid h'
     have k1:(i:Int)=32:=by omega
     have g1':(32:Int)<(d.length:Int):=by omega
     clear h32 he2
     refine wk ?_
     exact ac rfl h'.out
   rw [if_neg h32] at he2
   have k1:¬ (i:Int)=32:=by omega
   by_cases hr0:r=[]
   · rw [if_pos hr0] at he2
     subst hr0
     have h':=h.out
     rw [hbad.out (by rw [← he2];decide),← he2] at h'
     replace h':=hid h'
     clear h32 he2
     refine wk ?_
     exact ac rfl h'.out
   rw [if_neg hr0] at he2
   have k2:¬ (r.length:Int)=0:=by have:=List.length_pos_iff.2 hr0;omega
   have herr:∀ e:Int,cr [] r=e→e≠0→K (.tup [.str [],.int .i64 e]) L:=fun e a1 a2=>by
     rw [if_pos (by rw [a1];exact a2),a1] at he2
     have h':=h.out
     rwa [hbad.out (by rw [← he2];exact a2),← he2] at h'
   replace herr:=hid herr
   replace he2:=hid he2
   clear h32
   refine wk ?_
   refine ax (fun n T' L'=>∃ (k:Nat) (c':Int) (Y:List Blk),n=r.length - k∧k≤r.length∧k≤8∧Hid (c'=c+(xU (r.take k):Nat)∧0≤c'∧c'≤40000 * i+5000 * k)∧Hid (cr (r.take k) (r.drop k)=cr [] r∧∀ a∈r.take k,a.1.length≤32)∧T'=[(23,.int .i64 (k:Int)),(22,.int .i64 r.length),(21,ao r),(6,ao r),(11,.int .i64 (i:Int)),(10,.int .i64 d.length),(9,.sl (d.map ao) d.length cap),(4,.int .i64 c'),(0,.sl (d.map ao) d.length cap)]∧L'=L++(X++Y)) (CutS (b:=by simp)) ⟨0,c,[],rfl,Nat.zero_le _,by omega,hid ⟨by simp [xU],by have:=hc.out;omega,by have:=hc.out;omega⟩,hid ⟨rfl,by simp⟩,rfl,by simp⟩ ?_
   rintro _ _ _ ⟨k,c',Y,rfl,hk,hk8,hc',hrow,rfl,rfl⟩
   by_cases hkl:k<r.length
   · have g3:(k:Int)<(r.length:Int):=by omega
     have g4:IntKind.i64.wrap ((k:Int)+1)=(k:Int)+1:=ah (by omega) (by omega)
     have e3:=dQ hkl
     have e4:k * 2+2≤(aL r).length:=by rw [bt];omega
     obtain ⟨⟨ty,va⟩,ha⟩:∃ a,r.getD k ([],[])=a:=⟨_,rfl⟩
     have ham:(ty,va)∈r:=by rw [← ha];simp [hkl]
     have hdk:r.drop k=(ty,va)::r.drop (k+1):=by rw [List.drop_eq_getElem_cons hkl,← ha];simp [hkl]
     have htk:r.take (k+1)=r.take k++[(ty,va)]:=by rw [List.take_succ_eq_append_getElem hkl,← ha];simp [hkl]
     rw [ha] at e3
     simp only [lF] at e3
     have hty1:=hrt.out _ ham
     simp only at hty1
     obtain ⟨hr1,hr2⟩:=hrow.out
     rw [hdk,cr] at hr1
     have hlk:(r.take k).length=k:=by simp;omega
     rw [hlk] at hr1
     clear hdk ha hrow ham
     have e5:(aL r).take (k * 2)=aL (r.take k):=zY
     have g5:(k:Int)≤(r.length:Int):=by omega
     replace hr1:=hid hr1
     replace hr2:=hid hr2
     replace htk:=hid htk
     have e6:=hid hlk
     clear hlk
     repeat' first
       | refine dT ?_
       | (first|refine cA (by kernel_rfl) ?_|refine bM (by kernel_rfl) ?_|refine bN ?_|refine fN ?_|refine ez (fun _=>?_)|refine bv ?_|refine cC ?_)
         refine sm ?_
       | (first|refine ct (by kernel_rfl) ?_|refine co ?_|refine cB ?_|refine eF (bu ?_))
         refine sl ?_
       | exact eA
       | first|apply eB|apply cu|apply eC|apply cv|apply eD|apply cw
       | refine bQ ?_
       | first|refine bO rfl ?_|refine bP rfl ?_|refine aX rfl ?_ ?_|refine bX rfl (fun _=>?_) (fun _=>?_)|refine bW rfl (fun _=>?_) (fun _=>?_)
       | ((first|refine aW (fun _=>?_) (fun _=>?_)|refine br (fun _=>?_) (fun _=>?_))<;>try refine sm ?_)
       | refine And.intro trivial ?_
       | refine And.intro (by omega) ?_
       | refine bR rfl (fun _=>?_) (fun _=>?_)
       | refine And.intro ?_ ?_
     · rename_i h8
       have h':=hid (herr.out 9 (by rw [← hr1.out,if_pos (by omega)]) (by decide))
       exact ac rfl h'.out
     · rename_i h8
       have hr3:=hr1.out
       rw [if_neg (by omega)] at hr3
       replace hr3:=hid hr3
       refine Kl hty1 ?_
       cases hty:iA ty with
       | false =>
         have h':=hid (herr.out 20 (by rw [← hr3.out,if_pos hty]) (by decide))
         clear hr3
         refine sk ?_
         refine wk ?_
         exact ac rfl h'.out
       | true =>
         have hr4:=hr3.out
         rw [if_neg (by rw [hty];simp)] at hr4
         replace hr4:=hid hr4
         have htl:=Db hty
         clear hr3
         refine sk ?_
         repeat' first
           | refine dT ?_
           | (first|refine cA (by kernel_rfl) ?_|refine bM (by kernel_rfl) ?_|refine bN ?_|refine fN ?_|refine ez (fun _=>?_)|refine bv ?_|refine cC ?_)
             refine sm ?_
           | (first|refine ct (by kernel_rfl) ?_|refine co ?_|refine cB ?_|refine eF (bu ?_))
             refine sl ?_
           | exact eA
           | first|apply eB|apply cu|apply eC|apply cv|apply eD|apply cw
           | refine bQ ?_
           | first|refine bO rfl ?_|refine bP rfl ?_|refine aX rfl ?_ ?_|refine bX rfl (fun _=>?_) (fun _=>?_)|refine bW rfl (fun _=>?_) (fun _=>?_)
           | ((first|refine aW (fun _=>?_) (fun _=>?_)|refine br (fun _=>?_) (fun _=>?_))<;>try refine sm ?_)
           | refine And.intro trivial ?_
           | refine And.intro (by omega) ?_
           | refine bR rfl (fun _=>?_) (fun _=>?_)
           | refine And.intro ?_ ?_
         refine bF (LY e6.out (by omega) hr2.out htl ⟨rfl,rfl⟩) ?_
         cases hha:mC (r.take k) ty with
         | true =>
           have h':=hid (herr.out 21 (by rw [← hr4.out,if_pos hha]) (by decide))
           refine sk ?_
           refine wk ?_
           exact ac rfl h'.out
         | false =>
           have hr5:=hr4.out
           rw [if_neg (by rw [hha];simp),← htk.out] at hr5
           replace hr5:=hid hr5
           clear hr4
           obtain ⟨z,hz⟩:∃ z:Int,(if (5000:Int)<(va.length:Int) then 5000 else (va.length:Int))=z:=⟨_,rfl⟩
           have hz2:z=((min va.length 5000:Nat):Int):=by rw [← hz];split<;>omega
           have hzw:IntKind.i64.wrap (c'+z)=c'+z:=by
             have:=hc'.out
             exact ah (by omega) (by omega)
           replace hz2:=hid hz2
           refine sk ?_
           refine wk ?_
           refine ay _ _ _ (by omega) (CutL (b:=by simp)) ⟨k+1,c'+z,Y++[.cells [.str ty,.str va]],rfl,hkl,by omega,hid ?_,hid ⟨hr5.out,fun a ha=>?_⟩,rfl,by simp⟩
           · have:=hc'.out
             have e:xU (r.take (k+1))=xU (r.take k)+min va.length 5000:=by rw [htk.out];simp [xU]
             have:=hz2.out
             omega
           rw [htk.out] at ha
           rcases List.mem_append.1 ha with h|h
           · exact hr2.out a h
           · rw [List.mem_singleton.1 h];exact htl
   · have hke:k=r.length:=by omega
     subst hke
     have g3:¬ (r.length:Int)<(r.length:Int):=by omega
     have hz:=hrow.out.1
     rw [List.drop_length,cr] at hz
     have he3:=he2.out
     rw [← hz] at he3
     simp only [ne_eq,not_true_eq_false,if_false] at he3
     replace he3:=hid he3
     have hcn:=hc'.out
     rw [List.take_length] at hcn
     replace hcn:=hid hcn
     clear hz
     refine wk ?_
     refine ay _ _ _ (by omega) (CutS (b:=by simp)) ⟨i+1,c',X++Y,rfl,hlt,by omega,hid ?_,hid he3.out,rfl,rfl⟩
     have e:CG (d.take (i+1))=CG (d.take i)+xU r:=by rw [hdt.out];simp [CG]
     have:=hcn.out
     have:=hc.out
     omega
 · have hke:i=d.length:=by omega
   subst hke
   have g1:¬ (d.length:Int)<(d.length:Int):=by omega
   have hch:=he.out
   rw [List.drop_length,fz] at hch
   have hcc:=hc.out.1
   rw [List.take_length] at hcc
   have hR':=hR.out
   rw [prS,if_neg (by rw [← hch];simp)] at hR'
   have hge:=LF d
   by_cases hbig:4096<CG d
   · have k1:(4096:Int)<c:=by omega
     have h':=h.out
     rw [← hR'] at h'
     have e:(if pI d=true then (([]:List UInt8),(5:Int)) else if 4096<(aK false d).length then ([],5) else (aK false d,0))=([],5):=by
       split
       · rfl
       · rw [if_pos (by omega)]
     rw [e] at h'
     replace h':=hid h'
     clear hbig hge hcc e hR' hch
     refine wk ?_
     exact ac rfl h'.out
   · have k1:¬ (4096:Int)<c:=by omega
     have hlo:=Kj (d:=d) (by omega)
     obtain ⟨hd32,hd8⟩:=C5 d 0 hch.symm (by omega)
     rw [KF hlo,if_neg (by simp)] at hR'
     replace hlo:=hid hlo
     replace hd8:=hid hd8
     have hbn:=hid (show ∀ r∈d,r.length≤1000∧∀ a∈r,a.1.length≤10000∧a.2.length≤10000 from fun r hr=>⟨by have:=(hd8.out r hr).1;omega,fun a ha=>⟨by have:=(hd8.out r hr).2 a ha;omega,by have:=hlo.out r hr a ha;omega⟩⟩)
     by_cases hlg:4096<(aK false d).length
     · have k2:(4096:Int)<((aK false d).length:Int):=by omega
       have h':=h.out
       rw [← hR',if_pos hlg] at h'
       replace h':=hid h'
       clear hbig hge hcc hR' hch hlg
       have kk1:=@hid _ (fun L K=>CY (cap:=cap) (by omega) hbn.out (L:=L) (K:=K))
       refine wk ?_
       exact ac rfl h'.out
     · have k2:¬ (4096:Int)<((aK false d).length:Int):=by omega
       have h':=h.out
       rw [← hR',if_neg hlg] at h'
       replace h':=hid h'
       clear hbig hge hcc hR' hch hlg
       have kk1:=@hid _ (fun L K=>CY (cap:=cap) (by omega) hbn.out (L:=L) (K:=K))
       refine wk ?_
       exact ac rfl h'.out
def ou (a:Ava):Ava:=(aD a.1,bj a.2)
abbrev pK (a:Ava):List UInt8:=avT false a
def pY (l:Rdn) (x:Ava):Nat→Nat
 | 0=>0
 | n+1=>if pK x<pK (l.getD n ([],[])) then pY l x n else n+1
def vg (l:Rdn) (x:Ava):Rdn:=l.take (pY l x l.length)++[x]++l.drop (pY l x l.length)
def eU (r:Rdn):Rdn:=r.foldl (fun l a=>vg l (ou a)) []
def eJ (d:List Rdn):List Rdn:=d.map eU
theorem Fy (l:Rdn) (x:Ava):∀ n,pY l x n≤n
 | 0=>Nat.le_refl _
 | n+1=>by
   have:=Fy l x n
   unfold pY;split<;>omega
theorem GJ (l:Rdn) (x:Ava):(vg l x).length=l.length+1:=by
 have:=Fy l x l.length
 simp [vg];omega
theorem Gu {r:Rdn} {k:Nat} (h:k<r.length):eU (r.take (k+1))=vg (eU (r.take k)) (ou (r.getD k ([],[]))):=by
 unfold eU
 rw [List.take_succ_eq_append_getElem h,List.foldl_append]
 simp [h]
theorem DQ (r:Rdn):∀ l:Rdn,(r.foldl (fun l a=>vg l (ou a)) l).length=l.length+r.length:=by
 induction r with
 | nil=>simp
 | cons a r ih=>intro l;rw [List.foldl_cons,ih,GJ];simp;omega
theorem mz (r:Rdn):(eU r).length=r.length:=by simp [eU,DQ]
theorem JK {r:Rdn} {k:Nat}:(aL r).drop (k * 2)=aL (r.drop k):=by
 induction r generalizing k with
 | nil=>simp [aL]
 | cons a r ih =>
   cases k with
   | zero=>simp [aL]
   | succ k =>
     have:=@ih k
     simp only [aL] at this
     rw [show (k+1) * 2=k * 2+1+1 by omega]
     simp [aL,lF,this]
theorem Fo (r q:Rdn):aL (r++q)=aL r++aL q:=by simp [aL]
theorem Iw (l:Rdn) (x:Ava):∀ (n j:Nat),pY l x n≤j→j<n→pK x<pK (l.getD j ([],[]))
 | 0,_,_,h=>by omega
 | n+1,j,h1,h2=>by
   unfold pY at h1
   split at h1
   · rename_i hk
     rcases Nat.lt_or_ge j n with e|e
     · exact Iw l x n j h1 e
     · have:j=n:=by omega
       subst this;exact hk
   · omega
theorem Ix (l:Rdn) (x:Ava):∀ n,pY l x n=0∨¬ pK x<pK (l.getD (pY l x n - 1) ([],[]))
 | 0=>.inl rfl
 | n+1=>by
   unfold pY
   split
   · exact Ix l x n
   · rename_i hk;exact .inr (by simpa using hk)
def Fp (l:Rdn):Prop:=l.Pairwise fun a b=>pK a≤pK b
theorem HK {l:Rdn} {x:Ava} (hs:Fp l):Fp (vg l x):=by
 have hge:=Iw l x l.length
 have hat:=Ix l x l.length
 have hle:=Fy l x l.length
 unfold vg
 obtain ⟨p,hp⟩:∃ p,pY l x l.length=p:=⟨_,rfl⟩
 rw [hp] at hge hat hle ⊢
 have hs2:Fp (l.take p++l.drop p):=by rw [List.take_append_drop];exact hs
 obtain ⟨h1,h2,h3⟩:=List.pairwise_append.1 hs2
 have ha:∀ a∈l.take p,pK a≤pK x:=fun a ha=>by
   rcases hat with e|e
   · subst e;simp at ha
   · have hp1:p - 1<l.length:=by
       rcases Nat.eq_zero_or_pos p with z|z
       · subst z;simp at ha
       · omega
     refine List.le_trans ?_ (List.not_lt.1 e)
     obtain ⟨i,hi,rfl⟩:=List.mem_iff_getElem.1 ha
     simp only [List.length_take] at hi
     rw [List.getElem_take]
     have hg:l.getD (p - 1) ([],[])=l[p - 1]:=by simp [hp1]
     rw [hg]
     rcases Nat.lt_or_ge i (p - 1) with q|q
     · exact (List.pairwise_iff_getElem.1 hs) i (p - 1) (by omega) hp1 q
     · have:i=p - 1:=by omega
       subst this
       exact List.not_lt.1 (List.lt_irrefl _)
 have hb:∀ b∈l.drop p,pK x≤pK b:=fun b hb=>by
   obtain ⟨i,hi,rfl⟩:=List.mem_iff_getElem.1 hb
   simp only [List.length_drop] at hi
   rw [List.getElem_drop]
   have:=hge (p+i) (by omega) (by omega)
   have hg:l.getD (p+i) ([],[])=l[p+i]:=by simp [show p+i<l.length by omega]
   rw [hg] at this
   exact List.le_of_lt this
 unfold Fp
 rw [List.append_assoc,List.pairwise_append]
 refine ⟨h1,?_,?_⟩
 · simp only [List.singleton_append,List.pairwise_cons]
   exact ⟨hb,h2⟩
 · intro a haa b hbb
   simp only [List.singleton_append,List.mem_cons] at hbb
   rcases hbb with rfl|hbb
   · exact ha a haa
   · exact h3 a haa b hbb
theorem GI (l:Rdn) (x:Ava):(vg l x).Perm (x::l):=by
 unfold vg
 rw [List.append_assoc]
 refine (List.perm_middle (l₁:=l.take _) (l₂:=l.drop _)).trans ?_
 rw [List.take_append_drop]
theorem zm:∀ (r l:Rdn),Fp l→Fp (r.foldl (fun l a=>vg l (ou a)) l)∧(r.foldl (fun l a=>vg l (ou a)) l).Perm (l++r.map ou)
 | [],l,h=>by simpa using h
 | a::r,l,h=>by
   obtain ⟨h1,h2⟩:=zm r (vg l (ou a)) (HK h)
   refine ⟨h1,h2.trans ?_⟩
   refine ((GI l (ou a)).append_right _).trans ?_
   simp only [List.map_cons]
   exact (List.perm_middle (l₁:=l)).symm
theorem IL (a:Ava):avT true a=pK (ou a):=by simp [avT,ou]
theorem Hw (r:Rdn):(eU r).map pK=da (r.map (avT true)):=by
 obtain ⟨h1,h2⟩:=zm r [] List.Pairwise.nil
 refine List.Perm.eq_of_pairwise (le:=fun x y=>x≤y) (fun a b _ _=>List.le_antisymm) ?_ ?_ ?_
 · rw [List.pairwise_map];exact h1
 · have:=List.pairwise_mergeSort (le:=fun x y:List UInt8=>decide (x≤y)) (fun a b c h1 h2=>by
     simp only [decide_eq_true_eq] at *
     exact List.le_trans h1 h2) (fun a b=>by
     simp only [Bool.or_eq_true,decide_eq_true_eq]
     exact List.le_total a b) (r.map (avT true))
   exact this.imp fun h=>by simpa using h
 · refine (h2.map pK).trans ?_
   unfold da
   refine List.Perm.trans ?_ (List.mergeSort_perm _ _).symm
   rw [List.nil_append,List.map_map]
   rw [show (pK ∘ ou)=avT true from funext fun a=>(IL a).symm]
theorem Jd (r:Rdn):bL false (eU r)=bL true r:=by
 have:=Hw r
 simp only [bL,Bool.false_eq_true,if_false,if_true]
 rw [← this]
theorem pZ (d:List Rdn):aK false (eJ d)=aK true d:=by
 unfold aK eJ
 rw [List.map_map]
 rw [show (bL false ∘ eU)=bL true from funext Jd]
theorem Mj {p:Ava→Prop} {l:Rdn} {x:Ava} (h:∀ a∈l,p a) (hx:p x):∀ a∈vg l x,p a:=fun a ha=>by
 rcases List.mem_cons.1 ((GI l x).mem_iff.1 ha) with rfl|h1
 · exact hx
 · exact h a h1
theorem Ef:∀ r:Rdn,(aL r).all AV.one=true
 | []=>rfl
 | a::r=>by
   have:=Ef r
   simp only [aL] at this
   simp [aL,lF,AV.one,this]
theorem I0 {xs:List AV} {i:Nat} {a b:AV} (h:(xs.drop i).take 2=[a,b]):xs.getD i .undef=a∧xs.getD (i+1) .undef=b:=by
 have h0:=congrArg (·[0]?) h
 have h1:=congrArg (·[1]?) h
 simp [List.getElem?_take,List.getElem?_drop] at h0 h1
 simp [List.getD_eq_getElem?_getD,h0,h1]
theorem Gk {d:List Rdn} {cap:Option Nat} (hn:d.length≤1000) (hr:∀ r∈d,r.length≤1000∧∀ a∈r,a.1.length≤10000∧a.2.length≤10000) {L:List Blk} {K:AV→List Blk→Prop} (h:K (.sl ((eJ d).map ao) d.length none) L) :
   ab Tryz.prog 55 [.sl (d.map ao) d.length cap] L K:=by
 replace h:=hid h
 have hat:=hid (fun k=>@ij d k)
 replace hr:=hid hr
 refine aa zS (by simp [oz]) ?_
 simp only [oz,am]
 refine wk ?_
 refine cq (l:=[]) (n:=0) 3 1 rfl (Nat.zero_mul 1).symm ?_
 refine ax (fun n T' L'=>∃ (i:Nat) (out:List Rdn) (Z:List Blk),n=d.length - i∧i≤d.length∧Hid (out=(d.take i).map eU)∧L'[L.length]?=some (.spare i 1)∧T'=[(14,.int .i64 (i:Int)),(13,.int .i64 d.length),(12,.sl (d.map ao) d.length cap),(3,.gsl (out.map ao) i L.length 1)]∧L'=L++Z) (CutS (b:=by simp)) ⟨0,[],[.spare 0 1],rfl,Nat.zero_le _,hid rfl,by simp,rfl,rfl⟩ ?_
 rintro _ _ _ ⟨i,out,X,rfl,hi,hout,ho,rfl,rfl⟩
 by_cases hlt:i<d.length
 · have g1:(i:Int)<(d.length:Int):=by omega
   have g2:IntKind.i64.wrap ((i:Int)+1)=(i:Int)+1:=ah (by omega) (by omega)
   have e2:=hat.out i hlt
   have hrm:d.getD i []∈d:=by rw [List.getD_eq_getElem?_getD,List.getElem?_eq_getElem hlt];exact List.getElem_mem _
   have hrl:=hr.out _ hrm
   obtain ⟨r,hri⟩:∃ r,d.getD i []=r:=⟨_,rfl⟩
   have htk:d.take (i+1)=d.take i++[r]:=by rw [List.take_succ_eq_append_getElem hlt,← hri];simp [hlt]
   rw [hri] at e2 hrl
   clear hri hrm
   obtain ⟨hrl1,hrl2⟩:=hrl
   replace hrl2:=hid hrl2
   replace htk:=hid htk
   refine wk ?_
   refine ax (fun n T' L'=>∃ (k:Nat) (l:Rdn) (v:AV) (Z:List Blk),n=r.length - k∧k≤r.length∧Hid (l=eU (r.take k)∧O4 L.length l v L'∧∀ a∈l,a.1.length≤10000∧a.2.length≤10000)∧L'[L.length]?=some (.spare i 1)∧X.length≤Z.length∧T'=[(20,.int .i64 (k:Int)),(19,.int .i64 r.length),(18,ao r),(6,v),(14,.int .i64 (i:Int)),(13,.int .i64 d.length),(12,.sl (d.map ao) d.length cap),(3,.gsl (out.map ao) i L.length 1)]∧L'=L++Z) (CutS (b:=by have:=(List.getElem?_eq_some_iff.1 ho).1;simp at this ⊢)) ⟨0,[],_,X,rfl,Nat.zero_le _,hid ⟨rfl,.inl ⟨rfl,rfl,rfl⟩,by simp⟩,ho,Nat.le_refl _,rfl,rfl⟩ ?_
   clear ho
   rintro _ _ _ ⟨k,l,v,X1,rfl,hk,hI,ho,hXZ,rfl,rfl⟩
   obtain ⟨hl,hv,hlen⟩:=hI.out
   clear hI
   have hB:L.length<(L++X1).length:=(List.getElem?_eq_some_iff.1 ho).1
   refine MN 6 2 L.length rfl hB hv fun p Y hBi hpi=>?_
   rw [List.append_assoc] at hpi ⊢
   have ho2:(L++(X1++Y))[L.length]?=some (.spare i 1):=by rw [← List.append_assoc,List.getElem?_append_left hB];exact ho
   have hXZ2:X.length≤(X1++Y).length:=by simp;omega
   generalize X1++Y=Z at hpi ho2 hXZ2 ⊢
   clear ho hB hv hXZ X1 Y
   replace hXZ2:=hid hXZ2
   have hll:l.length=k:=by rw [hl,mz];simp;omega
   rw [hll] at hpi ⊢
   have hpl:=(List.getElem?_eq_some_iff.1 hpi).1
   have hol:=(List.getElem?_eq_some_iff.1 ho2).1
   rw [List.length_append] at hpl hol
   replace hlen:=hid hlen
   replace hl:=hid hl
   replace hpl:=hid hpl
   replace hol:=hid hol
   by_cases hkl:k<r.length
   · have g3:(k:Int)<(r.length:Int):=by omega
     have g4:IntKind.i64.wrap ((k:Int)+1)=(k:Int)+1:=ah (by omega) (by omega)
     have e3:=dQ hkl
     have e4:k * 2+2≤(aL r).length:=by rw [bt];omega
     obtain ⟨⟨ty,va⟩,ha⟩:∃ a,r.getD k ([],[])=a:=⟨_,rfl⟩
     have ham:(ty,va)∈r:=by rw [← ha];simp [hkl]
     have hnew:=Gu hkl
     rw [ha] at e3 hnew
     simp only [lF] at e3
     have hva:=hrl2.out _ ham
     simp only at hva
     have hva2:(va.length:Int)≤100000:=by omega
     have hty2:(ty.length:Int)≤100000:=by omega
     obtain ⟨fx,hfx⟩:∃ fx,aD ty=fx:=⟨_,rfl⟩
     obtain ⟨px,hpx⟩:∃ px,bj va=px:=⟨_,rfl⟩
     have hfl:fx.length≤10000:=by rw [← hfx];simp [aD];omega
     have hpxl:px.length≤10000:=by rw [← hpx];have:=vC va;omega
     have hpav:ou (ty,va)=(fx,px):=by simp [ou,hfx,hpx]
     rw [hpav,← hl.out] at hnew
     replace hnew:=hid hnew
     clear ha ham hpav
     iterate 24 first
       | refine dT ?_
       | (first|refine cA (by kernel_rfl) ?_|refine bM (by kernel_rfl) ?_|refine bN ?_|refine fN ?_|refine ez (fun _=>?_)|refine bv ?_|refine cC ?_|refine lC hty2 ?_|refine CZ hva2 ?_|refine eE (lC hty2 ⟨rfl,rfl⟩) (lC hty2 ⟨rfl,rfl⟩) ?_|refine eE (CZ hva2 ⟨rfl,rfl⟩) (CZ hva2 ⟨rfl,rfl⟩) ?_|refine bF (lC hty2 ⟨rfl,rfl⟩) ?_|refine bF (CZ hva2 ⟨rfl,rfl⟩) ?_)
         simp (config:={ maxSteps:=2000000 }) only [Kon,push_cast,reduceIte,Nat.reduceEqDiff,Nat.reduceAdd,Nat.reduceMul,Nat.reduceSub,Nat.reduceLT,Nat.reduceLeDiff,Int.reduceLT,Int.reduceLE,Int.reduceAdd,Int.reduceSub,Int.reduceNeg,Int.reduceToNat,Int.reduceEq,reduceCtorEq, *]
       | (first|refine ct (by kernel_rfl) ?_|refine co ?_|refine cB ?_|refine eF (bu ?_))
         simp only [push_cast,reduceIte,Nat.reduceEqDiff,Nat.reduceAdd,Nat.reduceMul,Nat.reduceSub,Nat.reduceLT,Nat.reduceLeDiff,Int.reduceLT,Int.reduceLE,Int.reduceAdd,Int.reduceSub,Int.reduceNeg,Int.reduceToNat,Int.reduceEq,reduceCtorEq, *]
       | exact eA
       | first|apply eB|apply cu|apply eC|apply cv|apply eD|apply cw
       | refine bQ ?_
       | first|refine bO rfl ?_|refine bP rfl ?_|refine aX rfl ?_ ?_|refine bX rfl (fun _=>?_) (fun _=>?_)|refine bW rfl (fun _=>?_) (fun _=>?_)
       | ((first|refine aW (fun _=>?_) (fun _=>?_)|refine br (fun _=>?_) (fun _=>?_))<;>try simp (config:={ maxSteps:=2000000 }) only [Kon,push_cast,reduceIte,Nat.reduceEqDiff,Nat.reduceAdd,Nat.reduceMul,Nat.reduceSub,Nat.reduceLT,Nat.reduceLeDiff,Int.reduceLT,Int.reduceLE,Int.reduceAdd,Int.reduceSub,Int.reduceNeg,Int.reduceToNat,Int.reduceEq,reduceCtorEq, *])
       | refine And.intro trivial ?_
       | refine And.intro (by omega) ?_
       | refine bR rfl (fun _=>?_) (fun _=>?_)
       | refine And.intro ?_ ?_
     have hnp:l.getD k ([],[])=([],[]):=by simp [hll]
     obtain ⟨wx,hwx⟩:∃ w,eG px=w:=⟨_,rfl⟩
     have hkx:pK (fx,px)=fx++61::wx:=by simp [avT,hwx]
     have hwxl:wx.length≤30000:=by rw [← hwx];have:=vA px;omega
     have hpx2:px.length≤100000:=by omega
     replace hkx:=hid hkx
     clear hnp
     refine F6 (fun T2 L2=>∃ z:Nat,z≤k∧Hid (z=pY l (fx,px) k)∧T2=[(10,.int .i64 (z:Int)),(9,.ptr (L.length+(Z.length+1)) 0),(6,.gsl (aL l) k p 2),(20,.int .i64 (k:Int)),(19,.int .i64 r.length),(18,ao r),(14,.int .i64 (i:Int)),(13,.int .i64 d.length),(12,.sl (d.map ao) d.length cap),(3,.gsl (out.map ao) i L.length 1)]∧L2=L++(Z++[.cells [.str ty,.str va],.cells [.str fx,.str px]])) ?_ ?_
     · refine wk ?_
       refine ax (fun n T' L'=>∃ q:Nat,q=n∧q≤k∧Hid (pY l (fx,px) q=pY l (fx,px) k)∧T'=[(10,.int .i64 (q:Int)),(9,.ptr (L.length+(Z.length+1)) 0),(6,.gsl (aL l) k p 2),(20,.int .i64 (k:Int)),(19,.int .i64 r.length),(18,ao r),(14,.int .i64 (i:Int)),(13,.int .i64 d.length),(12,.sl (d.map ao) d.length cap),(3,.gsl (out.map ao) i L.length 1)]∧L'=L++(Z++[.cells [.str ty,.str va],.cells [.str fx,.str px]])) (CutS (b:=by simp)) ⟨k,rfl,Nat.le_refl _,hid rfl,rfl,rfl⟩ ?_
       rintro _ _ _ ⟨q,rfl,hqk,hq,rfl,rfl⟩
       rcases q with _|q
       · have h0:=hid hq.out.symm
         have k0:¬ (0:Int)<((0:Nat):Int):=by omega
         have kk1:=@hid _ (fun L K=>ii hpx2 (L:=L) (K:=K))
         refine wk ?_
         exact z6 _ _ (CutL (b:=by simp)) ⟨0,by omega,hid h0.out.symm,rfl,rfl⟩
       · have k0:(0:Int)<((q+1:Nat):Int):=by omega
         have k1:IntKind.i64.wrap (((q+1:Nat):Int) - 1)=(q:Int):=by rw [ah (by omega) (by omega)];omega
         have k4:(q:Int)<(k:Int):=by omega
         have e5:=dQ (r:=l) (k:=q) (by omega)
         have e6:q * 2+2≤(aL l).length:=by rw [bt];omega
         obtain ⟨⟨t1,v1⟩,hav⟩:∃ a,l.getD q ([],[])=a:=⟨_,rfl⟩
         rw [hav] at e5
         simp only [lF] at e5
         obtain ⟨e7,e8⟩:=I0 e5
         obtain ⟨w1,hw1⟩:∃ w,eG v1=w:=⟨_,rfl⟩
         have hv1:=hlen.out (t1,v1) (by rw [← hav];simp [show q<l.length by omega])
         simp only at hv1
         have hv1':v1.length≤100000:=by omega
         have hw1l:w1.length≤30000:=by rw [← hw1];have:=vA v1;omega
         have hk1:pK (l.getD q ([],[]))=t1++61::w1:=by rw [hav];simp [avT,hw1]
         have c1:((t1.length+1:Nat):Int)≤9223372036854775807:=by omega
         have c2:((t1.length+1+w1.length:Nat):Int)≤9223372036854775807:=by omega
         have c3:((fx.length+1:Nat):Int)≤9223372036854775807:=by omega
         have c4:((fx.length+1+wx.length:Nat):Int)≤9223372036854775807:=by omega
         simp only [Int.natCast_add,Int.cast_ofNat_Int] at c1 c2 c3 c4
         replace hk1:=hid hk1
         simp only [Int.natCast_add,Int.cast_ofNat_Int] at k0 k1
         have hq':=hid hq.out
         clear hq hav
         by_cases hc:pK (fx,px)<pK (l.getD q ([],[]))
         · have hb:(Op.bytesLess (t1++61::w1) (fx++61::wx) || decide (t1++61::w1=fx++61::wx))=false:=by
             rw [hkx.out,hk1.out] at hc
             rw [bytesLess_eq]
             simp only [Bool.or_eq_false_iff,decide_eq_false_iff_not]
             exact ⟨fun e=>List.lt_irrefl _ (List.lt_trans e hc),fun e=>by rw [e] at hc;exact List.lt_irrefl _ hc⟩
           have hq2:pY l (fx,px) q=pY l (fx,px) k:=by rw [← hq'.out,pY,if_pos hc]
           replace hq2:=hid hq2
           clear hc
           have kk1:=@hid _ (fun L K=>ii hpx2 (L:=L) (K:=K))
           have kk2:=@hid _ (fun L K=>ii hv1' (L:=L) (K:=K))
           refine wk ?_
           exact ay _ _ _ (by omega) (CutL (b:=by simp)) ⟨q,rfl,by omega,hq2,rfl,rfl⟩
         · have hb:(Op.bytesLess (t1++61::w1) (fx++61::wx) || decide (t1++61::w1=fx++61::wx))=true:=by
             rw [hkx.out,hk1.out] at hc
             rw [bytesLess_eq]
             simp only [Bool.or_eq_true,decide_eq_true_eq]
             have:=List.not_lt.1 hc
             rcases List.le_iff_lt_or_eq.1 this with e|e
             · exact .inl e
             · exact .inr e
           have hq2:q+1=pY l (fx,px) k:=by rw [← hq'.out,pY,if_neg hc]
           replace hq2:=hid hq2
           clear hc
           have kk1:=@hid _ (fun L K=>ii hpx2 (L:=L) (K:=K))
           have kk2:=@hid _ (fun L K=>ii hv1' (L:=L) (K:=K))
           refine wk ?_
           exact z6 _ _ (CutL (b:=by simp)) ⟨q+1,by omega,hq2,rfl,rfl⟩
     rintro _ _ ⟨z,hzk,hz,rfl,rfl⟩ -
     have z0:(0:Int)≤(z:Int):=by omega
     have z1:(z:Int)≤(k:Int):=by omega
     have s1:(aL l).take (z * 2)=aL (l.take z):=zY
     have s2:((aL l).drop (z * 2)).take ((k - z) * 2)=aL (l.drop z):=by
       rw [JK,List.take_of_length_le]
       rw [bt,List.length_drop,hll];omega
     have s3:AV.frzL (aL (l.take z))=aL (l.take z):=iu _
     have s4:AV.frzL (aL (l.drop z))=aL (l.drop z):=iu _
     have s5:(aL (l.take z)).length=z * 2:=by rw [bt,List.length_take];omega
     have s6:(aL (l.drop z)).length=(k - z) * 2:=by rw [bt,List.length_drop,hll]
     have s7:z+1+(k - z)=k+1:=by omega
     have s8:=Ef (l.take z)
     have s9:=Ef (l.drop z)
     have q1:z * 32≤140737488355328:=by omega
     have q2:z≤140737488355328:=by omega
     have q3:(z+1) * 32≤140737488355328:=by omega
     have q4:z+1≤140737488355328:=by omega
     have q5:(k+1) * 32≤140737488355328:=by omega
     have q6:k+1≤140737488355328:=by omega
     iterate 3 first
       | refine dT ?_
       | (first|refine cA (by kernel_rfl) ?_|refine bM (by kernel_rfl) ?_|refine bN ?_|refine fN ?_|refine ez (fun _=>?_)|refine bv ?_|refine cC ?_)
         simp (config:={ maxSteps:=2000000 }) only [Kon,push_cast,reduceIte,Nat.reduceEqDiff,Nat.reduceAdd,Nat.reduceMul,Nat.reduceSub,Nat.reduceLT,Nat.reduceLeDiff,Int.reduceLT,Int.reduceLE,Int.reduceAdd,Int.reduceSub,Int.reduceNeg,Int.reduceToNat,Int.reduceEq,reduceCtorEq, *]
       | (first|refine ct (by kernel_rfl) ?_|refine co ?_|refine cB ?_|refine eF (bu ?_))
         simp only [push_cast,reduceIte,Nat.reduceEqDiff,Nat.reduceAdd,Nat.reduceMul,Nat.reduceSub,Nat.reduceLT,Nat.reduceLeDiff,Int.reduceLT,Int.reduceLE,Int.reduceAdd,Int.reduceSub,Int.reduceNeg,Int.reduceToNat,Int.reduceEq,reduceCtorEq, *]
       | exact eA
       | first|apply eB|apply cu|apply eC|apply cv|apply eD|apply cw
       | refine bQ ?_
       | first|refine bO rfl ?_|refine bP rfl ?_|refine aX rfl ?_ ?_|refine bX rfl (fun _=>?_) (fun _=>?_)|refine bW rfl (fun _=>?_) (fun _=>?_)
       | ((first|refine aW (fun _=>?_) (fun _=>?_)|refine br (fun _=>?_) (fun _=>?_))<;>try simp (config:={ maxSteps:=2000000 }) only [Kon,push_cast,reduceIte,Nat.reduceEqDiff,Nat.reduceAdd,Nat.reduceMul,Nat.reduceSub,Nat.reduceLT,Nat.reduceLeDiff,Int.reduceLT,Int.reduceLE,Int.reduceAdd,Int.reduceSub,Int.reduceNeg,Int.reduceToNat,Int.reduceEq,reduceCtorEq, *])
       | refine And.intro trivial ?_
       | refine And.intro (by omega) ?_
       | refine bR rfl (fun _=>?_) (fun _=>?_)
       | refine And.intro ?_ ?_
     refine cq (l:=[]) (n:=0) 11 2 rfl (Nat.zero_mul 2).symm ?_
     refine wk ?_
     have hcell:aL (l.take z)++AV.str fx::AV.str px::aL (l.drop z)=aL (vg l (fx,px)):=by
       rw [vg,hll,← hz.out,Fo,Fo];simp [aL,lF]
     have hlen2:(vg l (fx,px)).length=k+1:=by rw [GJ,hll]
     rw [hcell]
     refine ay _ _ _ (by omega) (CutL (b:=?_)) ⟨k+1,vg l (fx,px),_,_,rfl,hkl,hid ⟨hnew.out.symm,.inr ⟨L.length+(Z.length+2),by omega,by rw [hlen2],?_⟩,Mj hlen.out ⟨hfl,hpxl⟩⟩,?_,?_,rfl,rfl⟩
     · have:=hXZ2.out;simp;omega
     · rw [lD,lD,hlen2];rfl
     · rw [← List.append_assoc,List.getElem?_append_left (List.getElem?_eq_some_iff.1 ho2).1];exact ho2
     · have:=hXZ2.out;simp;omega
   · have hke:k=r.length:=by omega
     subst hke
     have g3:¬ (r.length:Int)<(r.length:Int):=by omega
     have q3:(i+1) * 24≤140737488355328:=by omega
     have q4:i+1≤140737488355328:=by omega
     have e5:AV.frzL (aL l)=aL l:=iu _
     have e6:out.map ao++[AV.sl (aL l) r.length none]=(out++[l]).map ao:=by
       rw [List.map_append];simp [hll]
     have e7:out++[l]=(d.take (i+1)).map eU:=by
       rw [htk.out,List.map_append,← hout.out,hl.out,List.take_length];rfl
     have s4:∀ (W:List Blk) A,(L++W).set L.length A=L++W.set 0 A:=fun W A=>by rw [List.set_append_right _ _ (Nat.le_refl _),Nat.sub_self]
     have f1:(L++Z.set 0 (.spare (i+1) 1))[L.length]?=some (.spare (i+1) 1):=by
       rw [← s4,List.getElem?_set,if_pos rfl,if_pos (List.getElem?_eq_some_iff.1 ho2).1]
     replace e7:=hid e7
     replace f1:=hid f1
     replace e6:=hid e6
     refine wk ?_
     rw [e6.out]
     refine ay _ _ _ (by omega) (CutL (b:=?_)) ⟨i+1,out++[l],_,rfl,hlt,e7,f1.out,rfl,rfl⟩
     have:=hol.out;simp;omega
 · have hke:i=d.length:=by omega
   subst hke
   have g1:¬ (d.length:Int)<(d.length:Int):=by omega
   have e:=hout.out
   rw [List.take_length] at e
   have h':=h.out
   rw [show (eJ d)=out from e.symm] at h'
   replace h':=hid h'
   clear hout e
   refine wk ?_
   refine cz (ac ?_ ?_)
   · simp only [AV.frz,AV.frzL,bc,AV.refs,AV.refsL,fc,Bool.and_self]
   · simp only [AV.frz,AV.frzL,bc]
     exact h'.out
theorem xj (d:List Rdn):(eJ d).length=d.length:=by simp [eJ]
theorem Du {r:Rdn} (h:∀ a∈r,a.1.length≤10000∧a.2.length≤10000):∀ a∈eU r,a.1.length≤10000∧a.2.length≤10000:=fun a ha=>by
 have hp:=(zm r [] List.Pairwise.nil).2
 have hm:=hp.mem_iff.1 ha
 rw [List.nil_append] at hm
 obtain ⟨b,hb,rfl⟩:=List.mem_map.1 hm
 obtain ⟨h1,h2⟩:=h b hb
 have h3:=vC b.2
 simp only [ou,aD,List.length_map]
 omega
theorem Dh {d:List Rdn} {cap:Option Nat} (hn:d.length≤1100000) (hr:∀ r∈d,r.length≤1100000∧∀ a∈r,(a.1.length:Int)≤140737488351232) (h:K (Fu (zI d)) L) :
   ab Tryz.prog 53 [.sl (d.map ao) d.length cap] L K:=by
 unfold zI Fu at h
 refine aa CM (by simp [ql]) ?_
 simp only [ql,am]
 refine wk ?_
 refine lG hn hr ?_
 unfold Fu
 obtain ⟨⟨ps,pe⟩,hp⟩:∃ p,prS d=p:=⟨_,rfl⟩
 rw [hp] at h ⊢
 simp only at h ⊢
 by_cases h0:pe=0
 · subst h0
   obtain ⟨q1,q2⟩:=Ds (by rw [hp])
   rw [if_neg (by simp)] at h
   have hb:∀ r∈d,r.length≤1000∧∀ a∈r,a.1.length≤10000∧a.2.length≤10000:=fun r hr=>⟨by have:=(q2 r hr).1;omega,fun a ha=>⟨by have:=((q2 r hr).2 a ha).1;omega,by have:=((q2 r hr).2 a ha).2;omega⟩⟩
   have hb2:∀ r∈eJ d,r.length≤1000∧∀ a∈r,a.1.length≤10000∧a.2.length≤10000:=fun r hr=>by
     obtain ⟨r0,hr0,rfl⟩:=List.mem_map.1 hr
     exact ⟨by rw [mz];exact (hb r0 hr0).1,Du (hb r0 hr0).2⟩
   have hpl:=hid (xj d)
   rw [← pZ] at h
   replace h:=hid h
   replace hb:=hid hb
   replace hb2:=hid hb2
   clear hp hr q2
   refine sk ?_
   have kk1:=@hid _ (fun L K=>Gk (cap:=cap) (by omega) hb.out (L:=L) (K:=K))
   refine wk ?_
   rw [← hpl.out]
   refine CY (by rw [hpl.out];omega) hb2.out ?_
   refine sk ?_
   refine wk ?_
   exact ak h.out
 · rw [if_pos h0] at h
   replace h:=hid h
   clear hp hr
   refine sk ?_
   refine wk ?_
   exact ak h.out
end Go.Proofs.YtdhjplmjpjfjnaaGreat.Av
