/- Joined texts of the walk, made small by a program. -/
import Derived.Test.YtgpnbkdcdmfgcaaGreatXD2
import Derived.Test.YtgpnbkdcdmfgcaaGreatXR1
import Derived.Test.YtgpnbkdcdmfgcaaGreatXP5
import Derived.Test.YtgpnbkdcdmfgcaaGreatXO1
import Derived.Sort.Walk0
set_option linter.unusedSimpArgs false
set_option linter.unusedVariables false
namespace Go.Proofs.YtgpnbkdcdmfgcaaGreat.Av
open Go
set_option maxHeartbeats 8000000
set_option maxRecDepth 100000
theorem AL (sep x:List UInt8):∀ xs:List (List UInt8),Lib.join (xs++[x]) sep=if xs=[] then x else Lib.join xs sep++sep++x
 | []=>by simp [Lib.join,List.intercalate]
 | [y]=>by simp [Lib.join,List.intercalate]
 | y::z::l=>by
   have ih:=AL sep x (z::l)
   rw [if_neg (by simp)] at ih ⊢
   have e1:Lib.join (y::z::l++[x]) sep=y++(sep++Lib.join (z::l++[x]) sep):=by simp [Lib.join,List.intercalate]
   have e2:Lib.join (y::z::l) sep=y++(sep++Lib.join (z::l) sep):=by simp [Lib.join,List.intercalate]
   rw [e1,ih,e2];simp
theorem Hi {d:List Rdn} {cap:Option Nat} (hn:d.length≤1000) (hr:∀ r∈d,r.length≤1000∧∀ a∈r,a.1.length≤10000∧a.2.length≤10000) {L:List Blk} {K:AV→List Blk→Prop} (h:K (.str (fp false d)) L) :
   ad Tryz.prog 47 [.sl (d.map aH) d.length cap] L K:=by
 replace h:=hid h
 have hat:=hid (fun k=>@rt d k)
 replace hr:=hid hr
 refine ac Cf (by simp [nu]) ?_
 simp only [nu,aj]
 refine wk ?_
 refine ak (fun n T' L'=>∃ (i:Nat) (acc:List UInt8) (Z:List Blk),n=d.length - i∧i≤d.length∧acc.length≤i * 50000000∧Hid (acc=Lib.join ((d.take i).map (eu false)) [44])∧T'=[(10,.int .i64 (i:Int)),(9,.int .i64 d.length),(8,.sl (d.map aH) d.length cap),(3,.str acc)]∧L'=L++Z) (CutS (b:=by simp)) ⟨0,[],[],rfl,Nat.zero_le _,by simp,hid (by simp [Lib.join]),rfl,by simp⟩ ?_
 rintro _ _ _ ⟨i,acc,X,rfl,hi,hal,hacc,rfl,rfl⟩
 by_cases hlt:i<d.length
 · have g1:(i:Int)<(d.length:Int):=by omega
   have g2:IntKind.i64.wrap ((i:Int)+1)=(i:Int)+1:=ab (by omega) (by omega)
   have e2:=hat.out i hlt
   have hrm:d.getD i []∈d:=by rw [List.getD_eq_getElem?_getD,List.getElem?_eq_getElem hlt];exact List.getElem_mem _
   have hrl:=hr.out _ hrm
   obtain ⟨r,hri⟩:∃ r,d.getD i []=r:=⟨_,rfl⟩
   have htk:d.take (i+1)=d.take i++[r]:=by rw [List.take_succ_eq_append_getElem hlt,← hri];simp [hlt]
   rw [hri] at e2 hrl
   clear hri hrm
   obtain ⟨hrl1,hrl2⟩:=hrl
   replace hrl2:=hid hrl2
   obtain ⟨B,hB⟩:∃ B,(if 0<i then acc++[44] else acc)=B:=⟨_,rfl⟩
   have hBl:B.length≤i * 50000000+1:=by
     rw [← hB];split
     · exact Nat.le_trans (Nat.le_of_eq (by simp)) (Nat.add_le_add_right hal 1)
     · exact Nat.le_trans hal (Nat.le_add_right _ _)
   have hfin:B++eu false r=Lib.join ((d.take (i+1)).map (eu false)) [44]:=by
     rw [htk,List.map_append,List.map_singleton,AL,← hacc.out,← hB]
     by_cases h0:0<i
     · rw [if_pos h0,if_neg]
       intro e
       rcases List.take_eq_nil_iff.1 (List.map_eq_nil_iff.1 e) with e|e
       · omega
       · rw [e] at hlt;simp at hlt
     · have:i=0:=by omega
       subst this
       simp at hal
       simp [hal]
   replace hfin:=hid hfin
   replace hB:=hid hB
   replace htk:=hid htk
   have hb0:(i:Int)≤1000:=by omega
   have hab:((acc.length+1:Nat):Int)≤9223372036854775807:=by omega
   iterate 12 first
     | refine cc ?_
     | (first|refine bs (by kernel_rfl) ?_|refine aT (by kernel_rfl) ?_|refine aU ?_|refine dw ?_|refine bY (fun _=>?_)|refine aF ?_|refine bv ?_)
       simp (config:={ maxSteps:=2000000 }) only [Kon,push_cast,reduceIte,Nat.reduceEqDiff,Nat.reduceAdd,Nat.reduceMul,Nat.reduceSub,Nat.reduceLT,Nat.reduceLeDiff,Int.reduceLT,Int.reduceLE,Int.reduceAdd,Int.reduceSub,Int.reduceNeg,Int.reduceToNat,Int.reduceEq,reduceCtorEq, *]
     | (first|refine bo (by kernel_rfl) ?_|refine bt ?_|refine bu ?_|refine ce (aE ?_))
       simp only [push_cast,reduceIte,Nat.reduceEqDiff,Nat.reduceAdd,Nat.reduceMul,Nat.reduceSub,Nat.reduceLT,Nat.reduceLeDiff,Int.reduceLT,Int.reduceLE,Int.reduceAdd,Int.reduceSub,Int.reduceNeg,Int.reduceToNat,Int.reduceEq,reduceCtorEq, *]
     | exact bZ
     | first|apply b9|apply bp|apply ca|apply bq|apply cb|apply br
     | refine aX ?_
     | first|refine aV rfl ?_|refine aW rfl ?_|refine aA rfl ?_ ?_|refine ba rfl (fun _=>?_) (fun _=>?_)|refine a8 rfl (fun _=>?_) (fun _=>?_)
     | ((first|refine ay (fun _=>?_) (fun _=>?_)|refine aC (fun _=>?_) (fun _=>?_))<;>try simp (config:={ maxSteps:=2000000 }) only [Kon,push_cast,reduceIte,Nat.reduceEqDiff,Nat.reduceAdd,Nat.reduceMul,Nat.reduceSub,Nat.reduceLT,Nat.reduceLeDiff,Int.reduceLT,Int.reduceLE,Int.reduceAdd,Int.reduceSub,Int.reduceNeg,Int.reduceToNat,Int.reduceEq,reduceCtorEq, *])
     | refine And.intro trivial ?_
     | refine And.intro (by omega) ?_
     | refine aY rfl (fun _=>?_) (fun _=>?_)
     | refine And.intro ?_ ?_
   refine nH (fun T2 L2=>T2=[(3,.str B),(5,aH r),(10,.int .i64 (i:Int)),(9,.int .i64 d.length),(8,.sl (d.map aH) d.length cap)]∧L2=L++X) ?_ ?_
   · by_cases h0:0<i
     · have k0:(0:Int)<(i:Int):=by omega
       have hB':=hB.out
       rw [if_pos h0] at hB'
       subst hB'
       clear h0
       refine wk ?_
       exact eO _ _ (CutL (b:=by simp)) ⟨rfl,rfl⟩
     · have k0:¬ (0:Int)<(i:Int):=by omega
       have hB':=hB.out
       rw [if_neg h0] at hB'
       subst hB'
       clear h0
       refine wk ?_
       exact eO _ _ (CutL (b:=by simp)) ⟨rfl,rfl⟩
   rintro _ _ ⟨rfl,rfl⟩ -
   refine wk ?_
   refine ak (fun n T' L'=>∃ (k:Nat) (acc2:List UInt8) (Z:List Blk),n=r.length - k∧k≤r.length∧acc2.length≤i * 50000000+1+k * 40002∧X.length≤Z.length∧Hid (acc2=B++Lib.join ((r.take k).map (avT false)) [43])∧T'=[(21,.int .i64 (k:Int)),(20,.int .i64 r.length),(19,aH r),(10,.int .i64 (i:Int)),(9,.int .i64 d.length),(8,.sl (d.map aH) d.length cap),(3,.str acc2)]∧L'=L++Z) (CutS (b:=by simp)) ⟨0,B,X,rfl,Nat.zero_le _,by omega,Nat.le_refl _,hid (by simp [Lib.join]),rfl,rfl⟩ ?_
   rintro _ _ _ ⟨k,acc2,Z,rfl,hk,hal2,hXZ,hacc2,rfl,rfl⟩
   replace hXZ:=hid hXZ
   by_cases hkl:k<r.length
   · have g3:(k:Int)<(r.length:Int):=by omega
     have g4:IntKind.i64.wrap ((k:Int)+1)=(k:Int)+1:=ab (by omega) (by omega)
     have e3:=eM hkl
     have e4:k * 2+2≤(a7 r).length:=by rw [dp];omega
     obtain ⟨⟨ty,va⟩,ha⟩:∃ a,r.getD k ([],[])=a:=⟨_,rfl⟩
     have ham:(ty,va)∈r:=by rw [← ha];simp [hkl]
     have htk2:r.take (k+1)=r.take k++[(ty,va)]:=by rw [List.take_succ_eq_append_getElem hkl,← ha];simp [hkl]
     rw [ha] at e3
     simp only [rp] at e3
     have hva:=hrl2.out _ ham
     simp only at hva
     have hva':va.length≤100000:=by omega
     have hwl:=yw va.length va 0
     obtain ⟨wv,hwv⟩:∃ wv,ft va=wv:=⟨_,rfl⟩
     have hwl2:wv.length≤30000:=by rw [← hwv];unfold ft;omega
     have hty:=hva.1
     obtain ⟨B2,hB2⟩:∃ B2,(if 0<k then acc2++[43] else acc2)=B2:=⟨_,rfl⟩
     have hB2l:B2.length≤i * 50000000+1+k * 40002+1:=by
       rw [← hB2];split
       · exact Nat.le_trans (Nat.le_of_eq (by simp)) (Nat.add_le_add_right hal2 1)
       · exact Nat.le_trans hal2 (Nat.le_add_right _ _)
     have hnew:B2++ty++[61]++wv=B++Lib.join ((r.take (k+1)).map (avT false)) [43]:=by
       rw [htk2,List.map_append,List.map_singleton,AL,← hB2]
       have e0:avT false (ty,va)=ty++[61]++wv:=by simp [avT,hwv]
       by_cases h0:0<k
       · rw [if_pos h0,if_neg,hacc2.out,e0]
         · simp
         · intro e
           rcases List.take_eq_nil_iff.1 (List.map_eq_nil_iff.1 e) with e|e
           · omega
           · rw [e] at hkl;simp at hkl
       · have:k=0:=by omega
         subst this
         have:=hacc2.out
         simp only [List.take_zero,List.map_nil] at this
         rw [if_neg (by omega),this,e0];simp [Lib.join]
     replace hnew:=hid hnew
     have hBn:(B2++ty++[61]++wv).length=B2.length+ty.length+1+wv.length:=by simp only [List.length_append,List.length_cons,List.length_nil]
     have hBn2:(B2++ty++[61]++wv).length≤i * 50000000+1+(k+1) * 40002:=by rw [hBn];omega
     replace hB2:=hid hB2
     clear hwl ha ham hva htk2
     have hkb:k<1000:=by omega
     have b0:((acc2.length+1:Nat):Int)≤9223372036854775807:=by omega
     have b1:((B2.length+ty.length:Nat):Int)≤9223372036854775807:=by omega
     have b2:((B2.length+ty.length+1:Nat):Int)≤9223372036854775807:=by omega
     have b3:((B2.length+ty.length+1+wv.length:Nat):Int)≤9223372036854775807:=by omega
     simp only [Int.natCast_add,Int.cast_ofNat_Int] at b0 b1 b2 b3
     iterate 12 first
       | refine cc ?_
       | (first|refine bs (by kernel_rfl) ?_|refine aT (by kernel_rfl) ?_|refine aU ?_|refine dw ?_|refine bY (fun _=>?_)|refine aF ?_|refine bv ?_)
         simp (config:={ maxSteps:=2000000 }) only [Kon,push_cast,reduceIte,Nat.reduceEqDiff,Nat.reduceAdd,Nat.reduceMul,Nat.reduceSub,Nat.reduceLT,Nat.reduceLeDiff,Int.reduceLT,Int.reduceLE,Int.reduceAdd,Int.reduceSub,Int.reduceNeg,Int.reduceToNat,Int.reduceEq,reduceCtorEq, *]
       | (first|refine bo (by kernel_rfl) ?_|refine bt ?_|refine bu ?_|refine ce (aE ?_))
         simp only [push_cast,reduceIte,Nat.reduceEqDiff,Nat.reduceAdd,Nat.reduceMul,Nat.reduceSub,Nat.reduceLT,Nat.reduceLeDiff,Int.reduceLT,Int.reduceLE,Int.reduceAdd,Int.reduceSub,Int.reduceNeg,Int.reduceToNat,Int.reduceEq,reduceCtorEq, *]
       | exact bZ
       | first|apply b9|apply bp|apply ca|apply bq|apply cb|apply br
       | refine aX ?_
       | first|refine aV rfl ?_|refine aW rfl ?_|refine aA rfl ?_ ?_|refine ba rfl (fun _=>?_) (fun _=>?_)|refine a8 rfl (fun _=>?_) (fun _=>?_)
       | ((first|refine ay (fun _=>?_) (fun _=>?_)|refine aC (fun _=>?_) (fun _=>?_))<;>try simp (config:={ maxSteps:=2000000 }) only [Kon,push_cast,reduceIte,Nat.reduceEqDiff,Nat.reduceAdd,Nat.reduceMul,Nat.reduceSub,Nat.reduceLT,Nat.reduceLeDiff,Int.reduceLT,Int.reduceLE,Int.reduceAdd,Int.reduceSub,Int.reduceNeg,Int.reduceToNat,Int.reduceEq,reduceCtorEq, *])
       | refine And.intro trivial ?_
       | refine And.intro (by omega) ?_
       | refine aY rfl (fun _=>?_) (fun _=>?_)
       | refine And.intro ?_ ?_
     refine nH (fun T2 L2=>T2=[(3,.str B2),(7,.ptr (L.length+Z.length) 0),(21,.int .i64 (k:Int)),(20,.int .i64 r.length),(19,aH r),(10,.int .i64 (i:Int)),(9,.int .i64 d.length),(8,.sl (d.map aH) d.length cap)]∧L2=L++(Z++[.cells [.str ty,.str va]])) ?_ ?_
     · by_cases h0:0<k
       · have k0:(0:Int)<(k:Int):=by omega
         have hB':=hB2.out
         rw [if_pos h0] at hB'
         subst hB'
         clear h0
         refine wk ?_
         exact eO _ _ (CutL (b:=by simp)) ⟨rfl,rfl⟩
       · have k0:¬ (0:Int)<(k:Int):=by omega
         have hB':=hB2.out
         rw [if_neg h0] at hB'
         subst hB'
         clear h0
         refine wk ?_
         exact eO _ _ (CutL (b:=by simp)) ⟨rfl,rfl⟩
     rintro _ _ ⟨rfl,rfl⟩ -
     have kk1:=@hid _ (fun L K=>Gg hva' (L:=L) (K:=K))
     refine wk ?_
     exact an _ _ _ (by omega) (CutL (b:=by have:=hXZ.out;simp;omega)) ⟨k+1,B2++ty++[61]++wv,_,rfl,hkl,hBn2,by have:=hXZ.out;simp;omega,hnew,rfl,rfl⟩
   · have hke:k=r.length:=by omega
     subst hke
     have g3:¬ (r.length:Int)<(r.length:Int):=by omega
     have hfl:acc2.length≤(i+1) * 50000000:=by
       rw [Nat.succ_mul]
       clear hal hBl hab
       generalize i * 50000000=M at hal2 ⊢
       omega
     have e:=hacc2.out
     rw [List.take_length,show Lib.join (r.map (avT false)) [43]=eu false r by simp [eu],hfin.out] at e
     replace e:=hid e
     refine wk ?_
     exact an _ _ _ (by omega) (CutL (b:=by simp)) ⟨i+1,acc2,_,rfl,hlt,hfl,e,rfl,rfl⟩
 · have hke:i=d.length:=by omega
   subst hke
   have g1:¬ (d.length:Int)<(d.length:Int):=by omega
   have e:=hacc.out
   rw [List.take_length] at e
   have h':=h.out
   simp only [fp] at h'
   rw [← e] at h'
   replace h':=hid h'
   clear hacc e
   refine wk ?_
   exact aa rfl h'.out
set_option maxHeartbeats 8000000
set_option maxRecDepth 100000
def yE (r:Rdn):Nat:=(r.map fun a=>min a.2.length 5000).sum
def B7 (d:List Rdn):Nat:=(d.map yE).sum
theorem IP (n:Nat):∀ (s:List UInt8) (i:Nat),s.length≤(wrL n i s).length
 | [],_=>by simp
 | c::s,i=>by
   have h1:=IP n s (i+1)
   have h2:1≤(wrB i n c).length:=by
     unfold wrB;split
     · simp
     · split<;>simp
   simp only [wrL,List.length_append,List.length_cons];omega
theorem EH (sep:List UInt8):∀ xs:List (List UInt8),(xs.map List.length).sum≤(Lib.join xs sep).length
 | []=>by simp [Lib.join]
 | [x]=>by simp [Lib.join,List.intercalate]
 | x::y::l=>by
   have h1:=EH sep (y::l)
   have e:Lib.join (x::y::l) sep=x++(sep++Lib.join (y::l) sep):=by simp [Lib.join,List.intercalate]
   rw [e]
   simp only [List.map_cons,List.sum_cons,List.length_append] at h1 ⊢
   omega
theorem KG (r:Rdn):yE r≤(eu false r).length:=by
 have h1:yE r≤((r.map (avT false)).map List.length).sum:=by
   induction r with
   | nil=>simp [yE]
   | cons a r ih =>
     have h2:=IP a.2.length a.2 0
     have h3:min a.2.length 5000≤(avT false a).length:=by
       simp only [avT,Bool.false_eq_true,if_false,List.length_append,ft];omega
     simp only [yE,List.map_cons,List.sum_cons] at ih ⊢
     omega
 have h2:=EH [43] (r.map (avT false))
 simp only [eu,Bool.false_eq_true,if_false]
 omega
theorem Kp (d:List Rdn):B7 d≤(fp false d).length:=by
 have h1:B7 d≤((d.map (eu false)).map List.length).sum:=by
   induction d with
   | nil=>simp [B7]
   | cons a r ih =>
     have h2:=KG a
     simp only [B7,List.map_cons,List.sum_cons] at ih ⊢
     omega
 have h2:=EH [44] (d.map (eu false))
 simp only [fp]
 omega
theorem ED:∀ {l:List Nat} {x:Nat},x∈l→x≤l.sum
 | [],_,h=>by cases h
 | y::l,x,h=>by
   rw [List.sum_cons]
   rcases List.mem_cons.1 h with rfl|h
   · omega
   · have:=ED h;omega
theorem I6 {d:List Rdn} (h:B7 d≤4096):∀ r∈d,∀ a∈r,a.2.length≤4096:=fun r hr a ha=>by
 have h1:yE r≤B7 d:=by
   unfold B7
   exact ED (List.mem_map_of_mem hr)
 have h2:min a.2.length 5000≤yE r:=by
   unfold yE
   exact ED (List.mem_map_of_mem (f:=fun a:Ava=>min a.2.length 5000) ha)
 omega
theorem Jv {d:List Rdn} (h:∀ r∈d,∀ a∈r,a.2.length≤4096):Ao d=false:=by
 unfold Ao uQ
 rw [List.any_eq_false]
 intro r hr
 simp only [Bool.not_eq_true,List.any_eq_false,decide_eq_true_eq]
 intro a ha
 have:=h r hr a ha
 omega
theorem KI {r:Rdn} {typ:List UInt8} {n:Nat} {cap:Option Nat} (hr:r.length=n) (hn:n≤8) (h1:∀ a∈r,a.1.length≤32) (h2:typ.length≤32) {L:List Blk} {K:AV→List Blk→Prop} (h:K (.bool (gP r typ)) L) :
   ad Tryz.prog 46 [.sl (a7 r) n cap,.str typ] L K:=by
 subst hr
 exact Jd (by omega) (fun a ha=>by have:=h1 a ha;omega) (by omega) h
theorem DW {d:List Rdn} {cap:Option Nat} (hn:d.length≤1100000) (hr:∀ r∈d,r.length≤1100000∧∀ a∈r,(a.1.length:Int)≤140737488351232) {L:List Blk} {K:AV→List Blk→Prop} (h:K (DE (prS d)) L):ad Tryz.prog 27 [.sl (d.map aH) d.length cap] L K:=by
 obtain ⟨R,hR⟩:∃ R,prS d=R:=⟨_,rfl⟩
 rw [hR] at h
 replace h:=hid h
 have hat:=hid (fun k=>@rt d k)
 replace hr:=hid hr
 have hbad:iN 0 d≠0→R=([],iN 0 d):=fun e=>by rw [← hR,prS,if_pos e]
 replace hbad:=hid hbad
 replace hR:=hid hR
 refine ac AS (by simp [jY]) ?_
 simp only [jY,aj]
 refine wk ?_
 refine ak (fun n T' L'=>∃ (i:Nat) (c:Int) (X:List Blk),n=d.length - i∧i≤d.length∧i≤32∧Hid (c=(B7 (d.take i):Nat)∧c≤40000 * i)∧Hid (iN i (d.drop i)=iN 0 d)∧T'=[(11,.int .i64 (i:Int)),(10,.int .i64 d.length),(9,.sl (d.map aH) d.length cap),(4,.int .i64 c),(0,.sl (d.map aH) d.length cap)]∧L'=L++X) (CutS (b:=by simp)) ⟨0,0,[],rfl,Nat.zero_le _,by omega,hid ⟨rfl,by omega⟩,hid rfl,rfl,by simp⟩ ?_
 rintro _ _ _ ⟨i,c,X,rfl,hi,hi32,hc,he,rfl,rfl⟩
 by_cases hlt:i<d.length
 · have g1:(i:Int)<(d.length:Int):=by omega
   have g2:IntKind.i64.wrap ((i:Int)+1)=(i:Int)+1:=ab (by omega) (by omega)
   have e2:=hat.out i hlt
   have hrm:d.getD i []∈d:=by rw [List.getD_eq_getElem?_getD,List.getElem?_eq_getElem hlt];exact List.getElem_mem _
   obtain ⟨hrl,hrt⟩:=hr.out (d.getD i []) hrm
   obtain ⟨r,hri⟩:∃ r,d.getD i []=r:=⟨_,rfl⟩
   have hdr:d.drop i=r::d.drop (i+1):=by rw [List.drop_eq_getElem_cons hlt,← hri];simp [hlt]
   have hdt:d.take (i+1)=d.take i++[r]:=by rw [List.take_succ_eq_append_getElem hlt,← hri];simp [hlt]
   rw [hri] at e2 hrl hrt
   have he2:=he.out
   rw [hdr,iN] at he2
   clear hdr hri hrm
   replace hrt:=hid hrt
   replace hdt:=hid hdt
   by_cases h32:i=32
   · rw [if_pos h32] at he2
     have h':=h.out
     rw [hbad.out (by rw [← he2];decide),← he2] at h'
     replace h':=hid h'
     have k1:(i:Int)=32:=by omega
     have g1':(32:Int)<(d.length:Int):=by omega
     clear h32 he2
     refine wk ?_
     exact aa rfl h'.out
   rw [if_neg h32] at he2
   have k1:¬ (i:Int)=32:=by omega
   by_cases hr0:r=[]
   · rw [if_pos hr0] at he2
     subst hr0
     have h':=h.out
     rw [hbad.out (by rw [← he2];decide),← he2] at h'
     replace h':=hid h'
     clear h32 he2
     refine wk ?_
     exact aa rfl h'.out
   rw [if_neg hr0] at he2
   have k2:¬ (r.length:Int)=0:=by have:=List.length_pos_iff.2 hr0;omega
   have herr:∀ e:Int,du [] r=e→e≠0→K (.tup [.str [],.int .i64 e]) L:=fun e a1 a2=>by
     rw [if_pos (by rw [a1];exact a2),a1] at he2
     have h':=h.out
     rwa [hbad.out (by rw [← he2];exact a2),← he2] at h'
   replace herr:=hid herr
   replace he2:=hid he2
   clear h32
   refine wk ?_
   refine ak (fun n T' L'=>∃ (k:Nat) (c':Int) (Y:List Blk),n=r.length - k∧k≤r.length∧k≤8∧Hid (c'=c+(yE (r.take k):Nat)∧0≤c'∧c'≤40000 * i+5000 * k)∧Hid (du (r.take k) (r.drop k)=du [] r∧∀ a∈r.take k,a.1.length≤32)∧T'=[(23,.int .i64 (k:Int)),(22,.int .i64 r.length),(21,aH r),(6,aH r),(11,.int .i64 (i:Int)),(10,.int .i64 d.length),(9,.sl (d.map aH) d.length cap),(4,.int .i64 c'),(0,.sl (d.map aH) d.length cap)]∧L'=L++(X++Y)) (CutS (b:=by simp)) ⟨0,c,[],rfl,Nat.zero_le _,by omega,hid ⟨by simp [yE],by have:=hc.out;omega,by have:=hc.out;omega⟩,hid ⟨rfl,by simp⟩,rfl,by simp⟩ ?_
   rintro _ _ _ ⟨k,c',Y,rfl,hk,hk8,hc',hrow,rfl,rfl⟩
   by_cases hkl:k<r.length
   · have g3:(k:Int)<(r.length:Int):=by omega
     have g4:IntKind.i64.wrap ((k:Int)+1)=(k:Int)+1:=ab (by omega) (by omega)
     have e3:=eM hkl
     have e4:k * 2+2≤(a7 r).length:=by rw [dp];omega
     obtain ⟨⟨ty,va⟩,ha⟩:∃ a,r.getD k ([],[])=a:=⟨_,rfl⟩
     have ham:(ty,va)∈r:=by rw [← ha];simp [hkl]
     have hdk:r.drop k=(ty,va)::r.drop (k+1):=by rw [List.drop_eq_getElem_cons hkl,← ha];simp [hkl]
     have htk:r.take (k+1)=r.take k++[(ty,va)]:=by rw [List.take_succ_eq_append_getElem hkl,← ha];simp [hkl]
     rw [ha] at e3
     simp only [rp] at e3
     have hty1:=hrt.out _ ham
     simp only at hty1
     obtain ⟨hr1,hr2⟩:=hrow.out
     rw [hdk,du] at hr1
     have hlk:(r.take k).length=k:=by simp;omega
     rw [hlk] at hr1
     clear hdk ha hrow ham
     have e5:(a7 r).take (k * 2)=a7 (r.take k):=El
     have g5:(k:Int)≤(r.length:Int):=by omega
     replace hr1:=hid hr1
     replace hr2:=hid hr2
     replace htk:=hid htk
     have e6:=hid hlk
     clear hlk
     repeat' first
       | refine cc ?_
       | (first|refine bs (by kernel_rfl) ?_|refine aT (by kernel_rfl) ?_|refine aU ?_|refine dw ?_|refine bY (fun _=>?_)|refine aF ?_|refine bv ?_)
         refine sm ?_
       | (first|refine bo (by kernel_rfl) ?_|refine bt ?_|refine bu ?_|refine ce (aE ?_))
         refine sl ?_
       | exact bZ
       | first|apply b9|apply bp|apply ca|apply bq|apply cb|apply br
       | refine aX ?_
       | first|refine aV rfl ?_|refine aW rfl ?_|refine aA rfl ?_ ?_|refine ba rfl (fun _=>?_) (fun _=>?_)|refine a8 rfl (fun _=>?_) (fun _=>?_)
       | ((first|refine ay (fun _=>?_) (fun _=>?_)|refine aC (fun _=>?_) (fun _=>?_))<;>try refine sm ?_)
       | refine And.intro trivial ?_
       | refine And.intro (by omega) ?_
       | refine aY rfl (fun _=>?_) (fun _=>?_)
       | refine And.intro ?_ ?_
     · rename_i h8
       have h':=hid (herr.out 9 (by rw [← hr1.out,if_pos (by omega)]) (by decide))
       exact aa rfl h'.out
     · rename_i h8
       have hr3:=hr1.out
       rw [if_neg (by omega)] at hr3
       replace hr3:=hid hr3
       refine Fe hty1 ?_
       cases hty:gl ty with
       | false =>
         have h':=hid (herr.out 20 (by rw [← hr3.out,if_pos hty]) (by decide))
         clear hr3
         refine sk ?_
         refine wk ?_
         exact aa rfl h'.out
       | true =>
         have hr4:=hr3.out
         rw [if_neg (by rw [hty];simp)] at hr4
         replace hr4:=hid hr4
         have htl:=kc hty
         clear hr3
         refine sk ?_
         repeat' first
           | refine cc ?_
           | (first|refine bs (by kernel_rfl) ?_|refine aT (by kernel_rfl) ?_|refine aU ?_|refine dw ?_|refine bY (fun _=>?_)|refine aF ?_|refine bv ?_)
             refine sm ?_
           | (first|refine bo (by kernel_rfl) ?_|refine bt ?_|refine bu ?_|refine ce (aE ?_))
             refine sl ?_
           | exact bZ
           | first|apply b9|apply bp|apply ca|apply bq|apply cb|apply br
           | refine aX ?_
           | first|refine aV rfl ?_|refine aW rfl ?_|refine aA rfl ?_ ?_|refine ba rfl (fun _=>?_) (fun _=>?_)|refine a8 rfl (fun _=>?_) (fun _=>?_)
           | ((first|refine ay (fun _=>?_) (fun _=>?_)|refine aC (fun _=>?_) (fun _=>?_))<;>try refine sm ?_)
           | refine And.intro trivial ?_
           | refine And.intro (by omega) ?_
           | refine aY rfl (fun _=>?_) (fun _=>?_)
           | refine And.intro ?_ ?_
         refine aD (KI e6.out (by omega) hr2.out htl ⟨rfl,rfl⟩) ?_
         cases hha:gP (r.take k) ty with
         | true =>
           have h':=hid (herr.out 21 (by rw [← hr4.out,if_pos hha]) (by decide))
           refine sk ?_
           refine wk ?_
           exact aa rfl h'.out
         | false =>
           have hr5:=hr4.out
           rw [if_neg (by rw [hha];simp),← htk.out] at hr5
           replace hr5:=hid hr5
           clear hr4
           obtain ⟨z,hz⟩:∃ z:Int,(if (5000:Int)<(va.length:Int) then 5000 else (va.length:Int))=z:=⟨_,rfl⟩
           have hz2:z=((min va.length 5000:Nat):Int):=by rw [← hz];split<;>omega
           have hzw:IntKind.i64.wrap (c'+z)=c'+z:=by
             have:=hc'.out
             exact ab (by omega) (by omega)
           replace hz2:=hid hz2
           refine sk ?_
           refine wk ?_
           refine an _ _ _ (by omega) (CutL (b:=by simp)) ⟨k+1,c'+z,Y++[.cells [.str ty,.str va]],rfl,hkl,by omega,hid ?_,hid ⟨hr5.out,fun a ha=>?_⟩,rfl,by simp⟩
           · have:=hc'.out
             have e:yE (r.take (k+1))=yE (r.take k)+min va.length 5000:=by rw [htk.out];simp [yE]
             have:=hz2.out
             omega
           rw [htk.out] at ha
           rcases List.mem_append.1 ha with h|h
           · exact hr2.out a h
           · rw [List.mem_singleton.1 h];exact htl
   · have hke:k=r.length:=by omega
     subst hke
     have g3:¬ (r.length:Int)<(r.length:Int):=by omega
     have hz:=hrow.out.1
     rw [List.drop_length,du] at hz
     have he3:=he2.out
     rw [← hz] at he3
     simp only [ne_eq,not_true_eq_false,if_false] at he3
     replace he3:=hid he3
     have hcn:=hc'.out
     rw [List.take_length] at hcn
     replace hcn:=hid hcn
     clear hz
     refine wk ?_
     refine an _ _ _ (by omega) (CutS (b:=by simp)) ⟨i+1,c',X++Y,rfl,hlt,by omega,hid ?_,hid he3.out,rfl,rfl⟩
     have e:B7 (d.take (i+1))=B7 (d.take i)+yE r:=by rw [hdt.out];simp [B7]
     have:=hcn.out
     have:=hc.out
     omega
 · have hke:i=d.length:=by omega
   subst hke
   have g1:¬ (d.length:Int)<(d.length:Int):=by omega
   have hch:=he.out
   rw [List.drop_length,iN] at hch
   have hcc:=hc.out.1
   rw [List.take_length] at hcc
   have hR':=hR.out
   rw [prS,if_neg (by rw [← hch];simp)] at hR'
   have hge:=Kp d
   by_cases hbig:4096<B7 d
   · have k1:(4096:Int)<c:=by omega
     have h':=h.out
     rw [← hR'] at h'
     have e:(if Ao d=true then (([]:List UInt8),(5:Int)) else if 4096<(fp false d).length then ([],5) else (fp false d,0))=([],5):=by
       split
       · rfl
       · rw [if_pos (by omega)]
     rw [e] at h'
     replace h':=hid h'
     clear hbig hge hcc e hR' hch
     refine wk ?_
     exact aa rfl h'.out
   · have k1:¬ (4096:Int)<c:=by omega
     have hlo:=I6 (d:=d) (by omega)
     obtain ⟨hd32,hd8⟩:=Cv d 0 hch.symm (by omega)
     rw [Jv hlo,if_neg (by simp)] at hR'
     replace hlo:=hid hlo
     replace hd8:=hid hd8
     have hbn:=hid (show ∀ r∈d,r.length≤1000∧∀ a∈r,a.1.length≤10000∧a.2.length≤10000 from fun r hr=>⟨by have:=(hd8.out r hr).1;omega,fun a ha=>⟨by have:=(hd8.out r hr).2 a ha;omega,by have:=hlo.out r hr a ha;omega⟩⟩)
     by_cases hlg:4096<(fp false d).length
     · have k2:(4096:Int)<((fp false d).length:Int):=by omega
       have h':=h.out
       rw [← hR',if_pos hlg] at h'
       replace h':=hid h'
       clear hbig hge hcc hR' hch hlg
       have kk1:=@hid _ (fun L K=>Hi (cap:=cap) (by omega) hbn.out (L:=L) (K:=K))
       refine wk ?_
       exact aa rfl h'.out
     · have k2:¬ (4096:Int)<((fp false d).length:Int):=by omega
       have h':=h.out
       rw [← hR',if_neg hlg] at h'
       replace h':=hid h'
       clear hbig hge hcc hR' hch hlg
       have kk1:=@hid _ (fun L K=>Hi (cap:=cap) (by omega) hbn.out (L:=L) (K:=K))
       refine wk ?_
       exact aa rfl h'.out
set_option maxHeartbeats 8000000
set_option maxRecDepth 100000
theorem CT:∀ (f:Nat) (out:List Rdn) (now:Rdn) (s:List UInt8),(∀ a∈now,a.1.length≤32)→(∀ r∈out,∀ a∈r,a.1.length≤32)→∀ r∈(iM f out now s).1,∀ a∈r,a.1.length≤32
 | 0,_,_,_,_,_=>by simp [iM]
 | f+1,out,now,s,h1,h2=>by
   rw [iM]
   split
   · simp
   split
   · simp
   split
   · simp
   rename_i hty
   have hty':=kc (by simpa using hty)
   have hrow:∀ v,∀ a∈now++[(_,v)],a.1.length≤32:=fun v a ha=>by
     rcases List.mem_append.1 ha with h|h
     · exact h1 a h
     · rw [List.mem_singleton.1 h];exact hty'
   have hout:∀ v,∀ r∈out++[now++[(_,v)]],∀ a∈r,a.1.length≤32:=fun v r hr=>by
     rcases List.mem_append.1 hr with h|h
     · exact h2 r h
     · rw [List.mem_singleton.1 h];exact hrow v
   split
   · simp
   split
   · simp
   split
   · simp
   split
   · exact hout _
   split
   · exact CT f _ _ _ (by simp) (hout _)
   · exact CT f _ _ _ (hrow _) h2
theorem CS (s:List UInt8):∀ r∈(c8 s).1,∀ a∈r,a.1.length≤32:=by
 unfold c8
 split
 · simp
 split
 · simp
 · exact CT _ _ _ _ (by simp) (by simp)
end Go.Proofs.YtgpnbkdcdmfgcaaGreat.Av
