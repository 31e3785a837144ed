/- Joined texts of the walk, made small by a program. -/
import Derived.Test.YtkkgmgmgcgiffaaGreatDoorUP4
import Derived.Test.YtkkgmgmgcgiffaaGreatDoorRows
import Derived.KernelRfl
import Derived.Test.YtkkgmgmgcgiffaaGreatDoorUE4
import Derived.Test.YtkkgmgmgcgiffaaGreatDoorUE5
import Derived.Test.YtkkgmgmgcgiffaaGreatDoorUP5
set_option linter.unusedSimpArgs false
set_option linter.unusedVariables false
set_option maxRecDepth 100000
namespace Go.Proofs.YtkkgmgmgcgiffaaGreatDoor.Av
open Go
def wl:List an :=
 [⟨(some 1),(.box (tm 0)),none⟩,⟨(some 2),(.mv (.av (.bool false))),none⟩]
def wj:List an :=
 [⟨(some 3),(.faddr 0 (tm 1)),none⟩,⟨(some 4),(.load false 1 (tm 3)),none⟩,⟨(some 5),(.len false (tm 4)),none⟩,⟨(some 6),(.bin .leq (tm 5) (iv 128)),none⟩,
 ⟨(some 7),(.mv (tm 6)),none⟩,⟨(some 8),(.faddr 1 (tm 1)),(some (7,true))⟩,⟨(some 9),(.load false 1 (tm 8)),(some (7,true))⟩,⟨(some 10),(.len false (tm 9)),(some (7,true))⟩,
 ⟨(some 11),(.bin .leq (tm 10) (iv 40)),(some (7,true))⟩,⟨(some 12),(.pick (tm 7) (tm 11) (.av (.bool false))),none⟩,⟨(some 13),(.mv (tm 12)),none⟩,
 ⟨(some 14),(.load true 2 (tm 1)),(some (13,true))⟩,⟨(some 15),(.call 73 [(tm 14)]),(some (13,true))⟩,⟨(some 16),(.bin .eql (tm 15) (iv 0)),(some (13,true))⟩,
 ⟨(some 17),(.pick (tm 13) (tm 16) (.av (.bool false))),none⟩,⟨(some 2),(.mv (tm 17)),none⟩]
def mS:aW:=⟨18,(.seq (.region wl)
 (.seq (.region wj)
 .ret)),[(.tmp 2)]⟩
attribute [push_cast] wl wj
theorem Ki:bb Tryz.prog (fun _ _=>1) 30=some mS.raw:=by kernel_rfl
variable {L:List Blk} {K:AV→List Blk→Prop}
set_option maxHeartbeats 8000000
set_option maxRecDepth 100000
def atN:List (List UInt8)→List UInt8→Nat→Int
 | [],_,_=>-1
 | a::l,n,i=>if ah a=ah n then (i:Int) else atN l n (i+1)
theorem O2 {n:List UInt8}:∀ {l:List (List UInt8)} {i:Nat},atN l n i=-1∨((i:Int)≤atN l n i∧atN l n i<(i:Int)+(l.length:Int))
 | [],i=>.inl rfl
 | a::l,i=>by
   rw [atN]
   split
   · right;simp;omega
   · rcases @O2 n l (i+1) with h|h
     · exact .inl h
     · right;simp only [List.length_cons];omega
theorem Ng {n:List UInt8}:∀ {l:List (List UInt8)} {i:Nat},atN l n i<0→∀ a∈l,ah a≠ah n
 | [],i,_,a,ha=>by cases ha
 | b::l,i,h,a,ha=>by
   rw [atN] at h
   split at h
   · omega
   · rename_i hne
     rcases List.mem_cons.1 ha with rfl|ha
     · exact hne
     · exact Ng h a ha
theorem Qh {ts:List Typ} {cap:Option Nat} {n:List UInt8} (hl:ts.length≤2000000) (hts:∀ t∈ts,bf t.1) (hn:bf n) (h:K (.int .i64 (atN (ts.map (·.1)) n 0)) L) :
   ad Tryz.prog 50 [.sl (bc ts) ts.length cap,.str n] L K:=by
 obtain ⟨R,hR⟩:∃ R,atN (ts.map (·.1)) n 0=R:=⟨_,rfl⟩
 rw [hR] at h
 replace h:=hid h
 replace hR:=hid hR
 refine ae GS (by simp [lp]) ?_
 simp only [lp,ar]
 refine wk ?_
 refine am (fun m T' L'=>∃ k:Nat,m=ts.length - k∧k≤ts.length∧Hid (atN ((ts.drop k).map (·.1)) n k=R)∧T'=[(8,.int .i64 (k:Int)),(7,.int .i64 ts.length),(0,.sl (bc ts) ts.length cap),(1,.str n)]∧L=L') (CutS (b:=Nat.le_refl _)) ⟨0,rfl,Nat.zero_le _,hid (by simpa using hR.out),rfl,rfl⟩ ?_
 rintro _ _ L' ⟨k,rfl,hk,hI,rfl,e⟩
 subst e
 by_cases hlt:k<ts.length
 · have g1:(k:Int)<(ts.length:Int):=by omega
   have g2:IntKind.i64.wrap ((k:Int)+1)=(k:Int)+1:=ac (by omega) (by omega)
   have e4:k * 4<(bc ts).length:=by rw [jw];omega
   have e3:(bc ts).getD (k * 4) .undef=.str (ts.getD k iy).1:=by
     have h3:=congrArg (fun l=>l[0]?) (kz hlt)
     simp only [List.getElem?_take_of_lt (show 0<4 by omega),List.getElem?_drop,Nat.add_zero] at h3
     rw [List.getD_eq_getElem?_getD,h3];rfl
   obtain ⟨ty,hty⟩:∃ ty,ts.getD k iy=ty:=⟨_,rfl⟩
   have hm:bf ty.1:=hts _ (by rw [← hty];simp [hlt])
   have hdr:ts.drop k=ty::ts.drop (k+1):=by rw [List.drop_eq_getElem_cons hlt,← hty];simp [hlt]
   have hI2:=hI.out
   rw [hdr,List.map_cons,atN] at hI2
   rw [hty] at e3
   clear hdr hty hI hR
   by_cases hq:ah ty.1=ah n
   · rw [if_pos hq] at hI2
     have h':=h.out
     rw [← hI2] at h'
     replace h':=hid h'
     clear hI2
     have kk1:=@hid _ (fun L K=>bd hm (L:=L) (K:=K))
     have kk2:=@hid _ (fun L K=>bd hn (L:=L) (K:=K))
     refine wk ?_
     exact aa h'.out
   · rw [if_neg hq] at hI2
     replace hI2:=hid hI2
     have kk1:=@hid _ (fun L K=>bd hm (L:=L) (K:=K))
     have kk2:=@hid _ (fun L K=>bd hn (L:=L) (K:=K))
     refine wk ?_
     exact ak _ _ _ (by omega) (CutL (b:=by simp)) ⟨k+1,rfl,hlt,hI2,rfl,rfl⟩
 · have hke:k=ts.length:=by omega
   subst hke
   have g1:¬ (ts.length:Int)<(ts.length:Int):=by omega
   have hI2:=hI.out
   rw [List.drop_length,List.map_nil,atN] at hI2
   have h':=h.out
   rw [← hI2] at h'
   replace h':=hid h'
   clear hI hI2 hR
   refine wk ?_
   exact aa h'.out
abbrev Cls:=List UInt8×List UInt8×Int×List (List UInt8)×List (List UInt8)
abbrev clC (c:Cls):List AV:=[.str c.1,.str c.2.1,.int .i64 c.2.2.1,mA c.2.2.2.1,mA c.2.2.2.2]
def df (cs:List Cls):List AV:=cs.flatMap clC
theorem MV (cs:List Cls):(df cs).length=cs.length * 5:=by
 induction cs with
 | nil=>rfl
 | cons a l ih=>simp only [df,List.flatMap_cons,List.length_append,clC,List.length_cons,List.length_nil] at ih ⊢;omega
abbrev Nv:Cls:=([],[],0,[],[])
theorem OY:∀ {cs:List Cls} {k:Nat},k<cs.length→((df cs).drop (k * 5)).take 5=clC (cs.getD k Nv)
 | a::l,0,_=>rfl
 | a::l,k+1,h=>by
   have ih:=@OY l k (by simpa using h)
   rw [show (k+1) * 5=k * 5+1+1+1+1+1 by omega]
   simpa [df,clC] using ih
theorem P9 {cs:List Cls} {k:Nat} (hk:k<cs.length) {j:Nat} (hj:j<5):(df cs).getD (k * 5+j) .undef=(clC (cs.getD k Nv)).getD j .undef:=by
 have h3:=congrArg (fun l=>l[j]?) (OY hk)
 simp only [List.getElem?_take_of_lt hj,List.getElem?_drop] at h3
 rw [List.getD_eq_getElem?_getD,h3]
 exact (List.getD_eq_getElem?_getD ..).symm
theorem S1 (cs:List Cls) (i:Nat):(df cs).take (i * 5)=df (cs.take i):=by
 induction cs generalizing i with
 | nil=>simp [df]
 | cons a l ih =>
   rcases i with _|i
   · simp [df]
   · rw [show (i+1) * 5=i * 5+1+1+1+1+1 by omega]
     have:=ih i
     simp only [df,List.flatMap_cons,clC,List.cons_append,List.nil_append,List.take_succ_cons] at this ⊢
     rw [this]
theorem R8 (cs:List Typ) (i:Nat):(bc cs).take (i * 4)=bc (cs.take i):=by
 induction cs generalizing i with
 | nil=>simp [bc]
 | cons a l ih =>
   rcases i with _|i
   · simp [bc]
   · rw [show (i+1) * 4=i * 4+1+1+1+1 by omega]
     have:=ih i
     simp only [bc,List.flatMap_cons,tyC,List.cons_append,List.nil_append,List.take_succ_cons] at this ⊢
     rw [this]
theorem XA {cs:List Cls} {cap:Option Nat} {n:List UInt8} (hl:cs.length≤2000000) (hts:∀ t∈cs,bf t.1) (hn:bf n) (h:K (.int .i64 (atN (cs.map (·.1)) n 0)) L) :
   ad Tryz.prog 109 [.sl (df cs) cs.length cap,.str n] L K:=by
 obtain ⟨R,hR⟩:∃ R,atN (cs.map (·.1)) n 0=R:=⟨_,rfl⟩
 rw [hR] at h
 replace h:=hid h
 replace hR:=hid hR
 refine ae He (by simp [jY]) ?_
 simp only [jY,ar]
 refine wk ?_
 refine am (fun m T' L'=>∃ k:Nat,m=cs.length - k∧k≤cs.length∧Hid (atN ((cs.drop k).map (·.1)) n k=R)∧T'=[(8,.int .i64 (k:Int)),(7,.int .i64 cs.length),(0,.sl (df cs) cs.length cap),(1,.str n)]∧L=L') (CutS (b:=Nat.le_refl _)) ⟨0,rfl,Nat.zero_le _,hid (by simpa using hR.out),rfl,rfl⟩ ?_
 rintro _ _ L' ⟨k,rfl,hk,hI,rfl,e⟩
 subst e
 by_cases hlt:k<cs.length
 · have g1:(k:Int)<(cs.length:Int):=by omega
   have g2:IntKind.i64.wrap ((k:Int)+1)=(k:Int)+1:=ac (by omega) (by omega)
   have e4:k * 5<(df cs).length:=by rw [MV];omega
   have e3:=P9 hlt (j:=0) (by omega)
   obtain ⟨c,hc⟩:∃ c,cs.getD k Nv=c:=⟨_,rfl⟩
   have hm:bf c.1:=hts _ (by rw [← hc];simp [hlt])
   have hdr:cs.drop k=c::cs.drop (k+1):=by rw [List.drop_eq_getElem_cons hlt,← hc];simp [hlt]
   have hI2:=hI.out
   rw [hdr,List.map_cons,atN] at hI2
   rw [hc] at e3
   simp only [Nat.add_zero,clC,List.getD_cons_zero] at e3
   clear hdr hc hI hR
   by_cases hq:ah c.1=ah n
   · rw [if_pos hq] at hI2
     have h':=h.out
     rw [← hI2] at h'
     replace h':=hid h'
     clear hI2
     have kk1:=@hid _ (fun L K=>bd hm (L:=L) (K:=K))
     have kk2:=@hid _ (fun L K=>bd hn (L:=L) (K:=K))
     refine wk ?_
     exact aa h'.out
   · rw [if_neg hq] at hI2
     replace hI2:=hid hI2
     have kk1:=@hid _ (fun L K=>bd hm (L:=L) (K:=K))
     have kk2:=@hid _ (fun L K=>bd hn (L:=L) (K:=K))
     refine wk ?_
     exact ak _ _ _ (by omega) (CutL (b:=by simp)) ⟨k+1,rfl,hlt,hI2,rfl,rfl⟩
 · have hke:k=cs.length:=by omega
   subst hke
   have g1:¬ (cs.length:Int)<(cs.length:Int):=by omega
   have hI2:=hI.out
   rw [List.drop_length,List.map_nil,atN] at hI2
   have h':=h.out
   rw [← hI2] at h'
   replace h':=hid h'
   clear hI hI2 hR
   refine wk ?_
   exact aa h'.out
theorem Va {n:List UInt8}:∀ {l:List (List UInt8)} {i k:Nat},atN l n i=((i+k:Nat):Int)→k<l.length∧ah (l.getD k [])=ah n
 | [],i,k,h=>by rw [atN] at h;omega
 | a::l,i,k,h=>by
   rw [atN] at h
   split at h
   · rename_i e
     obtain rfl:k=0:=by omega
     exact ⟨by simp,by simpa using e⟩
   · rcases k with _|k
     · have:=@O2 n l (i+1)
       rw [h] at this
       omega
     · have:=@Va n l (i+1) k (by rw [h];congr 1;omega)
       exact ⟨by simpa using this.1,by simpa using this.2⟩
def Rq (cs:List Cls) (j:Nat):Prop:=eS (cs.getD j Nv).1=true∧(∀ c∈cs.take j,ah c.1≠ah (cs.getD j Nv).1)∧((cs.getD j Nv).2.1≠[]→∃ w,w<j∧ah (cs.getD w Nv).1=ah (cs.getD j Nv).2.1)
def Rr (cs:List Cls):Prop:=∀ j,j<cs.length→Rq cs j
def O5 (ts:List Typ):Prop:=∀ i,i<ts.length→∀ t∈ts.take i,ah t.1≠ah (ts.getD i iy).1
theorem SU {ts:List Typ} (h:O5 ts):∀ ty∈ts,fJ ts ty.1=some ty:=fun ty hty=>by
 obtain ⟨i,hi,rfl⟩:=List.mem_iff_getElem.1 hty
 have e:ts.getD i iy=ts[i]:=by simp [hi]
 have:=rn (q:=fun t=>decide (ah t.1=ah ts[i].1)) (d:=iy) hi (fun j hj=>?_) (by rw [e];exact decide_eq_true rfl)
 · rw [e] at this;exact this
 · have h1:=h i hi (ts.getD j iy) (by
     rw [List.mem_iff_getElem]
     exact ⟨j,by simp;omega,by simp [show j<ts.length by omega]⟩)
   rw [e] at h1
   exact decide_eq_false h1
theorem TT {ts:List Typ} {cs:List Cls} {capT capC:Option Nat} (hl:ts.length≤2000000) (hlc:cs.length≤2000000) (hts:∀ t∈ts,bf t.1) (hcs:∀ c∈cs,bf c.1∧bf c.2.1∧c.2.2.2.1.length≤2000000∧c.2.2.2.2.length≤2000000∧(∀ v∈c.2.2.2.1,bf v)∧∀ v∈c.2.2.2.2,bf v) {L:List Blk} {K:AV→List Blk→Prop}
   (h:∀ z:Int,(z=0→O5 ts∧Rr cs)→K (.int .i64 z) L) :
   ad Tryz.prog 73 [.agg [.sl (bc ts) ts.length capT,.sl (df cs) cs.length capC]] L K:=by
 replace h:=hid h
 replace hcs:=hid hcs
 refine ae J5 (by simp [mG]) ?_
 simp only [mG,ar]
 by_cases h1:(128:Int)<(ts.length:Int)
 · refine wk ?_
   exact ab rfl (h.out 9 (fun e=>by cases e))
 by_cases h2:(128:Int)<(cs.length:Int)
 · refine wk ?_
   exact ab rfl (h.out 9 (fun e=>by cases e))
 refine wk ?_
 obtain ⟨M,hM⟩:∃ M,L++[Blk.cells [.sl (bc ts) ts.length capT,.sl (df cs) cs.length capC]]=M:=⟨_,rfl⟩
 have hg:∀ X:List Blk,(M++X)[L.length]?=some (.cells [.sl (bc ts) ts.length capT,.sl (df cs) cs.length capC]):=fun X=>by
   rw [← hM,List.append_assoc,List.getElem?_append_right (Nat.le_refl _),Nat.sub_self];rfl
 have hfin:∀ (z:Int),(z=0→O5 ts∧Rr cs)→∀ X:List Blk,Fin L (.int .i64 z) (M++X) K:=fun z hz X=>by
   rw [← hM,List.append_assoc]
   exact ab rfl (h.out z hz)
 replace hfin:=hid hfin
 rw [hM]
 have hMl:L.length≤M.length:=by rw [← hM];simp
 clear hM h
 refine am (fun m T' L'=>∃ (i:Nat) (X:List Blk),m=ts.length - i∧i≤ts.length∧Hid (∀ j,j<i→∀ t∈ts.take j,ah t.1≠ah (ts.getD j iy).1)∧T'=[(24,.int .i64 (i:Int)),(23,.int .i64 ts.length),(22,.sl (bc ts) ts.length capT),(1,.ptr L.length 0)]∧L'=M++X) (CutS (b:=Nat.le_refl _)) ⟨0,[],rfl,Nat.zero_le _,hid (fun j hj=>by omega),rfl,by simp⟩ ?_
 rintro _ _ _ ⟨i,X,rfl,hi,hD,rfl,rfl⟩
 by_cases hlt:i<ts.length
 · have g1:(i:Int)<(ts.length:Int):=by omega
   have g1':(i:Int)≤(ts.length:Int):=by omega
   have g2:IntKind.i64.wrap ((i:Int)+1)=(i:Int)+1:=ac (by omega) (by omega)
   have e3:=kz hlt
   have e4:i * 4+4≤(bc ts).length:=by rw [jw];omega
   have e6:i * 4≤(bc ts).length:=by omega
   have e5:=R8 ts i
   have e7:(ts.take i).length=i:=by simp;omega
   obtain ⟨ty,hty⟩:∃ ty,ts.getD i iy=ty:=⟨_,rfl⟩
   have hm:bf ty.1:=hts _ (by rw [← hty];simp [hlt])
   rw [hty] at e3
   simp only [tyC] at e3
   obtain ⟨z,hz⟩:∃ z,atN ((ts.take i).map (·.1)) ty.1 0=z:=⟨_,rfl⟩
   have kk1:Hid (∀ {cap:Option Nat} {L:List Blk} {K:AV→List Blk→Prop},K (.int .i64 z) L→ad Tryz.prog 50 [.sl (bc (ts.take i)) i cap,.str ty.1] L K):=@hid _ (fun {cap} {L} {K} q=>by
     have:=Qh (ts:=ts.take i) (cap:=cap) (n:=ty.1) (by omega) (fun t ht=>hts t (List.mem_of_mem_take ht)) hm (L:=L) (K:=K) (by rw [hz];exact q)
     rw [e7] at this;exact this)
   have kk2:Hid (Ctr Tryz.prog 116 [.str ty.1] (.bool (eS ty.1))):=hid fun q=>HB hm q
   obtain ⟨tb,htb⟩:∃ b,eS ty.1=b:=⟨_,rfl⟩
   rw [htb] at kk2
   have hD':¬ (0≤z)→∀ j,j<i+1→∀ t∈ts.take j,ah t.1≠ah (ts.getD j iy).1:=fun hzn j hj t ht=>by
     rcases Nat.lt_or_ge j i with e|e
     · exact hD.out j e t ht
     · have:j=i:=by omega
       subst this
       rw [hty]
       exact Ng (by rw [hz];omega) t.1 (List.mem_map.2 ⟨t,ht,rfl⟩)
   replace hD':=hid hD'
   clear hz hty htb e7 hD
   cases tb with
   | false =>
     refine wk ?_
     exact hfin.out 20 (fun e=>by cases e) _
   | true =>
     by_cases hz0:0≤z
     · refine wk ?_
       exact hfin.out 21 (fun e=>by cases e) _
     have hz1:z<0:=by omega
     by_cases hs1:ty.2.1<1
     · refine wk ?_
       exact hfin.out 23 (fun e=>by cases e) _
     by_cases hs2:8<ty.2.1
     · refine wk ?_
       exact hfin.out 23 (fun e=>by cases e) _
     have hs3:(1:Int)≤ty.2.1:=by omega
     have hs4:ty.2.1≤8:=by omega
     refine wk ?_
     exact ak _ _ _ (by omega) (CutL (b:=by simp)) ⟨i+1,_,rfl,hlt,hid (hD'.out hz0),rfl,rfl⟩
 have hke:i=ts.length:=by omega
 subst hke
 have g1:¬ (ts.length:Int)<(ts.length:Int):=by omega
 have hdist:O5 ts:=hD.out
 replace hdist:=hid hdist
 clear hD
 refine wk ?_
 refine am (fun m T' L'=>∃ (j:Nat) (Y:List Blk),m=cs.length - j∧j≤cs.length∧X.length≤Y.length∧Hid (∀ i,i<j→Rq cs i)∧T'=[(53,.int .i64 (j:Int)),(52,.int .i64 cs.length),(51,.sl (df cs) cs.length capC),(1,.ptr L.length 0)]∧L'=M++Y) (CutS (b:=by simp)) ⟨0,X,rfl,Nat.zero_le _,Nat.le_refl _,hid (fun i hi=>by omega),rfl,rfl⟩ ?_
 rintro _ _ _ ⟨j,Y,rfl,hj,hXY,hCS,rfl,rfl⟩
 by_cases hlt:j<cs.length
 rotate_left
 · have hke:j=cs.length:=by omega
   subst hke
   have g1:¬ (cs.length:Int)<(cs.length:Int):=by omega
   obtain ⟨z,hz⟩:∃ z,atN (ts.map (·.1)) [111,98,106,101,99,116,99,108,97,115,115] 0=z:=⟨_,rfl⟩
   have kk1:Hid (Ctr Tryz.prog 50 [.sl (bc ts) ts.length capT,.str [111,98,106,101,99,116,99,108,97,115,115]] (.int .i64 z)):=hid fun q=>Qh hl hts (by unfold bf;decide) (by rw [hz];exact q)
   have hbd:=@O2 [111,98,106,101,99,116,99,108,97,115,115] (ts.map (·.1)) 0
   rw [hz,List.length_map] at hbd
   clear hz
   by_cases hz0:z<0
   · refine wk ?_
     exact hfin.out 22 (fun e=>by cases e) _
   obtain ⟨w,rfl⟩:∃ w:Nat,z=(w:Int):=⟨z.toNat,by omega⟩
   have hw:w<ts.length:=by omega
   have e3:=kz hw
   have g5:(w:Int)<(ts.length:Int):=by omega
   have e4:w * 4+1<(bc ts).length:=by rw [jw];omega
   have e5:w * 4+2<(bc ts).length:=by rw [jw];omega
   obtain ⟨ty,hty⟩:∃ ty,ts.getD w iy=ty:=⟨_,rfl⟩
   rw [hty] at e3
   have e6:(bc ts).getD (w * 4+1) .undef=.int .i64 ty.2.1:=by
     have h3:=congrArg (fun l=>l[1]?) e3
     simp only [List.getElem?_take_of_lt (show 1<4 by omega),List.getElem?_drop] at h3
     rw [List.getD_eq_getElem?_getD,h3];rfl
   have e7:(bc ts).getD (w * 4+2) .undef=.bool ty.2.2.1:=by
     have h3:=congrArg (fun l=>l[2]?) e3
     simp only [List.getElem?_take_of_lt (show 2<4 by omega),List.getElem?_drop] at h3
     rw [List.getD_eq_getElem?_getD,h3];rfl
   clear e3 hty hbd
   by_cases hs1:ty.2.1=3
   · rcases hsg:ty.2.2.1 with _|_
     · rw [hsg] at e7
       refine wk ?_
       exact hfin.out 0 (fun _=>⟨hdist.out,hCS.out⟩) _
     · rw [hsg] at e7
       refine wk ?_
       exact hfin.out 2 (fun e=>by cases e) _
   · refine wk ?_
     exact hfin.out 2 (fun e=>by cases e) _
 have g1:(j:Int)<(cs.length:Int):=by omega
 have g1':(j:Int)≤(cs.length:Int):=by omega
 have g2:IntKind.i64.wrap ((j:Int)+1)=(j:Int)+1:=ac (by omega) (by omega)
 have e3:=OY hlt
 have e4:j * 5+5≤(df cs).length:=by rw [MV];omega
 have e6:j * 5≤(df cs).length:=by omega
 have e5:=S1 cs j
 have e7:(cs.take j).length=j:=by simp;omega
 obtain ⟨⟨nm,sup,kd,must,may⟩,hcl⟩:∃ c,cs.getD j Nv=c:=⟨_,rfl⟩
 obtain ⟨r1,r2,r3,r4,r5,r6⟩:=hcs.out (nm,sup,kd,must,may) (by rw [← hcl];simp [hlt])
 simp only at r1 r2 r3 r4 r5 r6
 rw [hcl] at e3
 simp only [clC,mA] at e3
 obtain ⟨z1,hz1⟩:∃ z,atN ((cs.take j).map (·.1)) nm 0=z:=⟨_,rfl⟩
 obtain ⟨z2,hz2⟩:∃ z,atN ((cs.take j).map (·.1)) sup 0=z:=⟨_,rfl⟩
 have kkC:∀ (n:List UInt8) (z:Int),bf n→atN ((cs.take j).map (·.1)) n 0=z→∀ {cap:Option Nat} {L:List Blk} {K:AV→List Blk→Prop},K (.int .i64 z) L→ad Tryz.prog 109 [.sl (df (cs.take j)) j cap,.str n] L K:=by
   intro n z hn hz cap L K q
   have:=XA (cs:=cs.take j) (cap:=cap) (n:=n) (by omega) (fun t ht=>(hcs.out t (List.mem_of_mem_take ht)).1) hn (L:=L) (K:=K) (by rw [hz];exact q)
   rw [e7] at this;exact this
 have kk1:Hid (∀ {cap:Option Nat} {L:List Blk} {K:AV→List Blk→Prop},K (.int .i64 z1) L→ad Tryz.prog 109 [.sl (df (cs.take j)) j cap,.str nm] L K):=@hid _ (fun {cap} {L} {K} q=>kkC nm z1 r1 hz1 q)
 have kk2:Hid (∀ {cap:Option Nat} {L:List Blk} {K:AV→List Blk→Prop},K (.int .i64 z2) L→ad Tryz.prog 109 [.sl (df (cs.take j)) j cap,.str sup] L K):=@hid _ (fun {cap} {L} {K} q=>kkC sup z2 r2 hz2 q)
 obtain ⟨tb,htb⟩:∃ b,eS nm=b:=⟨_,rfl⟩
 have kk3:Hid (Ctr Tryz.prog 116 [.str nm] (.bool tb)):=hid fun q=>HB r1 (by rw [htb];exact q)
 have hbd:=@O2 sup ((cs.take j).map (·.1)) 0
 rw [hz2,List.length_map,e7] at hbd
 have hst:tb=true→¬ 0≤z1→(sup=[]∨0≤z2)→∀ i,i<j+1→Rq cs i:=fun a1 a2 a3 i hi=>by
   rcases Nat.lt_or_ge i j with e|e
   · exact hCS.out i e
   · obtain rfl:i=j:=by omega
     refine ⟨by rw [hcl,htb];exact a1,fun c hc=>?_,fun hne=>?_⟩
     · rw [hcl]
       exact Ng (by rw [hz1];omega) c.1 (List.mem_map.2 ⟨c,hc,rfl⟩)
     · rw [hcl] at hne ⊢
       have h3:0≤z2:=a3.resolve_left hne
       have h4:=@Va sup ((cs.take i).map (·.1)) 0 z2.toNat (by rw [hz2];omega)
       have h5:z2.toNat<i:=by have:=h4.1;simp only [List.length_map,e7] at this;exact this
       refine ⟨z2.toNat,h5,?_⟩
       have h6:=h4.2
       simpa [h5,show z2.toNat<cs.length by omega] using h6
 replace hst:=hid hst
 replace hbd:=hid hbd
 have em:=eN must
 have ey:=eN may
 replace r5:=hid r5
 replace r6:=hid r6
 clear hz1 hz2 htb e7 hcl kkC hCS
 cases tb with
 | false =>
   refine wk ?_
   exact hfin.out 20 (fun e=>by cases e) _
 | true =>
 by_cases hz0:0≤z1
 · refine wk ?_
   exact hfin.out 21 (fun e=>by cases e) _
 by_cases k1:kd<0
 · refine wk ?_
   exact hfin.out 23 (fun e=>by cases e) _
 by_cases k2:2<kd
 · refine wk ?_
   exact hfin.out 23 (fun e=>by cases e) _
 obtain ⟨names,hnames⟩:∃ n,must++may=n:=⟨_,rfl⟩
 have eC:List.map AV.str must++List.map AV.str may=List.map AV.str names:=by rw [← hnames];simp
 have nl:must.length+may.length=names.length:=by rw [← hnames];simp
 have nli:(must.length:Int)+(may.length:Int)=(names.length:Int):=by omega
 have eo:=Pt may
 have eb:names.length * 16≤140737488355328:=by omega
 have ec:names.length≤140737488355328:=by omega
 have hnr:∀ v∈names,bf v:=fun v hv=>by
   rw [← hnames,List.mem_append] at hv
   exact hv.elim (r5.out v) (r6.out v)
 replace hnr:=hid hnr
 clear hnames
 by_cases hsp:sup=[]
 · subst hsp
   by_cases k3:kd=0
   rotate_left
   · refine wk ?_
     exact hfin.out 2 (fun e=>by cases e) _
   subst k3
   refine wk ?_
   refine am (fun m T' L'=>∃ q:Nat,m=names.length - q∧q≤names.length∧T'=[(133,.int .i64 (q:Int)),(132,.int .i64 names.length),(131,.gsl (names.map AV.str) names.length (M.length+(Y.length+1)) 1),(53,.int .i64 (j:Int)),(52,.int .i64 cs.length),(51,.sl (df cs) cs.length capC),(1,.ptr L.length 0)]∧L'=M++(Y++[.cells [.str nm,.str [],.int .i64 0,mA must,mA may],.spare names.length 1])) (CutS (b:=by simp)) ⟨0,rfl,Nat.zero_le _,rfl,rfl⟩ ?_
   rintro _ _ _ ⟨q,rfl,hq,rfl,rfl⟩
   clear kk1 kk2 kk3
   by_cases hql:q<names.length
   · have q1:(q:Int)<(names.length:Int):=by omega
     have q2:IntKind.i64.wrap ((q:Int)+1)=(q:Int)+1:=ac (by omega) (by omega)
     obtain ⟨v,hv⟩:∃ v,names.getD q []=v:=⟨_,rfl⟩
     have q3:(names.map AV.str).getD q .undef=.str v:=by rw [← hv];simp [hql]
     have q4:q<names.length:=hql
     have hvr:bf v:=hnr.out v (by rw [← hv];simp [hql])
     obtain ⟨zv,hzv⟩:∃ z,atN (ts.map (·.1)) v 0=z:=⟨_,rfl⟩
     have kk1:Hid (Ctr Tryz.prog 50 [.sl (bc ts) ts.length capT,.str v] (.int .i64 zv)):=@hid _ (fun {L} {K} q=>Qh hl hts hvr (by rw [hzv];exact q))
     clear hv hzv
     by_cases hz:zv<0
     · refine wk ?_
       exact hfin.out 22 (fun e=>by cases e) _
     · refine wk ?_
       exact ak _ _ _ (by omega) (CutL (b:=by simp)) ⟨q+1,rfl,hql,rfl,rfl⟩
   · have q1:¬ (q:Int)<(names.length:Int):=by omega
     refine wk ?_
     exact ak _ _ _ (by omega) (CutL (b:=by simp;omega)) ⟨j+1,_,rfl,hlt,by simp;omega,hid (hst.out rfl hz0 (.inl rfl)),rfl,rfl⟩
 by_cases hz3:z2<0
 · refine wk ?_
   exact hfin.out 22 (fun e=>by cases e) _
 obtain ⟨w,rfl⟩:∃ w:Nat,z2=(w:Int):=⟨z2.toNat,by omega⟩
 have hw:w<cs.length:=by have:=hbd.out;omega
 have w1:(w:Int)<(cs.length:Int):=by omega
 have w2:w * 5+2<(df cs).length:=by rw [MV];omega
 have w3:=P9 hw (j:=2) (by omega)
 obtain ⟨kw,hkw⟩:∃ k,(cs.getD w Nv).2.2.1=k:=⟨_,rfl⟩
 simp only [clC,List.getD_cons_zero,List.getD_cons_succ,hkw] at w3
 by_cases k3:kw=0
 · refine wk ?_
   refine am (fun m T' L'=>∃ q:Nat,m=names.length - q∧q≤names.length∧T'=[(133,.int .i64 (q:Int)),(132,.int .i64 names.length),(131,.gsl (names.map AV.str) names.length (M.length+(Y.length+1)) 1),(53,.int .i64 (j:Int)),(52,.int .i64 cs.length),(51,.sl (df cs) cs.length capC),(1,.ptr L.length 0)]∧L'=M++(Y++[.cells [.str nm,.str sup,.int .i64 kd,mA must,mA may],.spare names.length 1])) (CutS (b:=by simp)) ⟨0,rfl,Nat.zero_le _,rfl,rfl⟩ ?_
   rintro _ _ _ ⟨q,rfl,hq,rfl,rfl⟩
   clear kk1 kk2 kk3
   by_cases hql:q<names.length
   · have q1:(q:Int)<(names.length:Int):=by omega
     have q2:IntKind.i64.wrap ((q:Int)+1)=(q:Int)+1:=ac (by omega) (by omega)
     obtain ⟨v,hv⟩:∃ v,names.getD q []=v:=⟨_,rfl⟩
     have q3:(names.map AV.str).getD q .undef=.str v:=by rw [← hv];simp [hql]
     have q4:q<names.length:=hql
     have hvr:bf v:=hnr.out v (by rw [← hv];simp [hql])
     obtain ⟨zv,hzv⟩:∃ z,atN (ts.map (·.1)) v 0=z:=⟨_,rfl⟩
     have kk1:Hid (Ctr Tryz.prog 50 [.sl (bc ts) ts.length capT,.str v] (.int .i64 zv)):=@hid _ (fun {L} {K} q=>Qh hl hts hvr (by rw [hzv];exact q))
     clear hv hzv
     by_cases hz:zv<0
     · refine wk ?_
       exact hfin.out 22 (fun e=>by cases e) _
     · refine wk ?_
       exact ak _ _ _ (by omega) (CutL (b:=by simp)) ⟨q+1,rfl,hql,rfl,rfl⟩
   · have q1:¬ (q:Int)<(names.length:Int):=by omega
     refine wk ?_
     exact ak _ _ _ (by omega) (CutL (b:=by simp;omega)) ⟨j+1,_,rfl,hlt,by simp;omega,hid (hst.out rfl hz0 (.inr (by omega))),rfl,rfl⟩
 by_cases k4:kw=kd
 · subst k4
   refine wk ?_
   refine am (fun m T' L'=>∃ q:Nat,m=names.length - q∧q≤names.length∧T'=[(133,.int .i64 (q:Int)),(132,.int .i64 names.length),(131,.gsl (names.map AV.str) names.length (M.length+(Y.length+1)) 1),(53,.int .i64 (j:Int)),(52,.int .i64 cs.length),(51,.sl (df cs) cs.length capC),(1,.ptr L.length 0)]∧L'=M++(Y++[.cells [.str nm,.str sup,.int .i64 kw,mA must,mA may],.spare names.length 1])) (CutS (b:=by simp)) ⟨0,rfl,Nat.zero_le _,rfl,rfl⟩ ?_
   rintro _ _ _ ⟨q,rfl,hq,rfl,rfl⟩
   clear kk1 kk2 kk3
   by_cases hql:q<names.length
   · have q1:(q:Int)<(names.length:Int):=by omega
     have q2:IntKind.i64.wrap ((q:Int)+1)=(q:Int)+1:=ac (by omega) (by omega)
     obtain ⟨v,hv⟩:∃ v,names.getD q []=v:=⟨_,rfl⟩
     have q3:(names.map AV.str).getD q .undef=.str v:=by rw [← hv];simp [hql]
     have q4:q<names.length:=hql
     have hvr:bf v:=hnr.out v (by rw [← hv];simp [hql])
     obtain ⟨zv,hzv⟩:∃ z,atN (ts.map (·.1)) v 0=z:=⟨_,rfl⟩
     have kk1:Hid (Ctr Tryz.prog 50 [.sl (bc ts) ts.length capT,.str v] (.int .i64 zv)):=@hid _ (fun {L} {K} q=>Qh hl hts hvr (by rw [hzv];exact q))
     clear hv hzv
     by_cases hz:zv<0
     · refine wk ?_
       exact hfin.out 22 (fun e=>by cases e) _
     · refine wk ?_
       exact ak _ _ _ (by omega) (CutL (b:=by simp)) ⟨q+1,rfl,hql,rfl,rfl⟩
   · have q1:¬ (q:Int)<(names.length:Int):=by omega
     refine wk ?_
     exact ak _ _ _ (by omega) (CutL (b:=by simp;omega)) ⟨j+1,_,rfl,hlt,by simp;omega,hid (hst.out rfl hz0 (.inr (by omega))),rfl,rfl⟩
 · refine wk ?_
   exact hfin.out 2 (fun e=>by cases e) _
def YC (c:Cls):Prop:=bf c.1∧bf c.2.1∧c.2.2.2.1.length≤2000000∧c.2.2.2.2.length≤2000000∧(∀ v∈c.2.2.2.1,bf v)∧∀ v∈c.2.2.2.2,bf v
def WB (ts:List Typ) (cs:List Cls):Prop:=ts.length≤2000000∧cs.length≤2000000∧(∀ t∈ts,bf t.1)∧∀ c∈cs,YC c
def WI (l:List Atr):Prop:=l.length≤2000000∧∀ a∈l,bf a.1∧a.2.length≤2000000
theorem VN {ts:List Typ} {cs:List Cls} {capT capC:Option Nat} (hs:WB ts cs) (h:∀ b:Bool,(b=true→O4 ts∧Rr cs)→K (.bool b) L) :
   ad Tryz.prog 30 [.agg [.sl (bc ts) ts.length capT,.sl (df cs) cs.length capC]] L K:=by
 replace h:=hid h
 refine ae Ki (by simp [mS]) ?_
 simp only [mS,ar]
 by_cases h1:(ts.length:Int)≤128
 rotate_left
 · refine wk ?_
   exact ab rfl (h.out false (fun e=>by cases e))
 by_cases h2:(cs.length:Int)≤40
 rotate_left
 · refine wk ?_
   exact ab rfl (h.out false (fun e=>by cases e))
 refine wk ?_
 refine TT hs.1 hs.2.1 hs.2.2.1 hs.2.2.2 fun z hz=>?_
 by_cases hz0:z=0
 · have hd:=hid (hz hz0)
   subst hz0
   refine sk ?_
   refine wk ?_
   exact ab rfl (h.out true (fun _=>⟨⟨by omega,hs.2.2.1,SU hd.out.1⟩,hd.out.2⟩))
 · refine sk ?_
   refine wk ?_
   exact ab rfl (h.out false (fun e=>by cases e))
theorem Uj {ts:List Typ} {B:Nat}:∀ {l out:List Atr} {i:Nat},out.length≤i→(∀ a∈out,a.2.length≤B * i)→(∀ a∈l,a.2.length≤B)→(Jl ts out l).1.length≤i+l.length∧∀ a∈(Jl ts out l).1,a.2.length≤B * (i+l.length)
 | [],out,i,h1,h2,_=>by rw [Jl];exact ⟨h1,h2⟩
 | x::t,out,i,h1,h2,h3=>by
   have nil:([]:List Atr).length≤i+(x::t).length∧∀ a∈([]:List Atr),a.2.length≤B * (i+(x::t).length):=⟨by simp,fun a ha=>by cases ha⟩
   rw [Jl]
   rcases hty:fJ ts x.1 with _|ty
   · exact nil
   · simp only
     split
     · exact nil
     · split
       · exact nil
       · rename_i hd
         simp only [ne_eq,Decidable.not_not] at hd
         have hl:=No hd
         have hv:=Qu (l:=out) (n:=x.1) h2
         have hx:=h3 x (by simp)
         have hB:=Nat.mul_add_one B i
         have:=@Uj ts B t (kM ty.1 (dx ty.2.1 ty.2.2.1 (dU out x.1) x.2).1 (dx ty.2.1 ty.2.2.1 (dU out x.1) x.2).1.isEmpty out) (i+1) (by
           have:=@Ot ty.1 (dx ty.2.1 ty.2.2.1 (dU out x.1) x.2).1 (dx ty.2.1 ty.2.2.1 (dU out x.1) x.2).1.isEmpty out
           split at this<;>omega) (fun a ha=>by
           rcases LW ha with e|e
           · rw [e];simp only;omega
           · have:=h2 a e;omega) (fun a ha=>h3 a (by simp [ha]))
         rw [List.length_cons,show i+(t.length+1)=i+1+t.length by omega]
         exact this
theorem PB:∀ l:List (List UInt8),l.map AV.str=l.flatMap fun s=>[AV.str s]
 | []=>rfl
 | a::l=>by rw [List.map_cons,List.flatMap_cons,PB l];rfl
theorem Ox:RdU Tryz.prog 44 (fun l:List (List UInt8)=>[mA l]) (fun l=>l.length≤1048576∧∀ v∈l,v.length≤1048576):=by
 refine (mX Tryz.underlying44 (lD Tryz.underlying9) (by kernel_rfl)).map fun l hl=>⟨l,hl,?_⟩
 simp only [mA,PB l]
theorem W6:RdU Tryz.prog 76 tyC (fun ty=>ty.1.length≤1048576) :=
 (ji Tryz.underlying76 (N:=4) (by kernel_rfl) (ce (sz:=1) rfl (by kernel_rfl) (lD Tryz.underlying9) (ce (sz:=1) rfl (by kernel_rfl) (Rd.u (Oy Tryz.underlying3)) (ce (sz:=1) rfl (by kernel_rfl) (Rd.u (RB Tryz.underlying4)) (ce (sz:=1) rfl (by kernel_rfl) (Rd.u (RB Tryz.underlying4)) (kO rfl)))))).map
   fun y hy=>⟨(y.1,y.2.1,y.2.2.1,y.2.2.2.1),hy.1,rfl⟩
theorem W8:RdU Tryz.prog 149 clC (fun c=>c.1.length≤1048576∧c.2.1.length≤1048576∧(c.2.2.2.1.length≤1048576∧∀ v∈c.2.2.2.1,v.length≤1048576)∧(c.2.2.2.2.length≤1048576∧∀ v∈c.2.2.2.2,v.length≤1048576)) :=
 (ji Tryz.underlying149 (N:=5) (by kernel_rfl) (ce (sz:=1) rfl (by kernel_rfl) (lD Tryz.underlying9) (ce (sz:=1) rfl (by kernel_rfl) (lD Tryz.underlying9) (ce (sz:=1) rfl (by kernel_rfl) (Rd.u (Oy Tryz.underlying3)) (ce (sz:=1) rfl (by kernel_rfl) Ox (ce (sz:=1) rfl (by kernel_rfl) Ox (kO rfl))))))).map
   fun y hy=>⟨(y.1,y.2.1,y.2.2.1,y.2.2.2.1,y.2.2.2.2.1),⟨hy.1,hy.2.1,hy.2.2.2.1,hy.2.2.2.2.1⟩,rfl⟩
abbrev scA (s:List Typ×List Cls):List AV:=[.sl (bc s.1) s.1.length none,.sl (df s.2) s.2.length none]
theorem rch {l:List UInt8} (h:l.length≤1048576):bf l:=by unfold bf;omega
theorem W7:RdU Tryz.prog 25 scA (fun s=>WB s.1 s.2) :=
 (ji Tryz.underlying25 (N:=2) (by kernel_rfl) (ce (sz:=1) rfl (by kernel_rfl) (mX Tryz.underlying22 W6 (by kernel_rfl)) (ce (sz:=1) rfl (by kernel_rfl) (mX Tryz.underlying23 W8 (by kernel_rfl)) (kO rfl)))).map
   fun y hy=>⟨(y.1,y.2.1),⟨by have:=hy.1.1;simp only;omega,by have:=hy.2.1.1;simp only;omega,fun t ht=>rch (hy.1.2 t ht),fun c hc=>by
     obtain ⟨h1,h2,h3,h4⟩:=hy.2.1.2 c hc
     exact ⟨rch h1,rch h2,by omega,by omega,fun v hv=>rch (h3.2 v hv),fun v hv=>rch (h4.2 v hv)⟩⟩,rfl⟩
theorem Xa:RdU Tryz.prog 70 atA (fun a=>bf a.1∧a.2.length≤1048576) :=
 (ji Tryz.underlying70 (N:=2) (by kernel_rfl) (ce (sz:=1) rfl (by kernel_rfl) (lD Tryz.underlying9) (ce (sz:=1) rfl (by kernel_rfl) Ox (kO rfl)))).map
   fun y hy=>⟨(y.1,y.2.1),⟨rch hy.1,hy.2.1.1⟩,rfl⟩
theorem W9:RdU Tryz.prog 26 (fun l=>[.sl (bn l) l.length none]) WI :=
 (mX Tryz.underlying26 Xa (by kernel_rfl)).map fun l hl=>⟨l,⟨by have:=hl.1;omega,fun a ha=>⟨(hl.2 a ha).1,by have:=(hl.2 a ha).2;omega⟩⟩,rfl⟩
end Go.Proofs.YtkkgmgmgcgiffaaGreatDoor.Av
