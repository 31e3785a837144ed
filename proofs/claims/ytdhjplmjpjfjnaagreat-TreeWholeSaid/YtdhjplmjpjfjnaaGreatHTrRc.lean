/- Joined texts of the walk, made small by a program. -/
import Derived.Test.YtdhjplmjpjfjnaaGreatHTrRb
import Derived.Test.YtdhjplmjpjfjnaaGreatHTrZa
set_option linter.unusedSimpArgs false
set_option linter.unusedVariables false
namespace Go.Proofs.YtdhjplmjpjfjnaaGreat.Av
open Go
set_option maxHeartbeats 8000000
set_option maxRecDepth 100000
theorem zA {L0 L:List Blk} {r:AV} {Q:AV→List Blk→Prop} (i:Nat) {c:List AV} (hL:L[i]?=some (.cells c)) (h:Fin L0 r (L.set i (.cells (AV.frzL c))) Q):Fin L0 r L Q:=fun w0 S0 E0 E w v h0 hn hw hR hv=>h w0 S0 E0 E w v h0 hn hw (hR.frzB hL) hv
def doE (k:Int) (xid:Int) (dn tn:List Rdn) (v:List Atr) (y:az):List az :=
 let y':=if k=4∧bD y.nm dn=true then { y with nm:=eO y.nm dn.length tn } else y
 let y2:=if y.id=xid∧(k=3∨k=4) then { y' with av:=v } else y'
 if y.id=xid∧k=2 then [] else [y2]
theorem Oy (l:List az) (xid:Int) (dn tn:List Rdn) (v:List Atr):l.flatMap (doE 1 xid dn tn v)=l:=by
 induction l with
 | nil=>rfl
 | cons y l ih=>rw [List.flatMap_cons,ih];simp [doE]
theorem Ox (l:List az) (xid:Int) (dn tn:List Rdn) (v:List Atr):l.flatMap (doE 2 xid dn tn v)=zq l xid:=by
 unfold zq
 induction l with
 | nil=>rfl
 | cons y l ih =>
   rw [List.flatMap_cons,ih]
   by_cases c:y.id=xid<;>simp [doE,c]
theorem Ow (l:List az) (xid:Int) (dn tn:List Rdn) (v:List Atr):l.flatMap (doE 3 xid dn tn v)=mF l xid v:=by
 unfold mF
 induction l with
 | nil=>rfl
 | cons y l ih =>
   rw [List.flatMap_cons,ih]
   by_cases c:y.id=xid<;>simp [doE,c]
theorem Ov (l:List az) (xid:Int) (dn tn:List Rdn) (v:List Atr):l.flatMap (doE 4 xid dn tn v)=mF (iB l dn tn) xid v:=by
 unfold mF iB
 induction l with
 | nil=>rfl
 | cons y l ih =>
   rw [List.flatMap_cons,ih]
   by_cases c:y.id=xid<;>by_cases u:bD y.nm dn=true<;>simp [doE,c,u]
theorem C4 (l:List az) (k xid:Int) (dn tn:List Rdn) (v:List Atr):(l.flatMap (doE k xid dn tn v)).length≤l.length:=by
 induction l with
 | nil=>simp
 | cons y l ih =>
   rw [List.flatMap_cons,List.length_append]
   have:(doE k xid dn tn v y).length≤1:=by unfold doE;dsimp only;split<;>simp
   simp only [List.length_cons];omega
theorem Nt {suf:List Rdn} {last:Int} {l:List az} (ht:TOk suf last l) (hn:l.length≤900000) (hl0:0≤last) (hl1:last≤1000000) {rt:Nat} {c:Option Nat} {L:List Blk} (hL:L[rt]?=some (.cells [dnA suf,.sl (aM l) l.length c,.int .i64 last]))
   {dn tn:List Rdn} {k:Int} {v:List Atr} (hdm:dnM dn) (htm:dnM tn) (hvl:v.length≤1100000) (hvz:∀ a∈v,a.2.length≤1100000) (ha:b8 suf l k dn tn=0) {K:AV→List Blk→Prop}
   (h:∀ L' c',L'[rt]?=some (.cells [dnA suf,.sl (aM (doT suf l last k dn tn v).1) (doT suf l last k dn tn v).1.length c',.int .i64 (doT suf l last k dn tn v).2])→aH (fun i=>i=rt) L L'→K (.int .i64 0) L') :
   ab Tryz.prog 29 [.ptr rt 0,.agg [.int .i64 k,dnA dn,dnA tn,atR v]] L K:=by
 have hrl:=(List.getElem?_eq_some_iff.1 hL).1
 have ar:∀ X:List Blk,(L++X)[rt]?=some (.cells [dnA suf,.sl (aM l) l.length c,.int .i64 last]):=fun X=>by rw [List.getElem?_append_left hrl];exact hL
 have sr:∀ (X:List Blk) b,(L++X).set rt b=L.set rt b++X:=fun X b=>List.set_append_left _ _ hrl
 have ar2:∀ (X:List Blk) b,(L.set rt b++X)[rt]?=some b:=fun X b=>by rw [List.getElem?_append_left (by simpa using hrl)];simp [hrl]
 have sr2:∀ (X:List Blk) b b',(L.set rt b++X).set rt b'=L.set rt b'++X:=fun X b b'=>by rw [List.set_append_left _ _ (by simpa using hrl),List.set_set]
 have ab2:∀ (X:List Blk) (b b':Blk),(L.set rt b++b'::X)[L.length]?=some b':=fun X b b'=>by rw [List.getElem?_append_right (by simp)];simp
 have hel:=io l
 have kk1:Hid (∀ {X:List Blk} {K:AV→List Blk→Prop},K (.int .i64 0) (L++X)→ab Tryz.prog 28 [.ptr rt 0,.agg [.int .i64 k,dnA dn,dnA tn,.sl (bg v) v.length none]] (L++X) K):=@hid _ (by
   intro X K q
   exact Iu ht (by omega) (ar X) hdm htm (by rw [ha];exact q))
 have kk2:Hid (∀ {X:List Blk} {K:AV→List Blk→Prop},K (.int .i64 (atI l dn)) (L++X)→ab Tryz.prog 49 [.ptr rt 0,dnA dn] (L++X) K):=@hid _ (by
   intro X K q
   exact ES ht.ok hdm (by omega) (ar X) q)
 have kk3:Hid (Ctr Tryz.prog 63 [.sl (bg v) v.length none] (.sl (bg v) v.length none)):=@hid _ (by intro L K q;exact LU hvl hvz q)
 have fv:=gK v
 have hfd:AV.frzL (dn.map ao)=dn.map ao:=bc _
 unfold atR
 unfold doT at h
 rw [if_neg (fun e=>e ha)] at h
 have hable:=ha
 unfold b8 at ha
 have hk14:¬ (k<1∨4<k):=fun e=>by rw [if_pos e] at ha;exact absurd ha (by decide)
 rw [if_neg hk14] at ha
 have kU:Hid (∀ y∈l,∀ {L:List Blk} {K:AV→List Blk→Prop},K (.bool (bD y.nm dn)) L→ab Tryz.prog 22 [dnA y.nm,dnA dn] L K):=@hid _ (by intro y hy L K q;exact oF (ht.ok y hy).m hdm q)
 have hL0:=hid hL
 have hok:=hid ht.ok
 have hnd:=hid ht.nodup
 by_cases k1:k=1
 · subst k1
   rw [if_pos rfl] at ha h
   have hfa:atI l dn=-1:=by
     rcases oo l dn with ⟨q1,q2⟩|⟨n,hlt,q1,q2⟩
     · exact q1
     · exfalso
       by_cases o:OkD dn
       · rw [if_neg (fun e=>e o),if_pos (by rw [q2];simp)] at ha;exact absurd ha (by decide)
       · rw [if_pos o] at ha;exact absurd ha (by decide)
   rw [hfa] at kk2
   replace h:=hid h
   clear ha hable hL hk14
   refine aa dj (by simp [bf]) ?_
   simp only [bf,am]
   refine wk ?_
   refine cq (l:=[]) (n:=0) 7 3 rfl (Nat.zero_mul 3).symm ?_
   simp only [List.length_append,List.length_cons,List.length_nil,Nat.zero_add,List.append_assoc,List.cons_append,List.nil_append]
   refine ax (fun m T' L'=>∃ (j cnt:Nat) (C:List AV) (X:List Blk),m=l.length - j∧j≤l.length∧Hid (C=aM ((l.take j).flatMap (doE 1 0 dn tn v)))∧Hid (cnt=((l.take j).flatMap (doE 1 0 dn tn v)).length)∧T'=[(25,.int .i64 (j:Int)),(24,.int .i64 l.length),(23,.sl (aM l) l.length c),(7,.gsl C cnt (L.length+1) 3),(6,.int .i64 (-1)),(3,.ptr L.length 0),(0,.ptr rt 0)]∧L'=L++(.cells [.int .i64 1,dnA dn,dnA tn,.sl (bg v) v.length none] :: .spare cnt 3::X)) (CutS (b:=by simp)) ⟨0,0,[],[],rfl,Nat.zero_le _,hid rfl,hid rfl,rfl,by simp⟩ ?_
   rintro _ _ _ ⟨j,cnt,C,X,rfl,hj,hC,hcnt,rfl,rfl⟩
   have hgX:∀ (a s b:Blk) (Y:List Blk),(L++a::s::(X++b::Y))[L.length+(X.length+1+1)]?=some b:=fun a s b Y=>by
     rw [List.getElem?_append_right (by omega),show L.length+(X.length+1+1) - L.length=X.length+1+1 by omega,List.getElem?_cons_succ,List.getElem?_cons_succ,List.getElem?_append_right (Nat.le_refl _)];simp
   have hsX:∀ (a s b b':Blk) (Y:List Blk),(L++a::s::(X++b::Y)).set (L.length+(X.length+1+1)) b'=L++a::s::(X++b'::Y):=fun a s b b' Y=>by
     rw [List.set_append_right _ _ (by omega),show L.length+(X.length+1+1) - L.length=X.length+1+1 by omega,List.set_cons_succ,List.set_cons_succ,List.set_append_right _ _ (Nat.le_refl _)];simp
   have hcb:cnt≤l.length:=by
     rw [hcnt.out];exact Nat.le_trans (C4 _ _ _ _ _ _) (by simp;omega)
   by_cases hjl:j<l.length
   · have j1:(j:Int)<(l.length:Int):=by omega
     have j2:IntKind.i64.wrap ((j:Int)+1)=(j:Int)+1:=ah (by omega) (by omega)
     have e6:=pO hjl
     have e7:j * 3+3≤(aM l).length:=by rw [hel];omega
     have hym:l.getD j default∈l:=by simp [hjl]
     have hjn:(j:Int) ≠ -1:=by omega
     have htk:l.take (j+1)=l.take j++[l.getD j default]:=by rw [List.take_succ_eq_append_getElem hjl];simp [hjl]
     obtain ⟨y,hy⟩:∃ y,l.getD j default=y:=⟨_,rfl⟩
     rw [hy] at e6 hym htk
     try rw [hy] at hjn
     unfold zp atR at e6
     have hoy:=hok.out y hym
     have kk4:=@hid _ (fun {L:List Blk} {K:AV→List Blk→Prop}=>kU.out y hym (L:=L) (K:=K))
     obtain ⟨u,hu⟩:∃ u,bD y.nm dn=u:=⟨_,rfl⟩
     rw [hu] at kk4
     have hstep:∀ {r:List az},doE 1 0 dn tn v y=r→Hid (C++aM r=aM ((l.take (j+1)).flatMap (doE 1 0 dn tn v)))∧Hid (cnt+r.length=((l.take (j+1)).flatMap (doE 1 0 dn tn v)).length):=fun {r} e=>by
       rw [htk,List.flatMap_append,List.flatMap_cons,List.flatMap_nil,List.append_nil,e,pP,List.length_append,← hC.out,← hcnt.out]
       exact ⟨hid rfl,hid rfl⟩
     have fy1:AV.frzL (y.nm.map ao)=y.nm.map ao:=bc _
     have fy2:=gK y.av
     obtain ⟨yi,hyi⟩:∃ i,y.id=i:=⟨_,rfl⟩
     obtain ⟨ya,hya⟩:∃ i,bg y.av=i:=⟨_,rfl⟩
     obtain ⟨yk,hyk⟩:∃ i,y.av.length=i:=⟨_,rfl⟩
     obtain ⟨yn,hyn⟩:∃ i,y.nm=i:=⟨_,rfl⟩
     rw [hyi,hya,hyk,hyn] at e6
     rw [hya] at fy2
     rw [hyn] at fy1 kk4
     have hst:=hstep (r:=[y]) (by simp [doE])
     have s3:aM [y]=[.int .i64 yi,dnA yn,.sl ya yk none]:=by rw [← hyi,← hya,← hyk,← hyn];rfl
     have s1:=hst.1
     have s2:=hst.2
     rw [s3] at s1
     have s1:=hid s1.out
     have s2:=hid s2.out
     clear hst s3 hstep hC hcnt hy hym htk hoy hu kU hyi hya hyk hyn hok hnd
     refine wk ?_
     exact ay _ _ _ (by omega) (CutL (b:=by simp)) ⟨j+1,_,_,_,rfl,hjl,s1,s2,rfl,rfl⟩
   · have hje:j=l.length:=by omega
     subst hje
     have j1:¬ (l.length:Int)<(l.length:Int):=by omega
     rw [List.take_length] at hC hcnt
     have fs:AV.frzL (suf.map ao)=suf.map ao:=bc _
     have j3:IntKind.i64.wrap (last+1)=last+1:=ah (by omega) (by omega)
     have hdb:=hdm.b
     have kk7:Hid (Ctr Tryz.prog 51 [dnA dn] (dnA dn)):=@hid _ (by intro L K q;exact Ge hdb.1 hdb.2 q)
     clear hnd hok kU kk1 kk2 ht
     have ab1:∀ (X:List Blk) (b b' b2:Blk),(L.set rt b++b'::b2::X)[L.length+1]?=some b2:=fun X b b' b2=>by rw [List.getElem?_append_right (by simp)];simp
     have as1:∀ (X:List Blk) (b b' b2 b3:Blk),(L.set rt b++b'::b2::X).set (L.length+1) b3=L.set rt b++b'::b3::X:=fun X b b' b2 b3=>by
       rw [List.set_append_right _ _ (by simp)];simp
     refine wk ?_
     refine zA rt (ar2 _ _) ?_
     rw [sr2]
     refine ak ?_
     have e1:=hC.out
     have e2:=hcnt.out
     rw [Oy] at e1 e2
     refine h.out _ none ?_ ((aH.set (B:=fun i=>i=rt) L rfl _).trans (aH.app _ _))
     rw [ar2]
     have e3:aM (mK l last dn v)=aM l++[.int .i64 (last+1),.sl (dn.map ao) dn.length none,.sl (bg v) v.length none]:=by unfold mK;rw [pP];rfl
     have e4:AV.frzL (C++[.int .i64 (last+1),.sl (dn.map ao) dn.length none,.sl (bg v) v.length none])=aM (mK l last dn v):=by
       rw [e1,← e3,pN]
     have e5:(mK l last dn v).length=cnt+1:=by rw [e2];simp [mK]
     simp only [AV.frzL,AV.frz,dnA,fs,e4,e5]
 rw [if_neg k1] at ha h
 rcases oo l dn with ⟨q1,hx⟩|⟨n,hlt,q1,hx⟩
 · rw [hx] at ha;simp at ha
 obtain ⟨x,hxe⟩:∃ x,l.getD n default=x:=⟨_,rfl⟩
 rw [hxe] at hx
 obtain ⟨hod,hxl,hxn⟩:=bE hx
 have hfx:aN l dn=x.id:=by unfold aN;rw [hx]
 rw [hfx] at h
 rw [q1] at kk2
 have hxu:bD x.nm dn=true:=bw.2 ⟨ht.ok x hxl,hod,by rw [hxn];exact List.suffix_refl _⟩
 rw [hx] at ha
 dsimp only at ha
 by_cases k2:k=2
 · subst k2
   rw [if_pos rfl] at h
   replace h:=hid h
   clear ha hable hL hk14
   refine aa dj (by simp [bf]) ?_
   simp only [bf,am]
   refine wk ?_
   refine cq (l:=[]) (n:=0) 7 3 rfl (Nat.zero_mul 3).symm ?_
   simp only [List.length_append,List.length_cons,List.length_nil,Nat.zero_add,List.append_assoc,List.cons_append,List.nil_append]
   refine ax (fun m T' L'=>∃ (j cnt:Nat) (C:List AV) (X:List Blk),m=l.length - j∧j≤l.length∧Hid (C=aM ((l.take j).flatMap (doE 2 x.id dn tn v)))∧Hid (cnt=((l.take j).flatMap (doE 2 x.id dn tn v)).length)∧T'=[(25,.int .i64 (j:Int)),(24,.int .i64 l.length),(23,.sl (aM l) l.length c),(7,.gsl C cnt (L.length+1) 3),(6,.int .i64 (n:Int)),(3,.ptr L.length 0),(0,.ptr rt 0)]∧L'=L++(.cells [.int .i64 2,dnA dn,dnA tn,.sl (bg v) v.length none] :: .spare cnt 3::X)) (CutS (b:=by simp)) ⟨0,0,[],[],rfl,Nat.zero_le _,hid rfl,hid rfl,rfl,by simp⟩ ?_
   rintro _ _ _ ⟨j,cnt,C,X,rfl,hj,hC,hcnt,rfl,rfl⟩
   have hgX:∀ (a s b:Blk) (Y:List Blk),(L++a::s::(X++b::Y))[L.length+(X.length+1+1)]?=some b:=fun a s b Y=>by
     rw [List.getElem?_append_right (by omega),show L.length+(X.length+1+1) - L.length=X.length+1+1 by omega,List.getElem?_cons_succ,List.getElem?_cons_succ,List.getElem?_append_right (Nat.le_refl _)];simp
   have hsX:∀ (a s b b':Blk) (Y:List Blk),(L++a::s::(X++b::Y)).set (L.length+(X.length+1+1)) b'=L++a::s::(X++b'::Y):=fun a s b b' Y=>by
     rw [List.set_append_right _ _ (by omega),show L.length+(X.length+1+1) - L.length=X.length+1+1 by omega,List.set_cons_succ,List.set_cons_succ,List.set_append_right _ _ (Nat.le_refl _)];simp
   have hcb:cnt≤l.length:=by
     rw [hcnt.out];exact Nat.le_trans (C4 _ _ _ _ _ _) (by simp;omega)
   by_cases hjl:j<l.length
   · have j1:(j:Int)<(l.length:Int):=by omega
     have j2:IntKind.i64.wrap ((j:Int)+1)=(j:Int)+1:=ah (by omega) (by omega)
     have e6:=pO hjl
     have e7:j * 3+3≤(aM l).length:=by rw [hel];omega
     have hym:l.getD j default∈l:=by simp [hjl]
     have hjn:j=n↔(l.getD j default).id=x.id:=by
       rw [← hxe]
       constructor
       · intro e;rw [e]
       · intro e
         have e2:=ht.byI hym (by simp [hlt]:l.getD n default∈l) e
         rw [List.getD_eq_getElem?_getD,List.getD_eq_getElem?_getD,List.getElem?_eq_getElem hjl,List.getElem?_eq_getElem hlt] at e2
         simp only [Option.getD_some] at e2
         rcases Nat.lt_trichotomy j n with q|q|q
         · exact absurd e2 (List.pairwise_iff_getElem.1 hnd.out j n hjl hlt q)
         · exact q
         · exact absurd e2.symm (List.pairwise_iff_getElem.1 hnd.out n j hlt hjl q)
     have htk:l.take (j+1)=l.take j++[l.getD j default]:=by rw [List.take_succ_eq_append_getElem hjl];simp [hjl]
     obtain ⟨y,hy⟩:∃ y,l.getD j default=y:=⟨_,rfl⟩
     rw [hy] at e6 hym htk
     try rw [hy] at hjn
     unfold zp atR at e6
     have hoy:=hok.out y hym
     have kk4:=@hid _ (fun {L:List Blk} {K:AV→List Blk→Prop}=>kU.out y hym (L:=L) (K:=K))
     obtain ⟨u,hu⟩:∃ u,bD y.nm dn=u:=⟨_,rfl⟩
     rw [hu] at kk4
     have hstep:∀ {r:List az},doE 2 x.id dn tn v y=r→Hid (C++aM r=aM ((l.take (j+1)).flatMap (doE 2 x.id dn tn v)))∧Hid (cnt+r.length=((l.take (j+1)).flatMap (doE 2 x.id dn tn v)).length):=fun {r} e=>by
       rw [htk,List.flatMap_append,List.flatMap_cons,List.flatMap_nil,List.append_nil,e,pP,List.length_append,← hC.out,← hcnt.out]
       exact ⟨hid rfl,hid rfl⟩
     have fy1:AV.frzL (y.nm.map ao)=y.nm.map ao:=bc _
     have fy2:=gK y.av
     by_cases hjn2:j=n
     · have hyx:=hjn.1 hjn2
       subst hjn2
       have hst:=hstep (r:=[]) (by simp [doE,hyx])
       have s1:=hst.1.out
       have s2:=hst.2.out
       rw [show aM ([]:List az)=[] from rfl,List.append_nil] at s1
       rw [List.length_nil,Nat.add_zero] at s2
       replace s1:=hid s1
       replace s2:=hid s2
       obtain ⟨yi,hyi⟩:∃ i,y.id=i:=⟨_,rfl⟩
       obtain ⟨ya,hya⟩:∃ i,bg y.av=i:=⟨_,rfl⟩
       obtain ⟨yk,hyk⟩:∃ i,y.av.length=i:=⟨_,rfl⟩
       obtain ⟨yn,hyn⟩:∃ i,y.nm=i:=⟨_,rfl⟩
       rw [hyi,hya,hyk,hyn] at e6
       rw [hya] at fy2
       rw [hyn] at fy1 kk4
       clear hst hstep hC hcnt hy hym htk hoy hu kU hyi hya hyk hyn hok hnd hjn hyx
       refine wk ?_
       exact ay _ _ _ (by omega) (CutL (b:=by simp)) ⟨j+1,_,_,_,rfl,hjl,s1,s2,rfl,rfl⟩
     · have hyx:¬ y.id=x.id:=fun e=>hjn2 (hjn.2 e)
       have hjn3:¬ (j:Int)=(n:Int):=by omega
       obtain ⟨yi,hyi⟩:∃ i,y.id=i:=⟨_,rfl⟩
       obtain ⟨ya,hya⟩:∃ i,bg y.av=i:=⟨_,rfl⟩
       obtain ⟨yk,hyk⟩:∃ i,y.av.length=i:=⟨_,rfl⟩
       obtain ⟨yn,hyn⟩:∃ i,y.nm=i:=⟨_,rfl⟩
       rw [hyi,hya,hyk,hyn] at e6
       rw [hya] at fy2
       rw [hyn] at fy1 kk4
       have hst:=hstep (r:=[y]) (by simp [doE,hyx])
       have s3:aM [y]=[.int .i64 yi,dnA yn,.sl ya yk none]:=by rw [← hyi,← hya,← hyk,← hyn];rfl
       have s1:=hst.1
       have s2:=hst.2
       rw [s3] at s1
       have s1:=hid s1.out
       have s2:=hid s2.out
       clear hst s3 hstep hC hcnt hy hym htk hoy hu kU hyi hya hyk hyn hok hnd
       refine wk ?_
       exact ay _ _ _ (by omega) (CutL (b:=by simp)) ⟨j+1,_,_,_,rfl,hjl,s1,s2,rfl,rfl⟩
   · have hje:j=l.length:=by omega
     subst hje
     have j1:¬ (l.length:Int)<(l.length:Int):=by omega
     rw [List.take_length] at hC hcnt
     have fs:AV.frzL (suf.map ao)=suf.map ao:=bc _
     refine wk ?_
     refine zA rt (ar2 _ _) ?_
     rw [sr2]
     refine ak ?_
     have e1:=hC.out
     have e2:=hcnt.out
     rw [Ox] at e1 e2
     refine h.out _ none ?_ ((aH.set (B:=fun i=>i=rt) L rfl _).trans (aH.app _ _))
     rw [ar2]
     simp only [AV.frzL,AV.frz,dnA,fs,e1,e2,pN]
 rw [if_neg k2] at h ha
 by_cases k3:k=3
 · subst k3
   rw [if_pos rfl] at h
   replace h:=hid h
   clear ha hable hL hk14
   refine aa dj (by simp [bf]) ?_
   simp only [bf,am]
   refine wk ?_
   refine cq (l:=[]) (n:=0) 7 3 rfl (Nat.zero_mul 3).symm ?_
   simp only [List.length_append,List.length_cons,List.length_nil,Nat.zero_add,List.append_assoc,List.cons_append,List.nil_append]
   refine ax (fun m T' L'=>∃ (j cnt:Nat) (C:List AV) (X:List Blk),m=l.length - j∧j≤l.length∧Hid (C=aM ((l.take j).flatMap (doE 3 x.id dn tn v)))∧Hid (cnt=((l.take j).flatMap (doE 3 x.id dn tn v)).length)∧T'=[(25,.int .i64 (j:Int)),(24,.int .i64 l.length),(23,.sl (aM l) l.length c),(7,.gsl C cnt (L.length+1) 3),(6,.int .i64 (n:Int)),(3,.ptr L.length 0),(0,.ptr rt 0)]∧L'=L++(.cells [.int .i64 3,dnA dn,dnA tn,.sl (bg v) v.length none] :: .spare cnt 3::X)) (CutS (b:=by simp)) ⟨0,0,[],[],rfl,Nat.zero_le _,hid rfl,hid rfl,rfl,by simp⟩ ?_
   rintro _ _ _ ⟨j,cnt,C,X,rfl,hj,hC,hcnt,rfl,rfl⟩
   have hgX:∀ (a s b:Blk) (Y:List Blk),(L++a::s::(X++b::Y))[L.length+(X.length+1+1)]?=some b:=fun a s b Y=>by
     rw [List.getElem?_append_right (by omega),show L.length+(X.length+1+1) - L.length=X.length+1+1 by omega,List.getElem?_cons_succ,List.getElem?_cons_succ,List.getElem?_append_right (Nat.le_refl _)];simp
   have hsX:∀ (a s b b':Blk) (Y:List Blk),(L++a::s::(X++b::Y)).set (L.length+(X.length+1+1)) b'=L++a::s::(X++b'::Y):=fun a s b b' Y=>by
     rw [List.set_append_right _ _ (by omega),show L.length+(X.length+1+1) - L.length=X.length+1+1 by omega,List.set_cons_succ,List.set_cons_succ,List.set_append_right _ _ (Nat.le_refl _)];simp
   have hcb:cnt≤l.length:=by
     rw [hcnt.out];exact Nat.le_trans (C4 _ _ _ _ _ _) (by simp;omega)
   by_cases hjl:j<l.length
   · have j1:(j:Int)<(l.length:Int):=by omega
     have j2:IntKind.i64.wrap ((j:Int)+1)=(j:Int)+1:=ah (by omega) (by omega)
     have e6:=pO hjl
     have e7:j * 3+3≤(aM l).length:=by rw [hel];omega
     have hym:l.getD j default∈l:=by simp [hjl]
     have hjn:j=n↔(l.getD j default).id=x.id:=by
       rw [← hxe]
       constructor
       · intro e;rw [e]
       · intro e
         have e2:=ht.byI hym (by simp [hlt]:l.getD n default∈l) e
         rw [List.getD_eq_getElem?_getD,List.getD_eq_getElem?_getD,List.getElem?_eq_getElem hjl,List.getElem?_eq_getElem hlt] at e2
         simp only [Option.getD_some] at e2
         rcases Nat.lt_trichotomy j n with q|q|q
         · exact absurd e2 (List.pairwise_iff_getElem.1 hnd.out j n hjl hlt q)
         · exact q
         · exact absurd e2.symm (List.pairwise_iff_getElem.1 hnd.out n j hlt hjl q)
     have htk:l.take (j+1)=l.take j++[l.getD j default]:=by rw [List.take_succ_eq_append_getElem hjl];simp [hjl]
     obtain ⟨y,hy⟩:∃ y,l.getD j default=y:=⟨_,rfl⟩
     rw [hy] at e6 hym htk
     try rw [hy] at hjn
     unfold zp atR at e6
     have hoy:=hok.out y hym
     have kk4:=@hid _ (fun {L:List Blk} {K:AV→List Blk→Prop}=>kU.out y hym (L:=L) (K:=K))
     obtain ⟨u,hu⟩:∃ u,bD y.nm dn=u:=⟨_,rfl⟩
     rw [hu] at kk4
     have hstep:∀ {r:List az},doE 3 x.id dn tn v y=r→Hid (C++aM r=aM ((l.take (j+1)).flatMap (doE 3 x.id dn tn v)))∧Hid (cnt+r.length=((l.take (j+1)).flatMap (doE 3 x.id dn tn v)).length):=fun {r} e=>by
       rw [htk,List.flatMap_append,List.flatMap_cons,List.flatMap_nil,List.append_nil,e,pP,List.length_append,← hC.out,← hcnt.out]
       exact ⟨hid rfl,hid rfl⟩
     have fy1:AV.frzL (y.nm.map ao)=y.nm.map ao:=bc _
     have fy2:=gK y.av
     by_cases hjn2:j=n
     · have hyx:=hjn.1 hjn2
       subst hjn2
       obtain ⟨yi,hyi⟩:∃ i,y.id=i:=⟨_,rfl⟩
       obtain ⟨ya,hya⟩:∃ i,bg y.av=i:=⟨_,rfl⟩
       obtain ⟨yk,hyk⟩:∃ i,y.av.length=i:=⟨_,rfl⟩
       obtain ⟨yn,hyn⟩:∃ i,y.nm=i:=⟨_,rfl⟩
       rw [hyi,hya,hyk,hyn] at e6
       rw [hya] at fy2
       rw [hyn] at fy1 kk4
       have hst:=hstep (r:=[{ y with av:=v }]) (by simp [doE,hyx])
       have s3:aM [{ y with av:=v }]=[.int .i64 yi,dnA yn,.sl (bg v) v.length none]:=by rw [← hyi,← hyn];rfl
       have s1:=hst.1
       have s2:=hst.2
       rw [s3] at s1
       have s1:=hid s1.out
       have s2:=hid s2.out
       clear hst s3 hstep hC hcnt hy hym htk hoy hu kU hyi hya hyk hyn hok hnd
       refine wk ?_
       exact ay _ _ _ (by omega) (CutL (b:=by simp)) ⟨j+1,_,_,_,rfl,hjl,s1,s2,rfl,rfl⟩
     · have hyx:¬ y.id=x.id:=fun e=>hjn2 (hjn.2 e)
       have hjn3:¬ (j:Int)=(n:Int):=by omega
       obtain ⟨yi,hyi⟩:∃ i,y.id=i:=⟨_,rfl⟩
       obtain ⟨ya,hya⟩:∃ i,bg y.av=i:=⟨_,rfl⟩
       obtain ⟨yk,hyk⟩:∃ i,y.av.length=i:=⟨_,rfl⟩
       obtain ⟨yn,hyn⟩:∃ i,y.nm=i:=⟨_,rfl⟩
       rw [hyi,hya,hyk,hyn] at e6
       rw [hya] at fy2
       rw [hyn] at fy1 kk4
       have hst:=hstep (r:=[y]) (by simp [doE,hyx])
       have s3:aM [y]=[.int .i64 yi,dnA yn,.sl ya yk none]:=by rw [← hyi,← hya,← hyk,← hyn];rfl
       have s1:=hst.1
       have s2:=hst.2
       rw [s3] at s1
       have s1:=hid s1.out
       have s2:=hid s2.out
       clear hst s3 hstep hC hcnt hy hym htk hoy hu kU hyi hya hyk hyn hok hnd
       refine wk ?_
       exact ay _ _ _ (by omega) (CutL (b:=by simp)) ⟨j+1,_,_,_,rfl,hjl,s1,s2,rfl,rfl⟩
   · have hje:j=l.length:=by omega
     subst hje
     have j1:¬ (l.length:Int)<(l.length:Int):=by omega
     rw [List.take_length] at hC hcnt
     have fs:AV.frzL (suf.map ao)=suf.map ao:=bc _
     refine wk ?_
     refine zA rt (ar2 _ _) ?_
     rw [sr2]
     refine ak ?_
     have e1:=hC.out
     have e2:=hcnt.out
     rw [Ow] at e1 e2
     refine h.out _ none ?_ ((aH.set (B:=fun i=>i=rt) L rfl _).trans (aH.app _ _))
     rw [ar2]
     simp only [AV.frzL,AV.frz,dnA,fs,e1,e2,pN]
 rw [if_neg k3] at h ha
 by_cases k4:k=4
 · subst k4
   have htl:tn.length≤32:=(ht.canM hx ha).tok.len
   replace h:=hid h
   clear ha hable hL hk14
   refine aa dj (by simp [bf]) ?_
   simp only [bf,am]
   refine wk ?_
   refine cq (l:=[]) (n:=0) 7 3 rfl (Nat.zero_mul 3).symm ?_
   simp only [List.length_append,List.length_cons,List.length_nil,Nat.zero_add,List.append_assoc,List.cons_append,List.nil_append]
   refine ax (fun m T' L'=>∃ (j cnt:Nat) (C:List AV) (X:List Blk),m=l.length - j∧j≤l.length∧Hid (C=aM ((l.take j).flatMap (doE 4 x.id dn tn v)))∧Hid (cnt=((l.take j).flatMap (doE 4 x.id dn tn v)).length)∧T'=[(25,.int .i64 (j:Int)),(24,.int .i64 l.length),(23,.sl (aM l) l.length c),(7,.gsl C cnt (L.length+1) 3),(6,.int .i64 (n:Int)),(3,.ptr L.length 0),(0,.ptr rt 0)]∧L'=L++(.cells [.int .i64 4,dnA dn,dnA tn,.sl (bg v) v.length none] :: .spare cnt 3::X)) (CutS (b:=by simp)) ⟨0,0,[],[],rfl,Nat.zero_le _,hid rfl,hid rfl,rfl,by simp⟩ ?_
   rintro _ _ _ ⟨j,cnt,C,X,rfl,hj,hC,hcnt,rfl,rfl⟩
   have hgX:∀ (a s b:Blk) (Y:List Blk),(L++a::s::(X++b::Y))[L.length+(X.length+1+1)]?=some b:=fun a s b Y=>by
     rw [List.getElem?_append_right (by omega),show L.length+(X.length+1+1) - L.length=X.length+1+1 by omega,List.getElem?_cons_succ,List.getElem?_cons_succ,List.getElem?_append_right (Nat.le_refl _)];simp
   have hsX:∀ (a s b b':Blk) (Y:List Blk),(L++a::s::(X++b::Y)).set (L.length+(X.length+1+1)) b'=L++a::s::(X++b'::Y):=fun a s b b' Y=>by
     rw [List.set_append_right _ _ (by omega),show L.length+(X.length+1+1) - L.length=X.length+1+1 by omega,List.set_cons_succ,List.set_cons_succ,List.set_append_right _ _ (Nat.le_refl _)];simp
   have hcb:cnt≤l.length:=by
     rw [hcnt.out];exact Nat.le_trans (C4 _ _ _ _ _ _) (by simp;omega)
   by_cases hjl:j<l.length
   · have j1:(j:Int)<(l.length:Int):=by omega
     have j2:IntKind.i64.wrap ((j:Int)+1)=(j:Int)+1:=ah (by omega) (by omega)
     have e6:=pO hjl
     have e7:j * 3+3≤(aM l).length:=by rw [hel];omega
     have hym:l.getD j default∈l:=by simp [hjl]
     have hjn:j=n↔(l.getD j default).id=x.id:=by
       rw [← hxe]
       constructor
       · intro e;rw [e]
       · intro e
         have e2:=ht.byI hym (by simp [hlt]:l.getD n default∈l) e
         rw [List.getD_eq_getElem?_getD,List.getD_eq_getElem?_getD,List.getElem?_eq_getElem hjl,List.getElem?_eq_getElem hlt] at e2
         simp only [Option.getD_some] at e2
         rcases Nat.lt_trichotomy j n with q|q|q
         · exact absurd e2 (List.pairwise_iff_getElem.1 hnd.out j n hjl hlt q)
         · exact q
         · exact absurd e2.symm (List.pairwise_iff_getElem.1 hnd.out n j hlt hjl q)
     have htk:l.take (j+1)=l.take j++[l.getD j default]:=by rw [List.take_succ_eq_append_getElem hjl];simp [hjl]
     obtain ⟨y,hy⟩:∃ y,l.getD j default=y:=⟨_,rfl⟩
     rw [hy] at e6 hym htk
     try rw [hy] at hjn
     unfold zp atR at e6
     have hoy:=hok.out y hym
     have kk4:=@hid _ (fun {L:List Blk} {K:AV→List Blk→Prop}=>kU.out y hym (L:=L) (K:=K))
     obtain ⟨u,hu⟩:∃ u,bD y.nm dn=u:=⟨_,rfl⟩
     rw [hu] at kk4
     have hstep:∀ {r:List az},doE 4 x.id dn tn v y=r→Hid (C++aM r=aM ((l.take (j+1)).flatMap (doE 4 x.id dn tn v)))∧Hid (cnt+r.length=((l.take (j+1)).flatMap (doE 4 x.id dn tn v)).length):=fun {r} e=>by
       rw [htk,List.flatMap_append,List.flatMap_cons,List.flatMap_nil,List.append_nil,e,pP,List.length_append,← hC.out,← hcnt.out]
       exact ⟨hid rfl,hid rfl⟩
     have fy1:AV.frzL (y.nm.map ao)=y.nm.map ao:=bc _
     have fy2:=gK y.av
     by_cases hjn2:j=n
     · have hyx:=hjn.1 hjn2
       subst hjn2
       cases u with
       | true =>
         have hyle:dn.length≤y.nm.length:=by
           have:=(bw.1 hu).2.2.length_le
           rwa [aQ,aQ] at this
         have hy32:=hoy.len
         have hdl:=hod.len
         obtain ⟨Z,hZe⟩:∃ Z,eO y.nm dn.length tn=Z:=⟨_,rfl⟩
         have hZl:Z.length≤1100000∧∀ r∈Z,r.length≤1100000:=by
           rw [← hZe]
           unfold eO
           refine ⟨by simp;omega,fun r hr=>?_⟩
           rcases List.mem_append.1 hr with hr|hr
           · exact (hoy.m.b.2 r (List.mem_of_mem_take hr))
           · exact htm.b.2 r hr
         have kk5:Hid (Ctr Tryz.prog 62 [dnA y.nm,.int .i64 (dn.length:Int),dnA tn] (dnA Z)):=@hid _ (by
           intro L K q
           exact FC (by omega) (by omega) hyle (by rw [hZe];exact q))
         have kk6:Hid (Ctr Tryz.prog 51 [dnA Z] (dnA Z)):=@hid _ (by intro L K q;exact Ge hZl.1 hZl.2 q)
         have fZ:AV.frzL (Z.map ao)=Z.map ao:=bc _
         obtain ⟨yi,hyi⟩:∃ i,y.id=i:=⟨_,rfl⟩
         obtain ⟨ya,hya⟩:∃ i,bg y.av=i:=⟨_,rfl⟩
         obtain ⟨yk,hyk⟩:∃ i,y.av.length=i:=⟨_,rfl⟩
         obtain ⟨yn,hyn⟩:∃ i,y.nm=i:=⟨_,rfl⟩
         rw [hyi,hya,hyk,hyn] at e6
         rw [hya] at fy2
         rw [hyn] at fy1 kk4 kk5
         have hst:=hstep (r:=[{ y with nm:=Z,av:=v }]) (by simp [doE,hyx,hu,hZe])
         have s3:aM [{ y with nm:=Z,av:=v }]=[.int .i64 yi,dnA Z,.sl (bg v) v.length none]:=by rw [← hyi];rfl
         have s1:=hst.1
         have s2:=hst.2
         rw [s3] at s1
         have s1:=hid s1.out
         have s2:=hid s2.out
         clear hZe hZl hyle hst s3 hstep hC hcnt hy hym htk hoy hu kU hyi hya hyk hyn hok hnd
         refine wk ?_
         exact ay _ _ _ (by omega) (CutL (b:=by simp)) ⟨j+1,_,_,_,rfl,hjl,s1,s2,rfl,rfl⟩
       | false =>
         have:=ht.byI hym hxl hyx
         subst this
         rw [hxu] at hu;cases hu
     · have hyx:¬ y.id=x.id:=fun e=>hjn2 (hjn.2 e)
       have hjn3:¬ (j:Int)=(n:Int):=by omega
       cases u with
       | true =>
         have hyle:dn.length≤y.nm.length:=by
           have:=(bw.1 hu).2.2.length_le
           rwa [aQ,aQ] at this
         have hy32:=hoy.len
         have hdl:=hod.len
         obtain ⟨Z,hZe⟩:∃ Z,eO y.nm dn.length tn=Z:=⟨_,rfl⟩
         have hZl:Z.length≤1100000∧∀ r∈Z,r.length≤1100000:=by
           rw [← hZe]
           unfold eO
           refine ⟨by simp;omega,fun r hr=>?_⟩
           rcases List.mem_append.1 hr with hr|hr
           · exact (hoy.m.b.2 r (List.mem_of_mem_take hr))
           · exact htm.b.2 r hr
         have kk5:Hid (Ctr Tryz.prog 62 [dnA y.nm,.int .i64 (dn.length:Int),dnA tn] (dnA Z)):=@hid _ (by
           intro L K q
           exact FC (by omega) (by omega) hyle (by rw [hZe];exact q))
         have kk6:Hid (Ctr Tryz.prog 51 [dnA Z] (dnA Z)):=@hid _ (by intro L K q;exact Ge hZl.1 hZl.2 q)
         have fZ:AV.frzL (Z.map ao)=Z.map ao:=bc _
         obtain ⟨yi,hyi⟩:∃ i,y.id=i:=⟨_,rfl⟩
         obtain ⟨ya,hya⟩:∃ i,bg y.av=i:=⟨_,rfl⟩
         obtain ⟨yk,hyk⟩:∃ i,y.av.length=i:=⟨_,rfl⟩
         obtain ⟨yn,hyn⟩:∃ i,y.nm=i:=⟨_,rfl⟩
         rw [hyi,hya,hyk,hyn] at e6
         rw [hya] at fy2
         rw [hyn] at fy1 kk4 kk5
         have hst:=hstep (r:=[{ y with nm:=Z }]) (by simp [doE,hyx,hu,hZe])
         have s3:aM [{ y with nm:=Z }]=[.int .i64 yi,dnA Z,.sl ya yk none]:=by rw [← hyi,← hya,← hyk];rfl
         have s1:=hst.1
         have s2:=hst.2
         rw [s3] at s1
         have s1:=hid s1.out
         have s2:=hid s2.out
         clear hZe hZl hyle hst s3 hstep hC hcnt hy hym htk hoy hu kU hyi hya hyk hyn hok hnd
         refine wk ?_
         exact ay _ _ _ (by omega) (CutL (b:=by simp)) ⟨j+1,_,_,_,rfl,hjl,s1,s2,rfl,rfl⟩
       | false =>
         obtain ⟨yi,hyi⟩:∃ i,y.id=i:=⟨_,rfl⟩
         obtain ⟨ya,hya⟩:∃ i,bg y.av=i:=⟨_,rfl⟩
         obtain ⟨yk,hyk⟩:∃ i,y.av.length=i:=⟨_,rfl⟩
         obtain ⟨yn,hyn⟩:∃ i,y.nm=i:=⟨_,rfl⟩
         rw [hyi,hya,hyk,hyn] at e6
         rw [hya] at fy2
         rw [hyn] at fy1 kk4
         have hst:=hstep (r:=[y]) (by simp [doE,hyx,hu])
         have s3:aM [y]=[.int .i64 yi,dnA yn,.sl ya yk none]:=by rw [← hyi,← hya,← hyk,← hyn];rfl
         have s1:=hst.1
         have s2:=hst.2
         rw [s3] at s1
         have s1:=hid s1.out
         have s2:=hid s2.out
         clear hst s3 hstep hC hcnt hy hym htk hoy hu kU hyi hya hyk hyn hok hnd
         refine wk ?_
         exact ay _ _ _ (by omega) (CutL (b:=by simp)) ⟨j+1,_,_,_,rfl,hjl,s1,s2,rfl,rfl⟩
   · have hje:j=l.length:=by omega
     subst hje
     have j1:¬ (l.length:Int)<(l.length:Int):=by omega
     rw [List.take_length] at hC hcnt
     have fs:AV.frzL (suf.map ao)=suf.map ao:=bc _
     refine wk ?_
     refine zA rt (ar2 _ _) ?_
     rw [sr2]
     refine ak ?_
     have e1:=hC.out
     have e2:=hcnt.out
     rw [Ov] at e1 e2
     refine h.out _ none ?_ ((aH.set (B:=fun i=>i=rt) L rfl _).trans (aH.app _ _))
     rw [ar2]
     simp only [AV.frzL,AV.frz,dnA,fs,e1,e2,pN]
 exact absurd (by omega:k<1∨4<k) hk14
theorem Oe {suf:List Rdn} {last:Int} {l:List az} (ht:TOk suf last l) (hn:l.length≤900000) (hl0:0≤last) (hl1:last≤1000000) {rt:Nat} {c:Option Nat} {L:List Blk} (hL:L[rt]?=some (.cells [dnA suf,.sl (aM l) l.length c,.int .i64 last]))
   {dn tn:List Rdn} {k:Int} {v:List Atr} (hdm:dnM dn) (htm:dnM tn) (hvl:v.length≤1100000) (hvz:∀ a∈v,a.2.length≤1100000) {K:AV→List Blk→Prop}
   (h:∀ L' c',L'[rt]?=some (.cells [dnA suf,.sl (aM (doT suf l last k dn tn v).1) (doT suf l last k dn tn v).1.length c',.int .i64 (doT suf l last k dn tn v).2])→aH (fun i=>i=rt) L L'→K (.int .i64 (b8 suf l k dn tn)) L') :
   ab Tryz.prog 29 [.ptr rt 0,.agg [.int .i64 k,dnA dn,dnA tn,atR v]] L K:=by
 by_cases ha:b8 suf l k dn tn=0
 · exact Nt ht hn hl0 hl1 hL hdm htm hvl hvz ha (by rw [ha] at h;exact h)
 have hrl:=(List.getElem?_eq_some_iff.1 hL).1
 have ar:∀ X:List Blk,(L++X)[rt]?=some (.cells [dnA suf,.sl (aM l) l.length c,.int .i64 last]):=fun X=>by rw [List.getElem?_append_left hrl];exact hL
 have kk1:Hid (∀ {X:List Blk} {K:AV→List Blk→Prop},K (.int .i64 (b8 suf l k dn tn)) (L++X)→ab Tryz.prog 28 [.ptr rt 0,.agg [.int .i64 k,dnA dn,dnA tn,.sl (bg v) v.length none]] (L++X) K):=@hid _ (by
   intro X K q
   exact Iu ht (by omega) (ar X) hdm htm q)
 unfold doT at h
 rw [if_pos ha] at h
 obtain ⟨z,hz⟩:∃ z,b8 suf l k dn tn=z:=⟨_,rfl⟩
 rw [hz] at kk1 h ha
 have j1:¬ z=0:=ha
 have h2:Hid (K (.int .i64 z) (L++[.cells [.int .i64 k,dnA dn,dnA tn,.sl (bg v) v.length none]])):=hid (h _ c (ar _) (aH.app _ _))
 clear h ht hL hz
 unfold atR
 refine aa dj (by simp [bf]) ?_
 simp only [bf,am]
 refine wk ?_
 exact ak h2.out
end Go.Proofs.YtdhjplmjpjfjnaaGreat.Av
