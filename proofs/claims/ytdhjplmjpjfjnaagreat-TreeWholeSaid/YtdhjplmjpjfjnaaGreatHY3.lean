/- Joined texts of the walk, made small by a program. -/
import Derived.Test.YtdhjplmjpjfjnaaGreatHY2
set_option linter.unusedSimpArgs false
set_option linter.unusedVariables false
namespace Go.Proofs.YtdhjplmjpjfjnaaGreat.Av
open Go
set_option maxHeartbeats 8000000
set_option maxRecDepth 100000
theorem Nm {d:List Rdn} {cap:Option Nat} (hd:dnB d) {L:List Blk} {iv mn mi:Nat} {nb bn:Int→Nat} {ck ci:Nat} {rs:List TKy} {suf:List Rdn} {last:Int} {l:List az} (ht:TOk suf last l) (hc:aR L iv mn mi nb bn ck ci rs suf last l) {K:AV→List Blk→Prop} (h:K (dnA (HB l d)) L) :
   ab Tryz.prog 19 [.ptr iv 0,.sl (d.map ao) d.length cap] L K:=by
 obtain ⟨⟨ps,pe⟩,hp⟩:∃ q,prS d=q:=⟨_,rfl⟩
 have kk1:Hid (Ctr Tryz.prog 50 [.sl (d.map ao) d.length cap] (.tup [.str ps,.int .i64 pe])):=@hid _ (by intro L K q;exact pW hd.1 hd.2 (by rw [hp];exact q))
 have p1:OkD d↔pe=0:=by unfold OkD;rw [hp]
 have hv:=hc.v
 have hn:=hc.n
 unfold HB at h
 by_cases h0:pe=0
 rotate_left
 · rw [if_neg (fun c=>h0 (p1.1 c))] at h
   replace h:=hid h
   clear hc ht hp p1 hd
   refine aa gG (by simp [cS]) ?_
   simp only [cS,am]
   refine wk ?_
   refine cz ?_
   rw [show (AV.sl [] 0 (some 0)).frz=dnA [] from rfl]
   exact ak h.out
 have hod:=p1.2 h0
 have hlen:=hod.len
 rw [if_pos hod] at h
 obtain ⟨R,hR⟩:∃ R,FG l d=R:=⟨_,rfl⟩
 rw [hR] at h
 replace h:=hid h
 replace hR:=hid hR
 replace hc:=hid hc
 replace ht:=hid ht
 replace hod:=hid hod
 subst h0
 clear hp p1 hd
 refine aa gG (by simp [cS]) ?_
 simp only [cS,am]
 refine wk ?_
 refine ax (fun m T' L'=>∃ k:Nat,m=d.length - k∧k≤d.length∧Hid (FG l (d.drop k)=R)∧T'=[(22,.int .i64 (k:Int)),(21,.int .i64 d.length),(0,.ptr iv 0),(1,.sl (d.map ao) d.length cap)]∧L=L') (CutS (b:=Nat.le_refl _)) ⟨0,rfl,Nat.zero_le _,hid hR.out,rfl,rfl⟩ ?_
 rintro _ _ L' ⟨k,rfl,hk,hI,rfl,e⟩
 subst e
 clear hR
 by_cases hlt:k<d.length
 · have g1:(k:Int)<(d.length:Int):=by omega
   have g2:IntKind.i64.wrap ((k:Int)+1)=(k:Int)+1:=ah (by omega) (by omega)
   have g3:(k:Int)≤(d.length:Int):=by omega
   have hdk:=hod.out.drop k
   have kk2:Hid (∀ {c:Option Nat} {K:AV→List Blk→Prop},K (.int .i64 (aN l (d.drop k))) L→ab Tryz.prog 15 [.ptr iv 0,.sl (List.take (d.length - k) (List.drop k (d.map ao))) (d.length - k) c] L K):=@hid _ (by
     intro c K q
     have:=ov (cap:=c) hdk.m.b ht.out hc.out q
     rw [List.length_drop] at this
     rw [← List.map_drop,List.take_of_length_le (by simp)]
     exact this)
   have hdc:d.drop k=d.getD k []::d.drop (k+1):=by rw [List.drop_eq_getElem_cons hlt];simp [hlt]
   have hI2:=hI.out
   rw [hdc,FG,← hdc] at hI2
   cases ha:atE l (d.drop k) with
   | none =>
     rw [ht.out.find0.2 ha] at kk2
     rw [ha] at hI2
     simp only at hI2
     replace hI2:=hid hI2
     clear hdk hdc ha hI
     refine wk ?_
     exact ay _ _ _ (by omega) (CutL (b:=by simp)) ⟨k+1,rfl,hlt,hid hI2.out,rfl,rfl⟩
   | some x =>
     obtain ⟨_,hxm,_⟩:=bE ha
     have hf:aN l (d.drop k)=x.id:=by unfold aN;rw [ha]
     have hxi:=(ht.out.ids x hxm).1
     rw [hf] at kk2
     rw [ha] at hI2
     simp only at hI2
     have hox:=(ht.out.ok x hxm).m.b
     rcases hc.out.node x.id with ⟨e1,_⟩|⟨y,n,e1,_,_,e2,e3⟩
     · rw [ht.out.ent hxm] at e1;cases e1
     rw [ht.out.ent hxm] at e1
     cases e1
     unfold gE at e3
     have h':=h.out
     rw [← hI2] at h'
     obtain ⟨xi,hxi'⟩:∃ i,x.id=i:=⟨_,rfl⟩
     rw [hxi'] at hxi kk2 e2 e3
     obtain ⟨xn,hxn⟩:∃ n,x.nm=n:=⟨_,rfl⟩
     rw [hxn] at h' hox e3
     have kk3:Hid (∀ {c:Option Nat} {L:List Blk} {K:AV→List Blk→Prop},K (dnA xn) L→ab Tryz.prog 47 [.sl (xn.map ao) xn.length none,.sl [] 0 c] L K):=@hid _ (by intro c L K q;exact FK hox.1 hox.2 q)
     have g4:(0:Int)<xi:=by omega
     have hkf:aT .int (.int .i64 xi)=true:=rfl
     replace h':=hid h'
     clear hdk hdc ha hI hI2 hf hxm hox hxi' hxn
     refine wk ?_
     exact ak h'.out
 · have hke:k=d.length:=by omega
   subst hke
   have g1:¬ (d.length:Int)<(d.length:Int):=by omega
   have hIe:=hI.out
   rw [List.drop_length,FG] at hIe
   have h':=h.out
   rw [← hIe] at h'
   replace h':=hid h'
   clear hI hIe
   refine wk ?_
   refine cz ?_
   rw [show (AV.sl [] 0 (some 0)).frz=dnA [] from rfl]
   exact ak h'.out
theorem Nq {suf:List Rdn} {last:Int} {l:List az} (ht:TOk suf last l) {d:List Rdn} {cap:Option Nat} (hd:dnM d) {rt:Nat} {c:Option Nat} {a b:AV} (hn:l.length≤1100000) {L:List Blk} (hL:L[rt]?=some (.cells [a,.sl (aM l) l.length c,b])) {K:AV→List Blk→Prop} (h:K (dnA (HB l d)) L) :
   ab Tryz.prog 20 [.ptr rt 0,.sl (d.map ao) d.length cap] L K:=by
 rw [← ID ht d] at h
 obtain ⟨R,hR⟩:∃ R,Eu d [] l=R:=⟨_,rfl⟩
 rw [hR] at h
 replace h:=hid h
 replace hR:=hid hR
 have ho:=hid ht.ok
 have hel:=io l
 have kU:Hid (∀ y∈l,∀ {K:AV→List Blk→Prop},K (.bool (bD d y.nm)) L→ab Tryz.prog 22 [.sl (d.map ao) d.length cap,dnA y.nm] L K):=@hid _ (by intro y hy K q;exact oF hd (ho.out y hy).m q)
 clear ht hd
 refine aa pR (by simp [fa]) ?_
 simp only [fa,am]
 refine wk ?_
 refine ax (fun m T' L'=>∃ (k:Nat) (e:List Rdn) (ce:Option Nat),m=l.length - k∧k≤l.length∧Hid (Eu d e (l.drop k)=R)∧Hid (dnB e)∧T'=[(12,.int .i64 (k:Int)),(11,.int .i64 l.length),(5,.sl (e.map ao) e.length ce),(0,.ptr rt 0),(1,.sl (d.map ao) d.length cap)]∧L=L') (CutS (b:=Nat.le_refl _)) ⟨0,[],some 0,rfl,Nat.zero_le _,hid hR.out,hid ⟨by simp,by simp⟩,rfl,rfl⟩ ?_
 rintro _ _ L' ⟨k,e,ce,rfl,hk,hI,hB,rfl,eL⟩
 subst eL
 clear hR
 by_cases hlt:k<l.length
 · have g1:(k:Int)<(l.length:Int):=by omega
   have g2:IntKind.i64.wrap ((k:Int)+1)=(k:Int)+1:=ah (by omega) (by omega)
   obtain ⟨_,e6,_⟩:=iq hlt
   have e7:k * 3+1<(aM l).length:=by rw [hel];omega
   have hym:l.getD k default∈l:=by simp [hlt]
   have hdc:l.drop k=l.getD k default::l.drop (k+1):=by rw [List.drop_eq_getElem_cons hlt];simp [hlt]
   obtain ⟨y,hy⟩:∃ y,l.getD k default=y:=⟨_,rfl⟩
   rw [hy] at e6 hym hdc
   have kk2:=@hid _ (fun {K:AV→List Blk→Prop}=>kU.out y hym (K:=K))
   have hI2:=hI.out
   rw [hdc,Eu,List.foldl_cons,← Eu] at hI2
   have hyb:=(ho.out y hym).m.b
   obtain ⟨yn,hyn⟩:∃ yn,y.nm=yn:=⟨_,rfl⟩
   rw [hyn] at e6 kk2 hI2 hyb
   obtain ⟨u,hu⟩:∃ u,bD d yn=u:=⟨_,rfl⟩
   rw [hu] at kk2 hI2
   replace hyb:=hid hyb
   cases u with
   | false =>
     rw [if_neg (by simp)] at hI2
     replace hI2:=hid hI2
     clear hI hym hdc hy hyn hu kU
     refine wk ?_
     exact ay _ _ _ (by omega) (CutL (b:=by simp)) ⟨k+1,e,ce,rfl,hlt,hid hI2.out,hid hB.out,rfl,rfl⟩
   | true =>
     by_cases c1:e.length<yn.length
     · have j1:(yn.length:Int) > (e.length:Int):=by omega
       have j2:(e.length:Int)<(yn.length:Int):=by omega
       rw [if_pos ⟨rfl,c1⟩] at hI2
       replace hI2:=hid hI2
       clear hI hym hdc hy hyn hu kU
       refine wk ?_
       exact ay _ _ _ (by omega) (CutL (b:=by simp)) ⟨k+1,yn,none,rfl,hlt,hid hI2.out,hid hyb.out,rfl,rfl⟩
     · have j1:¬ ((yn.length:Int) > (e.length:Int)):=by omega
       have j2:¬ ((e.length:Int)<(yn.length:Int)):=by omega
       rw [if_neg (fun c=>c1 c.2)] at hI2
       replace hI2:=hid hI2
       clear hI hym hdc hy hyn hu kU
       refine wk ?_
       exact ay _ _ _ (by omega) (CutL (b:=by simp)) ⟨k+1,e,ce,rfl,hlt,hid hI2.out,hid hB.out,rfl,rfl⟩
 · have hke:k=l.length:=by omega
   subst hke
   have g1:¬ (l.length:Int)<(l.length:Int):=by omega
   have hIe:=hI.out
   rw [List.drop_length] at hIe
   have hIf:e=R:=hIe
   have h':=h.out
   rw [← hIf] at h'
   have kk3:Hid (∀ {c:Option Nat} {L:List Blk} {K:AV→List Blk→Prop},K (dnA e) L→ab Tryz.prog 51 [.sl (e.map ao) e.length c] L K):=@hid _ (by intro c L K q;exact Ge hB.out.1 hB.out.2 q)
   replace h':=hid h'
   clear hI hIe hIf kU hB ho
   refine wk ?_
   exact ak h'.out
end Go.Proofs.YtdhjplmjpjfjnaaGreat.Av
