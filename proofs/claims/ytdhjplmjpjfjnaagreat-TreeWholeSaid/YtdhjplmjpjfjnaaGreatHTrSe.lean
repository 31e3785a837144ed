/- Joined texts of the walk, made small by a program. -/
import Derived.Test.YtdhjplmjpjfjnaaGreatHTrSc
import Derived.Test.YtdhjplmjpjfjnaaGreatHTrSd
import Derived.Test.YtdhjplmjpjfjnaaGreatHC3
set_option linter.unusedSimpArgs false
set_option linter.unusedVariables false
namespace Go.Proofs.YtdhjplmjpjfjnaaGreat.Av
open Go
set_option maxHeartbeats 8000000
set_option maxRecDepth 100000
def G5 (v:List Atr):Prop:=v.length≤1100000∧∀ a∈v,a.2.length≤1100000
theorem NJ {suf:List Rdn} {l:List az} {last k:Int} {dn tn:List Rdn} {v:List Atr} (hl:∀ x∈l,G5 x.av) (hv:G5 v):∀ x∈(doT suf l last k dn tn v).1,G5 x.av:=by
 have hcha:∀ (l:List az) (i:Int),(∀ x∈l,G5 x.av)→∀ x∈mF l i v,G5 x.av:=fun l i h x hx=>by
   obtain ⟨y,hy,rfl⟩:=List.mem_map.1 hx
   split
   · exact hv
   · exact h y hy
 have hren:∀ x∈iB l dn tn,G5 x.av:=fun x hx=>by
   obtain ⟨y,hy,rfl⟩:=List.mem_map.1 hx
   split
   · exact hl y hy
   · exact hl y hy
 unfold doT
 split
 · exact hl
 split
 · intro x hx
   rcases List.mem_append.1 hx with hx|hx
   · exact hl x hx
   · rw [List.mem_singleton.1 hx];exact hv
 split
 · intro x hx;exact hl x (List.mem_filter.1 hx).1
 split
 · exact hcha l _ hl
 · exact hcha _ _ hren
structure Ll (L:List Blk) (it iv mn mi rt:Nat) (nb bn:Int→Nat) (ck ci:Nat) (rs:List TKy) (c:Option Nat) (suf:List Rdn) (last:Int) (l:List az):Prop where
 ok:TOk suf last l
 code:aR L iv mn mi nb bn ck ci rs suf last l
 it:L[it]?=some (.cells [.ptr iv 0])
 rt:L[rt]?=some (.cells [dnA suf,.sl (aM l) l.length c,.int .i64 last])
 ne:mn≠mi
 l0:0≤last
 l1:last≤100
 len:l.length≤100
 av:∀ x∈l,G5 x.av
theorem aR.noOf {L:List Blk} {iv mn mi:Nat} {nb bn:Int→Nat} {ck ci:Nat} {rs:List TKy} {suf:List Rdn} {last:Int} {l:List az} (h:aR L iv mn mi nb bn ck ci rs suf last l) {j:Nat} {c:List AV} (hj:L[j]?=some (.cells c)) (hc:c.length≠4∨∃ k z r,c=.int k z::r):¬ OfT iv mn mi nb l j:=by
 rintro (e|e|e|⟨x,hx,e⟩)
 · rw [e,h.v] at hj
   simp only [Option.some.injEq,Blk.cells.injEq] at hj
   rcases hc with hc|⟨k,z,r,hc⟩
   · exact hc (by rw [← hj];rfl)
   · rw [← hj] at hc;simp [dnA] at hc
 · rw [e,h.n] at hj;simp at hj
 · rw [e,h.i] at hj;simp at hj
 · rw [e,h.nd x hx] at hj
   simp only [Option.some.injEq,Blk.cells.injEq] at hj
   rcases hc with hc|⟨k,z,r,hc⟩
   · exact hc (by rw [← hj];rfl)
   · rw [← hj] at hc;simp [gE,dnA] at hc
theorem aR.keep {L L':List Blk} {iv mn mi:Nat} {nb bn:Int→Nat} {ck ci:Nat} {rs:List TKy} {suf:List Rdn} {last:Int} {l:List az} (h:aR L iv mn mi nb bn ck ci rs suf last l) {rt:Nat} {c:List AV} (hr:L[rt]?=some (.cells c)) (hc:c.length=3) (hb:aH (fun i=>i=rt) L L'):aR L' iv mn mi nb bn ck ci rs suf last l:=by
 have no:¬ OfT iv mn mi nb l rt:=h.noOf hr (.inl (by omega))
 have key:∀ {i:Nat} {b:Blk},OfT iv mn mi nb l i→L[i]?=some b→L'[i]?=some b:=fun {i b} ho e=>hb.get e fun e2=>no (by rw [← e2];exact ho)
 exact ⟨key (.inl rfl) h.v,key (.inr (.inl rfl)) h.n,key (.inr (.inr (.inl rfl))) h.i,fun x hx=>key (.inr (.inr (.inr ⟨x,hx,rfl⟩))) (h.nd x hx),h.keys,h.mem,h.bnd,h.blt⟩
def dx (L L':List Blk):Prop:=L.length≤L'.length∧∀ (j:Nat) (c:List AV),L[j]?=some (Blk.cells c)→c.length=2→L'[j]?=some (Blk.cells c)
theorem dx.refl (L:List Blk):dx L L:=⟨Nat.le_refl _,fun _ _ h _=>h⟩
theorem dx.app {L L':List Blk} (h:dx L L') (X:List Blk):dx L (L'++X):=⟨by have:=h.1;simp;omega,fun j c h1 h2=>by
 have:=h.2 j c h1 h2
 rw [List.getElem?_append_left (List.getElem?_eq_some_iff.1 this).1];exact this⟩
theorem dx.trans {A B C:List Blk} (h:dx A B) (g:dx B C):dx A C:=⟨Nat.le_trans h.1 g.1,fun j c h1 h2=>g.2 j c (h.2 j c h1 h2) h2⟩
theorem dx.tree {A L L':List Blk} {iv mn mi:Nat} {nb bn:Int→Nat} {ck ci:Nat} {rs:List TKy} {suf:List Rdn} {last:Int} {l:List az} (h:dx A L) (hc:aR L iv mn mi nb bn ck ci rs suf last l) (hb:aH (OfT iv mn mi nb l) L L'):dx A L':=h.trans ⟨hb.len,fun j c h1 h2=>hb.get h1 (hc.noOf h1 (.inl (by omega)))⟩
theorem dx.row {A L L':List Blk} {rt:Nat} {c0:List AV} (h:dx A L) (hr:L[rt]?=some (.cells c0)) (hc:c0.length=3) (hb:aH (fun i=>i=rt) L L'):dx A L':=h.trans ⟨hb.len,fun j c h1 h2=>hb.get h1 fun e=>by
 subst e;rw [hr] at h1;cases h1;omega⟩
structure Lg (u:Upd):Prop where
 dn:Ex u.dn∧∀ r∈u.dn,∀ a∈r,(a.1.length:Int)≤140737488351232
 to:Ex u.to∧∀ r∈u.to,∀ a∈r,(a.1.length:Int)≤140737488351232
 attrs:(u.attrs.length:Int)≤9223372036854775807
 names:∀ a∈u.attrs,(a.1.length:Int)≤140737488351232∧(a.2.length:Int)≤9223372036854775807
theorem Ir {d:List Rdn} (h:smD d=true) (h2:∀ r∈d,∀ a∈r,(a.1.length:Int)≤140737488351232):dnM d:=by
 simp only [smD,Bool.and_eq_true,decide_eq_true_eq,List.all_eq_true] at h
 refine ⟨by omega,fun r hm=>⟨?_,h2 r hm⟩⟩
 have:=h.2 r hm
 rcases r with _|⟨a,t⟩
 · simp
 · simp only [smR,List.all_cons,Bool.and_eq_true,smA,decide_eq_true_eq] at this
   have:=this.1.1
   simp only [List.length_cons] at this ⊢
   omega
theorem Oc {u:Upd} (hu:Lg u) (h:smU u=true):dnM u.dn∧dnM u.to∧G5 u.attrs:=by
 simp only [smU,Bool.and_eq_true] at h
 obtain ⟨h1,h2,h3⟩:=h
 obtain ⟨f1,f2⟩:=Mr h3
 exact ⟨Ir h1 hu.dn.2,Ir h2 hu.to.2,by omega,fun a ha=>by have:=(f2 a ha).1;omega⟩
theorem IW (us:List Upd):(us.flatMap sq).length=us.length * 4:=by
 induction us with
 | nil=>rfl
 | cons u us ih=>rw [List.flatMap_cons,List.length_append,ih,List.length_cons];simp only [List.length_cons,List.length_nil];omega
theorem Da:∀ {us:List Upd} {k:Nat},k<us.length→((us.flatMap sq).drop (k * 4)).take 4=sq (us.getD k IA)
 | u::us,0,_=>by rw [List.flatMap_cons];rfl
 | u::us,k+1,h=>by
   have ih:=Da (us:=us) (k:=k) (by simpa using h)
   rw [List.flatMap_cons,Nat.succ_mul]
   show ((us.flatMap sq).drop (k * 4)).take 4=_
   rw [ih];rfl
theorem Gh {d:List Rdn} (hd:Ex d) {L:List Blk} {c1 c2:Option Nat} {K:AV→List Blk→Prop} (h:K (.bool (smU ⟨0,d,[],[]⟩)) L) :
   ab Tryz.prog 14 [.agg [.int .i64 0,dnA d,.sl [] 0 c1,.sl [] 0 c2]] L K:=by
 refine pV ?_
 have:=Gg (u:=⟨0,d,[],[]⟩) hd ⟨by simp,by simp⟩ (by simp) (by simp) h
 have e:AV.frzL [.agg [.int .i64 0,dnA d,.sl [] 0 c1,.sl [] 0 c2]]=[AV.agg (sq ⟨0,d,[],[]⟩)]:=by
   simp only [AV.frzL,AV.frz,dnA,bc,sq];rfl
 rw [e];exact this
theorem DT {T:Tm} {x:Opd} {i:Nat} {L:List Blk} {a b c d:AV} (hx:evD T x=some (.ptr i 0)) (hb:L[i]?=some (.cells [a,b,c,d])):ag T L (.load true 4 x)=some (0+4≤4,.agg [a,b,c,d],L):=by
 simp [ag,hx,row,hb]
theorem NB {suf:List Rdn} (hs:Ex suf∧∀ r∈suf,∀ a∈r,(a.1.length:Int)≤140737488351232) {us:List Upd} (hn:(us.length:Int)≤9223372036854775807) (hu:∀ u∈us,Lg u) {cp:Option Nat} {L:List Blk} {K:AV→List Blk→Prop}
   (h0:∀ L',dx L L'→K (.tup [.nilptr,.nilptr]) L')
   (h1:∀ L' it iv mn mi rt nb bn ck ci rs c last l,Ll L' it iv mn mi rt nb bn ck ci rs c suf last l→dx L L'→K (.tup [.ptr it 0,.ptr rt 0]) L') :
   ab Tryz.prog 9 [dnA suf,.sl (us.flatMap sq) us.length cp] L K:=by
 have hsmall:∀ {L:List Blk} {c1 c2:Option Nat} {K:AV→List Blk→Prop},K (.bool (smU ⟨0,suf,[],[]⟩)) L→ab Tryz.prog 14 [.agg [.int .i64 0,dnA suf,.sl [] 0 c1,.sl [] 0 c2]] L K:=fun {L c1 c2 K} q=>Gh hs.1 q
 obtain ⟨sm,hsm⟩:∃ b,smU ⟨0,suf,[],[]⟩=b:=⟨_,rfl⟩
 rw [hsm] at hsmall
 have kk1:Hid (∀ {L:List Blk} {c1 c2:Option Nat} {K:AV→List Blk→Prop},K (.bool sm) L→ab Tryz.prog 14 [.agg [.int .i64 0,dnA suf,.sl [] 0 c1,.sl [] 0 c2]] L K):=@hid _ hsmall
 clear hsmall
 by_cases hl:40<us.length
 · have j1:(us.length:Int) > 40:=by omega
   have j2:(40:Int)<(us.length:Int):=j1
   have h:=hid (h0 L (dx.refl L))
   clear hu h0 h1 hs hn
   refine aa fD (by simp [cU]) ?_
   simp only [cU,am]
   refine wk ?_
   exact ak h.out
 have j1:¬ (us.length:Int) > 40:=by omega
 have j2:¬ (40:Int)<(us.length:Int):=j1
 cases sm with
 | false =>
   have h:=hid (h0 L (dx.refl L))
   clear hu h0 h1 hs hn
   refine aa fD (by simp [cU]) ?_
   simp only [cU,am]
   refine wk ?_
   exact ak h.out
 | true =>
 have hdm:dnM suf:=by
   simp only [smU,Bool.and_eq_true] at hsm
   exact Ir hsm.1 hs.2
 have hul:=IW us
 obtain ⟨US,hUS⟩:∃ US,us.flatMap sq=US:=⟨_,rfl⟩
 rw [hUS] at hul ⊢
 by_cases hok:OkD suf∧suf≠[]
 rotate_left
 · obtain ⟨z1,hz1⟩:∃ z,(∀ {K:AV→List Blk→Prop},K (.tup [.nilptr,.int .i64 z]) L→ab Tryz.prog 24 [dnA suf] L K)∧(∀ {K:AV→List Blk→Prop},K (.tup [.nilptr,.int .i64 z]) L→ab Tryz.prog 25 [dnA suf] L K):=by
     by_cases ho:OkD suf
     · have he:suf=[]:=by
         apply Classical.byContradiction
         exact fun e=>hok ⟨ho,e⟩
       exact ⟨2,fun {K} q=>CV hdm.b (fun e=>absurd ho e) (fun _=>q) (fun _ e=>absurd he e),fun {K} q=>Hs hdm (fun e=>absurd ho e) (fun _=>q) (fun _ e=>absurd he e)⟩
     · exact ⟨(prS suf).2,fun {K} q=>CV hdm.b (fun _=>q) (fun e=>absurd (e ▸ (by rfl:(prS []).2=0)) ho) (fun e=>absurd e ho),fun {K} q=>Hs hdm (fun _=>q) (fun e=>absurd (e ▸ (by rfl:(prS []).2=0)) ho) (fun e=>absurd e ho)⟩
   have kk2:Hid (∀ {K:AV→List Blk→Prop},K (.tup [.nilptr,.int .i64 z1]) L→ab Tryz.prog 24 [dnA suf] L K):=@hid _ (fun {K} q=>hz1.1 q)
   have kk3:Hid (∀ {K:AV→List Blk→Prop},K (.tup [.nilptr,.int .i64 z1]) L→ab Tryz.prog 25 [dnA suf] L K):=@hid _ (fun {K} q=>hz1.2 q)
   have h:=hid (h0 L (dx.refl L))
   have h':=hid (fun X=>h0 (L++X) ((dx.refl L).app X))
   have hat:=hid (fun k (q:k<us.length)=>Da q)
   rw [hUS] at hat
   clear hz1 h0 h1 hok hsm hs hu hdm hUS
   refine aa fD (by simp [cU]) ?_
   simp only [cU,am]
   refine wk ?_
   refine ax (fun m T' L'=>m=0∧T'=[(33,.int .i64 0),(32,.int .i64 us.length),(31,.sl US us.length cp),(8,.nilptr),(6,.nilptr)]∧L=L') (CutS (b:=Nat.le_refl _)) ⟨rfl,rfl,rfl⟩ ?_
   rintro _ _ L' ⟨rfl,rfl,e⟩
   subst e
   by_cases hz:0<us.length
   · have j3:(0:Int)<(us.length:Int):=by omega
     have e4:4≤US.length:=by omega
     have e5:=hat.out 0 hz
     rw [Nat.zero_mul,List.drop_zero] at e5
     obtain ⟨u,hu⟩:∃ u,us.getD 0 IA=u:=⟨_,rfl⟩
     rw [hu] at e5
     obtain ⟨uk,ud,ut,ua⟩:=u
     simp only [sq] at e5
     clear hu
     refine wk ?_
     exact ak (h'.out _)
   · have j3:¬ (0:Int)<(us.length:Int):=by omega
     refine wk ?_
     exact ak h.out
 obtain ⟨ho,hne⟩:=hok
 have kT:Hid (∀ {K:AV→List Blk→Prop},(∀ L1 it iv mn mi,Hid ((∃ nb bn ck ci rs,aR L1 iv mn mi nb bn ck ci rs suf 0 [])∧L1[it]?=some (.cells [.ptr iv 0])∧mn≠mi∧dx L L1)→K (.tup [.ptr it 0,.int .i64 0]) L1)→ab Tryz.prog 24 [dnA suf] L K):=@hid _ (by
   intro K q
   refine CV hdm.b (fun e=>absurd ho e) (fun e=>absurd e hne) fun _ _=>q _ _ (L.length+2) L.length (L.length+1) (hid ⟨⟨_,_,_,_,_,aR.start L suf⟩,?_,by omega,(dx.refl L).app _⟩)
   rw [List.getElem?_append_right (by omega)];simp)
 have kR:Hid (∀ {L1:List Blk} {K:AV→List Blk→Prop},(∀ L2 rt,Hid (L2=L1++[.cells [dnA suf,.sl [] 0 (some 0),.int .i64 0]]∧rt=L1.length)→K (.tup [.ptr rt 0,.int .i64 0]) L2)→ab Tryz.prog 25 [dnA suf] L1 K):=@hid _ (by
   intro L1 K q
   exact Hs hdm (fun e=>absurd ho e) (fun e=>absurd e hne) fun _ _=>q _ _ (hid ⟨rfl,rfl⟩))
 have hat:=hid (fun k (q:k<us.length)=>Da q)
 rw [hUS] at hat
 have hu2:=hid hu
 have h0':=hid h0
 have h1':=hid h1
 have htk:Hid (TOk suf 0 ([]:List az)):=hid (TOk.nil ho hne)
 clear h0 h1 hu hsm hs hdm hUS ho hne
 refine aa fD (by simp [cU]) ?_
 simp only [cU,am]
 obtain ⟨sp,hsp⟩:∃ sp,gu=sp:=⟨_,rfl⟩
 rw [hsp]
 replace hsp:=hid hsp
 refine wk ?_
 refine kT.out fun L1 it iv mn mi hT=>?_
 refine wk ?_
 refine kR.out fun L2 rt hR=>?_
 clear kT kR
 have hM0:Hid (∃ nb bn ck ci rs c last l,Ll L2 it iv mn mi rt nb bn ck ci rs c suf last l∧last≤(0:Nat)∧l.length≤0):=hid (by
   obtain ⟨⟨nb,bn,ck,ci,rs,hc⟩,hi,hne,hk⟩:=hT.out
   obtain ⟨rfl,rfl⟩:=hR.out
   refine ⟨nb,bn,ck,ci,rs,some 0,0,[],⟨htk.out,hc.app _,?_,?_,hne,Int.le_refl _,by decide,by simp,by simp⟩,Int.le_refl _,Nat.le_refl _⟩
   · rw [List.getElem?_append_left (List.getElem?_eq_some_iff.1 hi).1];exact hi
   · rw [List.getElem?_append_right (Nat.le_refl _)];simp [aM])
 have hK0:Hid (dx L L2):=hid (by
   obtain ⟨_,_,_,hk⟩:=hT.out
   obtain ⟨rfl,rfl⟩:=hR.out
   exact hk.app _)
 clear hT hR kk1 htk
 refine wk ?_
 refine ax (fun m T' L'=>∃ j:Nat,m=us.length - j∧j≤us.length∧Hid (L2.length≤L'.length)∧Hid (∃ nb bn ck ci rs c last l,Ll L' it iv mn mi rt nb bn ck ci rs c suf last l∧last≤(j:Int)∧l.length≤j)∧Hid (dx L L')∧T'=[(33,.int .i64 (j:Int)),(32,.int .i64 us.length),(31,.sl US us.length cp),(8,.ptr rt 0),(6,.ptr it 0)]) (CutS (b:=Nat.le_refl _)) ⟨0,rfl,Nat.zero_le _,hid (Nat.le_refl _),hM0,hK0,rfl⟩ ?_
 rintro _ _ L' ⟨j,rfl,hj,hle,hM,hK,rfl⟩
 by_cases hjl:j<us.length
 · have j3:(j:Int)<(us.length:Int):=by omega
   have j4:IntKind.i64.wrap ((j:Int)+1)=(j:Int)+1:=ah (by omega) (by omega)
   have e4:j * 4+4≤US.length:=by omega
   have e5:=hat.out j hjl
   have hq:=hu2.out (us.getD j IA) (by simp [hjl])
   obtain ⟨u,hu⟩:∃ u,us.getD j IA=u:=⟨_,rfl⟩
   rw [hu] at e5 hq
   obtain ⟨sm,hsm⟩:∃ b,smU u=b:=⟨_,rfl⟩
   have kk1:Hid (Ctr Tryz.prog 14 [.agg (sq u)] (.bool sm)):=@hid _ (by intro L K q;exact Gg hq.dn.1 hq.to.1 hq.attrs (fun a ha=>(hq.names a ha).2) (by rw [hsm];exact q))
   obtain ⟨uk,ud,ut,ua⟩:=u
   simp only [sq] at e5 kk1
   clear hu
   refine wk ?_
   obtain ⟨nb,bn,ck,ci,rs,c,last,l,hm,hla,hll⟩:=hM.out
   cases sm with
   | false =>
     have h0:=hid (fun X=>h0'.out (L'++X) (hK.out.app X))
     clear h0' h1'
     have hsp:=hsp.out
     subst hsp
     clear hM hK hm hu2 hsm hq
     refine wk ?_
     exact ak (h0.out _)
   | true =>
   obtain ⟨hdn,htn,hav⟩:=Oc hq hsm
   obtain ⟨Lb,hLb⟩:∃ Lb,L'++[Blk.cells [.int .i64 uk,dnA ud,dnA ut,.sl (bg ua) ua.length none]]=Lb:=⟨_,rfl⟩
   rw [hLb]
   have hsp:=hsp.out
   subst hsp
   have hbox:Lb[L'.length]?=some (.cells [.int .i64 uk,dnA ud,dnA ut,.sl (bg ua) ua.length none]):=by rw [← hLb];simp
   obtain ⟨z,hz⟩:∃ z,b8 suf l uk ud ut=z:=⟨_,rfl⟩
   have hD:∀ L3,L3=Lb→ab Tryz.prog 26 [.ptr it 0,.agg [.int .i64 uk,dnA ud,dnA ut,.sl (bg ua) ua.length none]] L3 fun av L4=>av=.int .i64 z∧(L4[L'.length]?=some (.cells [.int .i64 uk,dnA ud,dnA ut,.sl (bg ua) ua.length none])∧Lb.length≤L4.length∧dx L L4∧L4[it]?=some (.cells [.ptr iv 0])∧L4[rt]?=some (.cells [dnA suf,.sl (aM l) l.length c,.int .i64 last])∧∃ nb bn ck ci rs,aR L4 iv mn mi nb bn ck ci rs suf (doT suf l last uk ud ut ua).2 (doT suf l last uk ud ut ua).1):=by
     intro L3 h3
     rw [h3]
     have hkb:dx L Lb:=by rw [← hLb];exact hK.out.app _
     have hcb:aR Lb iv mn mi nb bn ck ci rs suf last l:=by rw [← hLb];exact hm.code.app _
     have hib:Lb[it]?=some (.cells [.ptr iv 0]):=by rw [← hLb,List.getElem?_append_left (List.getElem?_eq_some_iff.1 hm.it).1];exact hm.it
     have hrb:Lb[rt]?=some (.cells [dnA suf,.sl (aM l) l.length c,.int .i64 last]):=by rw [← hLb,List.getElem?_append_left (List.getElem?_eq_some_iff.1 hm.rt).1];exact hm.rt
     have hl1:=hm.l1
     have hln:=hm.len
     refine MS hm.ok hm.ne (by omega) hm.l0 (by omega) hib hcb hdn.b htn.b hav.1 hav.2 fun L6 nb' bn' ck' ci' rs' q1 q2 q3=>?_
     exact ⟨by rw [hz],q3.get hbox (hcb.noOf hbox (.inr ⟨_,_,_,rfl⟩)),q3.len,hkb.tree hcb q3,q2,q3.get hrb (hcb.noOf hrb (.inl (by simp))),nb',bn',ck',ci',rs',q1⟩
   refine JW ?_
   refine Es rfl rfl trivial ?_
   refine Es rfl rfl trivial ?_
   refine Es rfl rfl trivial ?_
   refine Er rfl rfl rfl trivial ?_
   refine Er rfl rfl rfl trivial ?_
   refine Es rfl rfl trivial ?_
   refine Es rfl rfl trivial ?_
   refine F7 rfl (fun M' hM' L3 hL3=>Ep (DT (i:=L'.length) rfl (a:=.int .i64 uk) (b:=dnA ud) (c:=dnA ut) (d:=.sl (bg ua) ua.length none) ?_) (by decide)) ?_
   · simp only [List.take_succ_cons,List.take_zero,List.mem_singleton] at hM'
     subst hM'
     rw [hL3];exact hbox
   refine F7 (v:=.bool true) rfl (fun M' hM' L3 hL3=>Lv rfl (kk1.out ⟨rfl,rfl⟩)) ?_
   refine Er rfl rfl rfl trivial ?_
   refine Es rfl rfl trivial ?_
   refine Es rfl rfl trivial ?_
   refine Er rfl rfl rfl trivial ?_
   refine F7 rfl (fun M' hM' L3 hL3=>Ep (DT (i:=L'.length) rfl (a:=.int .i64 uk) (b:=dnA ud) (c:=dnA ut) (d:=.sl (bg ua) ua.length none) ?_) (by decide)) ?_
   · simp only [List.take_succ_cons,List.take_zero,List.mem_singleton] at hM'
     subst hM'
     rw [hL3];exact hbox
   refine Oa rfl rfl hD ?_
   refine Er rfl rfl rfl trivial ?_
   refine F7 rfl (fun M' hM' L3 hL3=>Ep (DT (i:=L'.length) rfl (a:=.int .i64 uk) (b:=dnA ud) (c:=dnA ut) (d:=.sl (bg ua) ua.length none) ?_) (by decide)) ?_
   · simp only [List.take_succ_cons,List.take_zero,List.mem_cons,List.not_mem_nil,or_false] at hM'
     rcases hM' with e|e
     · subst e;exact hL3.1
     · subst e;rw [hL3];exact hbox
   intro L4 hL4
   obtain ⟨g1,g2,g3,g4,g5,nb',bn',ck',ci',rs',g6⟩:=hL4
   have kR2:Hid (∀ {K:AV→List Blk→Prop},(∀ L5,Hid (∃ nb bn ck ci rs c last l,Ll L5 it iv mn mi rt nb bn ck ci rs c suf last l∧last≤((j+1:Nat):Int)∧l.length≤j+1)→Hid (dx L L5)→Hid (L2.length≤L5.length)→K (.int .i64 z) L5)→ab Tryz.prog 29 [.ptr rt 0,.agg [.int .i64 uk,dnA ud,dnA ut,.sl (bg ua) ua.length none]] L4 K):=@hid _ (by
     intro K q
     have hl1:=hm.l1
     have hln:=hm.len
     obtain ⟨d1,d2,d3,d4⟩:=hm.ok.done hm.l0 uk ud ut ua
     refine Oe hm.ok (by omega) hm.l0 (by omega) g5 hdn htn hav.1 hav.2 fun L5 c' r1 r2=>?_
     rw [hz]
     refine q L5 (hid ⟨nb',bn',ck',ci',rs',c',_,_,⟨d1,g6.keep g5 rfl r2,r2.get g4 fun e=>?_,r1,hm.ne,Int.le_trans hm.l0 d2,by omega,by omega,NJ hm.av hav⟩,by omega,by omega⟩) (hid (g3.row g5 rfl r2)) (hid ?_)
     · rw [e,g5] at g4;simp at g4
     · have a1:=hle.out
       have a2:=r2.len
       have a3:L'.length≤Lb.length:=by rw [← hLb];simp
       omega)
   have j5:(!decide (z=z))=false:=by simp
   clear g1 g2 g3 g4 g5 g6 hD hz hbox hLb hav htn hdn hsm hm hla hll hq hM hK hle hu2 h0' h1' hat hM0 hK0 kk1
   simp only [gu,SOp.flatL,SOp.flat,List.cons_append,List.nil_append,List.append_nil,List.length_cons,List.length_nil,List.drop_succ_cons,List.drop_zero,List.drop]
   refine sk ?_
   refine kR2.out fun L5 hM5 hK5 hl5=>?_
   refine wk ?_
   exact ay _ _ _ (by omega) (CutL (b:=hl5.out)) ⟨j+1,rfl,hjl,hl5,hM5,hK5,rfl⟩
 · have hje:j=us.length:=by omega
   subst hje
   have j3:¬ (us.length:Int)<(us.length:Int):=by omega
   refine wk ?_
   obtain ⟨nb,bn,ck,ci,rs,c,last,l,hm,_,_⟩:=hM.out
   exact ak (h1'.out _ _ _ _ _ _ _ _ _ _ _ _ _ _ hm hK.out)
end Go.Proofs.YtdhjplmjpjfjnaaGreat.Av
