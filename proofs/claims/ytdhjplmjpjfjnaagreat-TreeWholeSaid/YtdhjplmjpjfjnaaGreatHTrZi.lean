/- Joined texts of the walk, made small by a program. -/
import Derived.Test.YtdhjplmjpjfjnaaGreatHY0
set_option linter.unusedSimpArgs false
set_option linter.unusedVariables false
namespace Go.Proofs.YtdhjplmjpjfjnaaGreat.Av
open Go
set_option maxHeartbeats 8000000
set_option maxRecDepth 100000
theorem OfT.lt {L:List Blk} {iv mn mi:Nat} {nb bn:Int→Nat} {ck ci:Nat} {rs:List TKy} {suf:List Rdn} {last:Int} {l lk:List az} {kd:Int→Int} (h:a6 L iv mn mi nb bn ck ci rs suf last l lk kd) {i:Nat} (hi:OfT iv mn mi nb l i):i<L.length:=by
 rcases hi with rfl|rfl|rfl|⟨x,hx,rfl⟩
 · exact (List.getElem?_eq_some_iff.1 h.v).1
 · exact (List.getElem?_eq_some_iff.1 h.n).1
 · exact (List.getElem?_eq_some_iff.1 h.i).1
 · exact (List.getElem?_eq_some_iff.1 (h.nd x hx)).1
theorem Kk {suf:List Rdn} {last:Int} {l:List az} (ht:TOk suf last l) (x:az) (s:Int):((scL l x s).map (·.id)).Nodup:=by
 have hn:=ht.inv.ids
 unfold cE at hn
 rw [List.map_map] at hn
 have:((l.filter (eQ x s)).map (·.id)).Nodup:=(List.filter_sublist.map _).nodup hn
 exact ((List.mergeSort_perm _ _).map _).nodup_iff.2 this
section
variable {L:List Blk} {iv mn mi it:Nat} {nb bn:Int→Nat} {ck ci:Nat} {rs:List TKy} {suf:List Rdn} {last:Int} {l:List az}
theorem Ot (ht:TOk suf last l) (n23:mn≠mi) (hln:l.length≤1000000) (hit:L[it]?=some (.cells [.ptr iv 0])) (hc:aR L iv mn mi nb bn ck ci rs suf last l)
   {dn tn:List Rdn} {v:List Atr} (hdb:dnB dn) (htb:dnB tn) (hvl:v.length≤1100000) (hvz:∀ a∈v,a.2.length≤1100000) {x:az} (hx:atE l dn=some x) (hmv:FD suf l x.id dn tn=0) {K:AV→List Blk→Prop}
   (h:∀ L' ci' rs',aR L' iv mn mi nb bn ck ci' rs' suf last (mF (iB l dn tn) x.id v)→L'[it]?=some (.cells [.ptr iv 0])→aH (OfT iv mn mi nb l) L L'→K (.int .i64 0) L') :
   ab Tryz.prog 26 [.ptr it 0,.agg [.int .i64 4,dnA dn,dnA tn,atR v]] L K:=by
 obtain ⟨hod,hxl,hxe⟩:=bE hx
 have hcm:=ht.canM hx hmv
 have ha:b8 suf l 4 dn tn=0:=by unfold b8;rw [if_neg (by decide),if_neg (by decide),hx];exact hmv
 have hfx:aN l dn=x.id:=by unfold aN;rw [hx]
 have hK:=hc.toK ht
 have nit:=hK.noIt hit
 have hvw:=hc.v
 have hivl:iv<L.length:=(List.getElem?_eq_some_iff.1 hvw).1
 have hmil:mi<L.length:=(List.getElem?_eq_some_iff.1 hc.i).1
 have hitl:it<L.length:=(List.getElem?_eq_some_iff.1 hit).1
 have nob:¬ OfT iv mn mi nb l L.length:=fun e=>Nat.lt_irrefl _ (OfT.lt hK e)
 have av:∀ X:List Blk,(L++X)[iv]?=some (.cells [dnA suf,.lmap mn,.lmap mi,.int .i64 last]):=fun X=>by rw [List.getElem?_append_left hivl];exact hvw
 have at':∀ X:List Blk,(L++X)[it]?=some (.cells [.ptr iv 0]):=fun X=>by rw [List.getElem?_append_left hitl];exact hit
 have kk1:Hid (∀ {X:List Blk} {K:AV→List Blk→Prop},K (.int .i64 0) (L++X)→ab Tryz.prog 27 [.ptr iv 0,.agg [.int .i64 4,dnA dn,dnA tn,.sl (bg v) v.length none]] (L++X) K):=@hid _ (by
   intro X K q
   exact xO ht (by omega) (hc.app X) hdb htb (by rw [ha];exact q))
 have kk2:Hid (∀ {X:List Blk} {K:AV→List Blk→Prop},K (.int .i64 x.id) (L++X)→ab Tryz.prog 15 [.ptr iv 0,dnA dn] (L++X) K):=@hid _ (by
   intro X K q
   exact ov hdb ht (hc.app X) (by rw [hfx];exact q))
 obtain ⟨sc,hsce⟩:∃ sc,scL l x 2=sc:=⟨_,rfl⟩
 have kk3:Hid (∀ {X:List Blk} {K:AV→List Blk→Prop},K (.sl ((sc.map (·.id)).map (AV.int .i64)) sc.length none) (L++X)→ab Tryz.prog 12 [.ptr iv 0,.int .i64 x.id,.int .i64 2] (L++X) K):=@hid _ (by
   intro X K q
   refine C9 ht (by omega) (hc.app X) ?_
   rw [Gi (ht.ent hxl),hsce,List.length_map];exact q)
 have hscl:=It l x 2
 have hscm:=fun y=>CX (y:=y) ht hx
 have hscn:=Kk ht x 2
 rw [hsce] at hscl hscm hscn
 have hpos:∀ (j:Nat) (y:az),sc[j]?=some y→(((sc.map (·.id)).map (AV.int .i64)).getD j .undef=.int .i64 y.id)∧y∈l∧bD y.nm dn=true∧(∀ z∈sc.take j,z.id≠y.id)∧sc.take (j+1)=sc.take j++[y]:=fun j y hj=>by
   obtain ⟨hjl,e⟩:=List.getElem?_eq_some_iff.1 hj
   have hm:=List.mem_of_getElem? hj
   obtain ⟨h1,h2⟩:=(hscm y).1 hm
   refine ⟨by simp [hj],h1,h2,fun z hz e2=>?_,by rw [List.take_succ_eq_append_getElem hjl,e]⟩
   obtain ⟨i,hi,e3⟩:=List.mem_iff_getElem.1 hz
   rw [List.getElem_take] at e3
   rw [List.length_take] at hi
   have hij:i<j:=by omega
   have:=List.pairwise_iff_getElem.1 hscn i j (by simp;omega) (by simpa using hjl) hij
   exact this (by simp [e3,e,e2])
 have hdl:=hod.len
 obtain ⟨box,hbox⟩:∃ box:Blk,box=.cells [.int .i64 4,dnA dn,dnA tn,.sl (bg v) v.length none]:=⟨_,rfl⟩
 have hu:∀ y∈l,∀ z∈l,aK true z.nm=aK true y.nm↔z.id=y.id:=fun y hy z hz=>⟨fun e=>by rw [ht.byN hz hy ((fR (ht.ok z hz) (ht.ok y hy)).1 e)],fun e=>by rw [ht.byI hz hy e]⟩
 have hI0:a6 (L++[box]) iv mn mi nb bn ck ci rs suf last l (lkD l (sc.take 0)) (fun id=>(gy l id:Nat)):=(hK.app [box]).lkE fun z=>by rw [vE];simp
 have hBx:aH (OfT iv mn mi nb l) L (L++[box]):=aH.app L [box]
 have hbx:(L++[box])[L.length]?=some box:=by simp
 obtain ⟨xi,hxi⟩:∃ i,x.id=i:=⟨_,rfl⟩
 have hit0:=hit
 unfold atR
 rw [hxi] at kk2 kk3
 replace h:=hid h
 replace ht:=hid ht
 replace hcm:=hid hcm
 replace hpos:=hid hpos
 replace hu:=hid hu
 replace hscm:=hid hscm
 replace hI0:=hid hI0
 replace hBx:=hid hBx
 replace hbx:=hid hbx
 clear hc hK hvw hfx ha hmv hsce hscn hit
 subst hbox
 refine aa dN (by simp [bB]) ?_
 simp only [bB,am]
 refine wk ?_
 have st1:∀ {L':List Blk} {rs':List TKy} {lk:List az} {ci':Nat} {l':List az} {kd:Int→Int},a6 L' iv mn mi nb bn ck ci' rs' suf last l' lk kd→L'[it]?=some (.cells [.ptr iv 0])→L'[L.length]?=some (.cells [.int .i64 4,dnA dn,dnA tn,.sl (bg v) v.length none])→∀ b,(L'.set mi b)[it]?=some (.cells [.ptr iv 0])∧(L'.set mi b)[L.length]?=some (.cells [.int .i64 4,dnA dn,dnA tn,.sl (bg v) v.length none]):=fun hK h1 h2 b=>⟨by rw [List.getElem?_set_ne (fun e=>hK.noIt h1 (.inr (.inr (.inl e.symm))))];exact h1,by rw [List.getElem?_set_ne (by omega)];exact h2⟩
 replace st1:=@hid _ @st1
 refine ax (fun n T' L'=>∃ j:Nat,n=sc.length - j∧j≤sc.length∧Hid (∃ rs',a6 L' iv mn mi nb bn ck ci rs' suf last l (lkD l (sc.take j)) (fun id=>(gy l id:Nat)))∧Hid (aH (OfT iv mn mi nb l) L L')∧L'[L.length]?=some (.cells [.int .i64 4,dnA dn,dnA tn,.sl (bg v) v.length none])∧L'[it]?=some (.cells [.ptr iv 0])∧T'=[(137,.int .i64 (j:Int)),(136,.int .i64 sc.length),(135,.sl ((sc.map (·.id)).map (AV.int .i64)) sc.length none),(9,.sl ((sc.map (·.id)).map (AV.int .i64)) sc.length none),(6,.int .i64 xi),(3,.ptr L.length 0),(0,.ptr it 0)]) (CutS (b:=by simp)) ⟨0,rfl,Nat.zero_le _,hid ⟨rs,hI0.out⟩,hid hBx.out,hbx.out,by rw [List.getElem?_append_left hitl];exact hit0,rfl⟩ ?_
 rintro _ _ L' ⟨j,rfl,hj,hI,hB,hb,hi,rfl⟩
 obtain ⟨rs',hK⟩:=hI.out
 have hLl:L.length+1≤L'.length:=(List.getElem?_eq_some_iff.1 hb).1
 have hvw:=hK.v
 have hnn:=hK.n
 have hii:=hK.i
 by_cases hlt:j<sc.length
 · have g1:(j:Int)<(sc.length:Int):=by omega
   have g2:IntKind.i64.wrap ((j:Int)+1)=(j:Int)+1:=ah (by omega) (by omega)
   have hjg:sc[j]?=some sc[j]:=List.getElem?_eq_getElem hlt
   obtain ⟨y,hy⟩:∃ y,sc[j]=y:=⟨_,rfl⟩
   rw [hy] at hjg
   obtain ⟨e1,hyl,hyu,hyn,htk⟩:=hpos.out j y hjg
   have e2:j<((sc.map (·.id)).map (AV.int .i64)).length:=by simpa using hlt
   obtain ⟨j1,hj1,hK1⟩:=hK.delk n23 (y:=y) (vE.2 ⟨hyl,hyn⟩) (fun z hz=>hu.out y hyl z (vE.1 hz).1)
   have hK2:=hK1.lkE (KG l (sc.take j) y)
   rw [← htk] at hK2
   obtain ⟨b1,b2⟩:=st1.out hK hi hb (.map ((rs'.map kyA).eraseIdx j1) ci)
   have hB2:=hB.out.trans (aH.set L' (B:=OfT iv mn mi nb l) (.inr (.inr (.inl rfl))) (.map ((rs'.map kyA).eraseIdx j1) ci))
   rcases hK.node y.id with ⟨f1,_⟩|⟨y',n,f1,_,_,f2,f3,_⟩
   · rw [ht.out.ent hyl] at f1;cases f1
   rw [ht.out.ent hyl] at f1
   cases f1
   unfold cd at f3
   have hoy:=ht.out.ok y hyl
   have kk4:Hid (Ctr Tryz.prog 46 [dnA y.nm] (.tup [.str (aK true y.nm),.int .i64 0])):=@hid _ (by
     intro L K q
     exact zJ hoy.m.b.1 hoy.m.b.2 (by rw [eX hoy];exact q))
   have hkf1:aT .str (.str (aK true y.nm))=true:=rfl
   have hkf2:aT .int (.int .i64 y.id)=true:=rfl
   obtain ⟨tk,htke⟩:∃ tk,aK true y.nm=tk:=⟨_,rfl⟩
   obtain ⟨yi,hyi⟩:∃ i,y.id=i:=⟨_,rfl⟩
   rw [htke] at hj1 kk4 hkf1
   rw [hyi] at e1 f2 f3 hkf2 hj1
   have hLl2:=hid hLl
   replace b1:=hid b1
   replace b2:=hid b2
   replace hK2:=hid hK2
   replace hB2:=hid hB2
   clear hK hK1 hI hB hoy htke hyi hyl hyu hyn htk hjg hy kk1 kk2 kk3 av at' nob
   refine wk ?_
   exact ay _ _ _ (by omega) (CutL (b:=by have:=hLl2.out;simp;omega)) ⟨j+1,rfl,hlt,hid ⟨_,hK2.out⟩,hid hB2.out,b2.out,b1.out,rfl⟩
 · have hje:j=sc.length:=by omega
   subst hje
   have g1:¬ (sc.length:Int)<(sc.length:Int):=by omega
   rw [List.take_length] at hK
   have hKc:=hK.lkE (lk':=xz l dn) fun z=>by
     rw [vE,iy]
     refine and_congr_right fun hz=>?_
     constructor
     · intro e
       cases hu':bD z.nm dn with
       | false=>rfl
       | true=>exact absurd rfl (e z ((hscm.out z).2 ⟨hz,hu'⟩))
     · intro e y hy e2
       obtain ⟨y1,y2⟩:=(hscm.out y).1 hy
       rw [ht.out.byI y1 hz e2,e] at y2;cases y2
   have hct:=ht.out.cut hod
   have hne:dn≠[]:=fun e=>ht.out.inv.ne (dJ hxl) (by rw [hxe,e];rfl)
   obtain ⟨kd1,hkd1⟩:∃ kd1:Int→Int,kd1=fun i=>if i=aN (xz l dn) dn.tail then (gy l i:Int) + -1 else gy l i:=⟨_,rfl⟩
   have hkb:∀ i,-10000000≤kd1 i∧kd1 i≤10000000:=fun i=>by
     have:=DF l i
     rw [hkd1];dsimp only;split<;>omega
   have kk4:Hid (∀ {K:AV→List Blk→Prop},(∀ L2,Hid (a6 L2 iv mn mi nb bn ck ci rs' suf last l (xz l dn) kd1)→Hid (aH (OfT iv mn mi nb l) L L2)→L2[it]?=some (.cells [.ptr iv 0])→L2[L.length]?=some (.cells [.int .i64 4,dnA dn,dnA tn,.sl (bg v) v.length none])→K (.tup []) L2)→ab Tryz.prog 57 [.ptr it 0,dnA dn,.int .i64 (-1)] L' K):=@hid _ (by
     intro K q
     refine vD hdb hne hct (fun z hz=>⟨z,(iy.1 hz).1,rfl⟩) (fun z hz=>(ht.out.ids z hz).1) hi hKc (by omega) (fun i=>by have:=DF l i;omega) fun L2 hK2 hB2=>?_
     refine q L2 (hid (by rw [hkd1];exact hK2)) (hid (hB.out.trans hB2)) (hB2.get hi (hKc.noIt hi)) (hB2.get hb nob))
   clear hKc hK hI hB
   have hkm:=hid hkd1
   clear hkd1
   refine wk ?_
   intro L2 hK2 hB2 hi2 hb2
   clear kk4
   clear hvw hnn hii hb hi hLl
   have hLl:L.length+1≤L2.length:=(List.getElem?_eq_some_iff.1 hb2).1
   refine wk ?_
   obtain ⟨rnE,hrnE⟩:∃ rnE:az→az,rnE=fun y=>{ y with nm:=eO y.nm dn.length tn }:=⟨_,rfl⟩
   replace hrnE:=hid hrnE
   refine ax (fun n T' L3=>∃ j:Nat,n=sc.length - j∧j≤sc.length∧Hid (L2.length≤L3.length)∧Hid (∃ ci2 rs2,a6 L3 iv mn mi nb bn ck ci2 rs2 suf last (DA l dn tn ((sc.take j).map (·.id))) (xz l dn++(sc.take j).map rnE) kd1)∧Hid (aH (OfT iv mn mi nb l) L L3)∧L3[L.length]?=some (.cells [.int .i64 4,dnA dn,dnA tn,.sl (bg v) v.length none])∧L3[it]?=some (.cells [.ptr iv 0])∧T'=[(172,.int .i64 (j:Int)),(171,.int .i64 sc.length),(170,.sl ((sc.map (·.id)).map (AV.int .i64)) sc.length none),(6,.int .i64 xi),(3,.ptr L.length 0),(0,.ptr it 0)]) (CutS (b:=Nat.le_refl _)) ⟨0,rfl,Nat.zero_le _,hid (Nat.le_refl _),hid ⟨ci,rs',by rw [List.take_zero,List.map_nil,Mc,List.map_nil,List.append_nil];exact hK2.out⟩,hB2,hb2,hi2,rfl⟩ ?_
   rintro _ _ L3 ⟨j,rfl,hj,hlen,hI,hB,hb,hi,rfl⟩
   obtain ⟨ci2,rs2,hK⟩:=hI.out
   have hLl3:L.length+1≤L3.length:=(List.getElem?_eq_some_iff.1 hb).1
   have hvw:=hK.v
   have hnn:=hK.n
   have hii:=hK.i
   clear hK2 hB2 hi2 hb2 hLl
   by_cases hlt:j<sc.length
   · have g1:(j:Int)<(sc.length:Int):=by omega
     have g2:IntKind.i64.wrap ((j:Int)+1)=(j:Int)+1:=ah (by omega) (by omega)
     have hjg:sc[j]?=some sc[j]:=List.getElem?_eq_getElem hlt
     obtain ⟨y,hy⟩:∃ y,sc[j]=y:=⟨_,rfl⟩
     rw [hy] at hjg
     obtain ⟨e1,hyl,hyu,hyn,htk⟩:=hpos.out j y hjg
     have e2:j<((sc.map (·.id)).map (AV.int .i64)).length:=by simpa using hlt
     have hnin:y.id ∉ (sc.take j).map (·.id):=fun hm=>by
       obtain ⟨z,hz,e⟩:=List.mem_map.1 hm
       exact hyn z hz e
     have hym:=Nz dn tn hyl hnin
     have hrt:=(ht.out.mov hcm.out).1
     have hZ:rnE y∈iB l dn tn:=List.mem_map.2 ⟨y,hyl,by rw [if_pos hyu,hrnE.out]⟩
     have hZi:(rnE y).id=y.id:=by rw [hrnE.out]
     have hno:∀ z∈xz l dn++(sc.take j).map rnE,aK true z.nm≠aK true (eO y.nm dn.length tn):=fun z hz e=>by
       have hzr:z∈iB l dn tn∧z.id≠y.id:=by
         rcases List.mem_append.1 hz with hz|hz
         · obtain ⟨h1,h2⟩:=iy.1 hz
           refine ⟨List.mem_map.2 ⟨z,h1,by rw [if_neg (by rw [h2];decide)]⟩,fun e3=>?_⟩
           rw [ht.out.byI h1 hyl e3,hyu] at h2;cases h2
         · obtain ⟨w,hw,rfl⟩:=List.mem_map.1 hz
           obtain ⟨h1,h2⟩:=(hscm.out w).1 (List.mem_of_mem_take hw)
           refine ⟨List.mem_map.2 ⟨w,h1,by rw [if_pos h2,hrnE.out]⟩,fun e3=>?_⟩
           rw [show (rnE w).id=w.id by rw [hrnE.out]] at e3
           exact hyn w hw e3
       have e4:NK z.nm=NK (rnE y).nm:=by
         rw [show (rnE y).nm=eO y.nm dn.length tn by rw [hrnE.out]]
         exact (fR (hrt.ok z hzr.1) (by have:=hrt.ok _ hZ;rw [hrnE.out] at this;exact this)).1 e
       have:=hrt.byN hzr.1 hZ e4
       exact hzr.2 (by rw [this,hZi])
     have hoZ:OkD (eO y.nm dn.length tn):=by have:=hrt.ok _ hZ;rw [hrnE.out] at this;exact this
     obtain ⟨Z,hZe⟩:∃ Z,eO y.nm dn.length tn=Z:=⟨_,rfl⟩
     rw [hZe] at hno hoZ
     obtain ⟨L4,hL4⟩:∃ L4,(L3.set (nb y.id) (.cells [dnA Z,.sl (aB (NK Z).reverse) Z.length none,atR y.av,.int .i64 (kd1 y.id)])).set mi (.map ((rs2++[(aK true Z,y.id,ci2)]).map kyA) (ci2+1))++[.cells [.sl (aB (NK Z).reverse) Z.length none]]=L4:=⟨_,rfl⟩
     obtain ⟨hkf,hK1⟩:=hK.ren n23 hym hno [.cells [.sl (aB (NK Z).reverse) Z.length none]]
     rw [hL4,← hZe,KD ht.out dn tn hyl hnin,hZe] at hK1
     have hK2:a6 L4 iv mn mi nb bn ck (ci2+1) (rs2++[(aK true Z,y.id,ci2)]) suf last (DA l dn tn ((sc.take (j+1)).map (·.id))) (xz l dn++(sc.take (j+1)).map rnE) kd1:=by
       rw [htk,List.map_append,List.map_append,← List.append_assoc]
       rw [show [y].map rnE=[{ y with nm:=Z }] by rw [hrnE.out,← hZe];rfl]
       exact hK1
     have hBp:aH (OfT iv mn mi nb l) L3 L4:=by
       rw [← hL4]
       exact ((aH.set L3 (B:=OfT iv mn mi nb l) (.inr (.inr (.inr ⟨y,hyl,rfl⟩))) _).trans (aH.set _ (.inr (.inr (.inl rfl))) _)).trans (aH.app _ _)
     have hlen4:=hid (Nat.le_trans hlen.out hBp.len)
     have hi4:=hBp.get hi nit
     have hb4:=hBp.get hb nob
     have hB4:=hB.out.trans hBp
     rcases hK.node y.id with ⟨f1,_⟩|⟨y',n,f1,f4,f5,f2,f3,_⟩
     · exact absurd (List.find?_eq_none.1 f1 y hym) (by simp)
     have hyy:y'=y:=by
       obtain ⟨w,hw,e⟩:=List.mem_map.1 f4
       have hwi:w.id=y.id:=by rw [← f5,← e];split<;>rfl
       have:=ht.out.byI hw hyl hwi
       subst this
       rw [if_neg hnin] at e
       exact e.symm
     rw [hyy] at f3
     unfold cd at f3
     have hyle:dn.length≤y.nm.length:=by
       have:=(bw.1 hyu).2.2.length_le
       rwa [aQ,aQ] at this
     have hy32:=(ht.out.ok y hyl).len
     have kk5:Hid (∀ {K:AV→List Blk→Prop},K (.tup []) L4→ab Tryz.prog 56 [.ptr it 0,.int .i64 y.id,dnA Z] L3 K):=@hid _ (by
       intro K q
       refine Kb hoZ hi hvw hnn f2 f3 hii hkf ?_
       rw [hL4];exact q)
     obtain ⟨q,hq⟩:∃ q,y.nm.length - dn.length=q:=⟨_,rfl⟩
     have w1:IntKind.i64.wrap ((y.nm.length:Int) - (dn.length:Int))=(q:Int):=by rw [ah (by omega) (by omega)];omega
     have w2:(q:Int)≤(y.nm.length:Int):=by omega
     have hkfi:aT .int (.int .i64 y.id)=true:=rfl
     have hZz:y.nm.take q++tn=Z:=by rw [← hZe,← hq];rfl
     have kk6:Hid (∀ {c:Option Nat} {L:List Blk} {K:AV→List Blk→Prop},K (dnA Z) L→ab Tryz.prog 47 [dnA tn,.sl (List.take q (y.nm.map ao)) q c] L K):=@hid _ (by
       intro c L K u
       rw [← List.map_take]
       exact IE hZz (by rw [List.length_take];omega) rfl hoZ.m.b.1 hoZ.m.b.2 u)
     obtain ⟨yi,hyi⟩:∃ i,y.id=i:=⟨_,rfl⟩
     obtain ⟨yn,hynn⟩:∃ n,y.nm=n:=⟨_,rfl⟩
     obtain ⟨ya,hya⟩:∃ n,atR y.av=n:=⟨_,rfl⟩
     obtain ⟨yp,hyp⟩:∃ n,aB (pth y)=n:=⟨_,rfl⟩
     rw [hyi] at e1 f2 f3 kk5 hkfi
     rw [hynn] at f3 kk6 w1 w2
     rw [hya,hyp] at f3
     have hLl4:=hid hLl3
     replace hK2:=hid hK2
     replace hB4:=hid hB4
     replace hi4:=hid hi4
     replace hb4:=hid hb4
     clear hK hK1 hI hB hBp hL4 hno hoZ hZ hZi hrt hym hnin hyl hyu hyn htk hjg hy f1 f4 f5 hyy hyle hy32 hq hZz hZe hyi hynn hya hyp hkf
     refine wk ?_
     exact ay _ _ _ (by omega) (CutL (b:=hlen4.out)) ⟨j+1,rfl,hlt,hlen4,hid ⟨_,_,hK2.out⟩,hid hB4.out,hb4.out,hi4.out,rfl⟩
   · have hje:j=sc.length:=by omega
     subst hje
     have g1:¬ (sc.length:Int)<(sc.length:Int):=by omega
     rw [List.take_length] at hK
     have hmx:DA l dn tn (sc.map (·.id))=iB l dn tn:=Md dn tn fun z hz=>by
       constructor
       · intro hm
         obtain ⟨w,hw,e⟩:=List.mem_map.1 hm
         obtain ⟨h1,h2⟩:=(hscm.out w).1 hw
         rw [← ht.out.byI h1 hz e];exact h2
       · intro hu2
         exact List.mem_map.2 ⟨z,(hscm.out z).2 ⟨hz,hu2⟩,rfl⟩
     rw [hmx] at hK
     have hKr:=hK.lkE (lk':=iB l dn tn) fun z=>by
       rw [List.mem_append]
       constructor
       · rintro (hz|hz)
         · obtain ⟨h1,h2⟩:=iy.1 hz
           exact List.mem_map.2 ⟨z,h1,by rw [if_neg (by rw [h2];decide)]⟩
         · obtain ⟨w,hw,rfl⟩:=List.mem_map.1 hz
           obtain ⟨h1,h2⟩:=(hscm.out w).1 hw
           exact List.mem_map.2 ⟨w,h1,by rw [if_pos h2,hrnE.out]⟩
       · intro hz
         obtain ⟨w,hw,_,e⟩:=Dj hz
         by_cases hu2:bD w.nm dn=true
         · rw [if_pos hu2] at e
           exact .inr (List.mem_map.2 ⟨w,(hscm.out w).2 ⟨hw,hu2⟩,by rw [e,hrnE.out]⟩)
         · rw [if_neg hu2] at e
           rw [e]
           exact .inl (iy.2 ⟨hw,by simpa using hu2⟩)
     have hrt:=(ht.out.mov hcm.out).1
     obtain ⟨kd2,hkd2⟩:∃ kd2:Int→Int,kd2=fun i=>if i=aN (iB l dn tn) tn.tail then kd1 i+1 else kd1 i:=⟨_,rfl⟩
     have hof:∀ i,OfT iv mn mi nb (iB l dn tn) i→OfT iv mn mi nb l i:=fun i hi=>by
       rcases hi with e|e|e|⟨z,hz,e⟩
       · exact .inl e
       · exact .inr (.inl e)
       · exact .inr (.inr (.inl e))
       · obtain ⟨w,hw,e2,_⟩:=Dj hz
         exact .inr (.inr (.inr ⟨w,hw,by rw [e,e2]⟩))
     obtain ⟨x2,hx2⟩:∃ x2,x2={ x with nm:=eO x.nm dn.length tn }:=⟨_,rfl⟩
     have hxu:bD x.nm dn=true:=bw.2 ⟨ht.out.ok x hxl,hod,by rw [hxe];exact List.suffix_refl _⟩
     have hx2m:x2∈iB l dn tn:=List.mem_map.2 ⟨x,hxl,by rw [if_pos hxu,hx2]⟩
     have hx2i:x2.id=xi:=by rw [hx2];exact hxi
     have kk4:Hid (∀ {K:AV→List Blk→Prop},(∀ L4,Hid (a6 L4 iv mn mi nb bn ck ci2 rs2 suf last (iB l dn tn) (iB l dn tn) kd2)→Hid (aH (OfT iv mn mi nb l) L L4)→L4[it]?=some (.cells [.ptr iv 0])→L4[L.length]?=some (.cells [.int .i64 4,dnA dn,dnA tn,.sl (bg v) v.length none])→K (.tup []) L4)→ab Tryz.prog 57 [.ptr it 0,dnA tn,.int .i64 1] L3 K):=@hid _ (by
       intro K q
       refine vD htb hcm.out.tne hrt (fun z hz=>⟨z,hz,rfl⟩) (fun z hz=>(hrt.ids z hz).1) hi hKr (by omega) hkb fun L4 hK4 hB4=>?_
       refine q L4 (hid (by rw [hkd2];exact hK4)) (hid (hB.out.trans2 hB4 fun i _=>hof i)) (hB4.get hi fun e=>nit (hof _ e)) (hB4.get hb fun e=>nob (hof _ e)))
     have hkm2:=hid hkd2
     clear hkd2 hK hKr hI hB
     refine wk ?_
     intro L4 hK4 hB4 hi4 hb4
     clear kk4 hvw hnn hii hb hi hLl3
     have hvw:=hK4.out.v
     have hnn:=hK4.out.n
     have kk5:Hid (Ctr Tryz.prog 48 [.sl (bg v) v.length none] (.sl (bg v) v.length none)):=@hid _ (by intro L K q;exact CU hvl hvz q)
     rcases hK4.out.node xi with ⟨f1,_⟩|⟨y',n,f1,f4,f5,f2,f3,_⟩
     · exact absurd (List.find?_eq_none.1 f1 x2 hx2m) (by simp [hx2i])
     have hyy:y'=x2:=hrt.byI f4 hx2m (by rw [f5,hx2i])
     subst hyy
     unfold cd at f3
     rw [hx2i] at f3
     have hkfi:aT .int (.int .i64 xi)=true:=rfl
     have hK5:=hK4.out.cha hx2m v
     rw [hx2i] at hK5
     have hfin:=h.out (L4.set (nb xi) (.cells [dnA y'.nm,.sl (aB (pth y')) y'.nm.length none,atR v,.int .i64 (kd2 xi)])) ci2 rs2 (by
       rw [← hxi] at hK5 ⊢
       refine hK5.toT fun z hz=>?_
       obtain ⟨w,hw,rfl⟩:=List.mem_map.1 hz
       obtain ⟨u,hu',e2,e3⟩:=Dj hw
       have h1:=ht.out.movK hcm.out hu'
       rw [Dz]
       have e4:(if w.id=x.id then { w with av:=v } else w).id=w.id:=by split<;>rfl
       have e5:(if w.id=x.id then { w with av:=v } else w).nm=w.nm:=by split<;>rfl
       rw [e4,e5,hkm2.out,hkm.out]
       dsimp only
       rw [← e3] at h1
       rw [← e2];exact h1.symm) (by
         rw [List.getElem?_set_ne (fun e=>nit (.inr (.inr (.inr ⟨x,hxl,by rw [hxi];exact e.symm⟩))))];exact hi4) (hB4.out.trans (aH.set _ (.inr (.inr (.inr ⟨x,hxl,by rw [hxi]⟩))) _))
     replace h:=hid hfin
     unfold atR at h
     obtain ⟨ya,hya⟩:∃ n,atR y'.av=n:=⟨_,rfl⟩
     obtain ⟨yp,hyp⟩:∃ n,aB (pth y')=n:=⟨_,rfl⟩
     obtain ⟨yn,hynn⟩:∃ n,y'.nm=n:=⟨_,rfl⟩
     obtain ⟨kq,hkq⟩:∃ q,kd2 xi=q:=⟨_,rfl⟩
     rw [hya,hyp,hynn,hkq] at f3
     rw [hyp,hynn,hkq] at h
     clear hfin hK5 hyp hya hynn hkq f1 f4 f5 hK4 hB4 hrt hof hx2m hx2i hxu hx2 hmx hxi
     refine wk ?_
     exact ak h.out
end
end Go.Proofs.YtdhjplmjpjfjnaaGreat.Av
