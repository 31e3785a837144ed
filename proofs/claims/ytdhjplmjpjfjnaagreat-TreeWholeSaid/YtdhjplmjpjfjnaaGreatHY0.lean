/- Joined texts of the walk, made small by a program. -/
import Derived.Test.YtdhjplmjpjfjnaaGreatHY9
set_option linter.unusedSimpArgs false
set_option linter.unusedVariables false
namespace Go.Proofs.YtdhjplmjpjfjnaaGreat.Av
open Go
set_option maxHeartbeats 8000000
set_option maxRecDepth 100000
theorem IY {a b:List Rdn} (h:NK a=NK b):aK true a=aK true b:=by
 unfold aK;unfold NK at h;rw [h]
theorem DF (l:List az) (i:Int):(gy l i:Int)≤l.length:=by
 unfold gy aO
 cases mE l i with
 | none=>simp
 | some x=>simp only;exact Int.ofNat_le.2 (Nat.le_trans (List.length_filter_le _ _) (by simp [cE]))
theorem TOk.parI {suf:List Rdn} {last:Int} {l:List az} (h:TOk suf last l) {x:az} (hx:x∈l) {d:List Rdn} (hd:OkD d):x.id=aN l d.tail↔(NK d).tail=NK x.nm:=by
 rw [← zy]
 constructor
 · intro e
   unfold aN at e
   cases hq:atE l d.tail with
   | none=>rw [hq] at e;have:=(h.ids x hx).1;simp only at e;omega
   | some y =>
     rw [hq] at e
     obtain ⟨_,hy,e2⟩:=bE hq
     rw [h.byI hx hy e,e2]
 · intro e
   unfold aN
   rw [h.at hx hd.tail e]
section
variable {L:List Blk} {iv mn mi it:Nat} {nb bn:Int→Nat} {ck ci:Nat} {rs:List TKy} {suf:List Rdn} {last:Int} {l:List az}
theorem Oz (ht:TOk suf last l) (n23:mn≠mi) (hln:l.length≤1000000) (hit:L[it]?=some (.cells [.ptr iv 0])) (hc:aR L iv mn mi nb bn ck ci rs suf last l)
   {dn tn:List Rdn} {v:AV} (hdb:dnB dn) (htb:dnB tn) {x:az} (hx:atE l dn=some x) (ha:b8 suf l 2 dn tn=0) {K:AV→List Blk→Prop}
   (h:∀ L' ci' rs',aR L' iv mn mi nb bn ck ci' rs' suf last (zq l x.id)→L'[it]?=some (.cells [.ptr iv 0])→aH (OfT iv mn mi nb l) L L'→K (.int .i64 0) L') :
   ab Tryz.prog 26 [.ptr it 0,.agg [.int .i64 2,dnA dn,dnA tn,v]] L K:=by
 obtain ⟨hod,hxl,hxe⟩:=bE hx
 have hk0:aO (cE l) (NK x.nm)=0:=by
   unfold b8 at ha
   rw [if_neg (by decide),if_neg (by decide),hx] at ha
   simp only [if_true] at ha
   by_cases c:aO (cE l) (NK x.nm)=0
   · exact c
   · rw [if_pos c] at ha;exact absurd ha (by decide)
 obtain ⟨htd,hkq⟩:=ht.del hxl hk0
 have hfx:aN l dn=x.id:=by unfold aN;rw [hx]
 have hK:=hc.toK ht
 have htx:aK true dn=aK true x.nm:=IY hxe.symm
 have hu:∀ z∈l,aK true z.nm=aK true x.nm↔z.id=x.id:=fun z hz=>⟨fun e=>by rw [ht.byN hz hxl ((fR (ht.ok z hz) (ht.ok x hxl)).1 e)],fun e=>by rw [ht.byI hz hxl e]⟩
 obtain ⟨j1,hj1,hK1⟩:=hK.delk n23 hxl hu
 obtain ⟨j2,v2,hj2,hK2⟩:=hK1.deln n23 (by
   have hn:=ht.inv.ids
   unfold cE at hn
   rw [List.map_map] at hn
   exact hn) hxl
 have hvw:=hc.v
 have hnn:=hc.n
 have hii:=hc.i
 have hivl:iv<L.length:=(List.getElem?_eq_some_iff.1 hvw).1
 have hmnl:mn<L.length:=(List.getElem?_eq_some_iff.1 hnn).1
 have hmil:mi<L.length:=(List.getElem?_eq_some_iff.1 hii).1
 have hitl:it<L.length:=(List.getElem?_eq_some_iff.1 hit).1
 have nit:=hK.noIt hit
 have n1:mi≠it:=fun e=>nit (.inr (.inr (.inl e.symm)))
 have n2:mn≠it:=fun e=>nit (.inr (.inl e.symm))
 have n3:=hK.nemi
 have n4:=hK.nemn
 have av:∀ X:List Blk,(L++X)[iv]?=some (.cells [dnA suf,.lmap mn,.lmap mi,.int .i64 last]):=fun X=>by rw [List.getElem?_append_left hivl];exact hvw
 have at':∀ X:List Blk,(L++X)[it]?=some (.cells [.ptr iv 0]):=fun X=>by rw [List.getElem?_append_left hitl];exact hit
 have ai:∀ X:List Blk,(L++X)[mi]?=some (.map (rs.map kyA) ci):=fun X=>by rw [List.getElem?_append_left hmil];exact hii
 have si:∀ (X:List Blk) b,(L++X).set mi b=L.set mi b++X:=fun X b=>List.set_append_left _ _ hmil
 have av2:∀ (X:List Blk) b,(L.set mi b++X)[iv]?=some (.cells [dnA suf,.lmap mn,.lmap mi,.int .i64 last]):=fun X b=>by rw [List.getElem?_append_left (by simpa using hivl),List.getElem?_set_ne (Ne.symm n3)];exact hvw
 have at2:∀ (X:List Blk) b,(L.set mi b++X)[it]?=some (.cells [.ptr iv 0]):=fun X b=>by rw [List.getElem?_append_left (by simpa using hitl),List.getElem?_set_ne n1];exact hit
 have an2:∀ (X:List Blk) b,(L.set mi b++X)[mn]?=some (.map (l.map (em nb bn)) ck):=fun X b=>by rw [List.getElem?_append_left (by simpa using hmnl),List.getElem?_set_ne (Ne.symm n23)];exact hnn
 have sn2:∀ (X:List Blk) b c,(L.set mi b++X).set mn c=(L.set mi b).set mn c++X:=fun X b c=>List.set_append_left _ _ (by simpa using hmnl)
 have ab3:∀ (X:List Blk) (b c d:Blk),((L.set mi b).set mn d++c::X)[L.length]?=some c:=fun X b c d=>by rw [List.getElem?_append_right (by simp)];simp
 have kk1:Hid (∀ {X:List Blk} {K:AV→List Blk→Prop},K (.int .i64 0) (L++X)→ab Tryz.prog 27 [.ptr iv 0,.agg [.int .i64 2,dnA dn,dnA tn,v]] (L++X) K):=@hid _ (by
   intro X K q
   exact xO ht (by omega) (hc.app X) hdb htb (by rw [ha];exact q))
 have kk2:Hid (∀ {X:List Blk} {K:AV→List Blk→Prop},K (.int .i64 x.id) (L++X)→ab Tryz.prog 15 [.ptr iv 0,dnA dn] (L++X) K):=@hid _ (by
   intro X K q
   exact ov hdb ht (hc.app X) (by rw [hfx];exact q))
 have kk3:Hid (Ctr Tryz.prog 46 [dnA dn] (.tup [.str (aK true dn),.int .i64 0])):=@hid _ (by
   intro L K q
   exact zJ hdb.1 hdb.2 (by rw [eX hod];exact q))
 obtain ⟨box,hbox⟩:∃ box:Blk,box=.cells [.int .i64 2,dnA dn,dnA tn,v]:=⟨_,rfl⟩
 obtain ⟨A,hA⟩:∃ A,(L.set mi (.map ((rs.map kyA).eraseIdx j1) ci)).set mn (.map ((l.map (em nb bn)).eraseIdx j2) ck)=A:=⟨_,rfl⟩
 rw [hA] at hK2
 have hAL:A.length=L.length:=by rw [← hA];simp
 have ab4:∀ (X:List Blk) (c:Blk),(A++c::X)[L.length]?=some c:=fun X c=>by rw [List.getElem?_append_right (by omega),hAL];simp
 have hbA:aH (OfT iv mn mi nb l) L A:=by
   rw [← hA]
   exact (aH.set L (.inr (.inr (.inl rfl))) _).trans (aH.set _ (.inr (.inl rfl)) _)
 have hK3:=hK2.app [box]
 have hit3:(A++[box])[it]?=some (.cells [.ptr iv 0]):=by
   have hAl:it<A.length:=by rw [← hA];simpa using hitl
   rw [List.getElem?_append_left hAl]
   exact hbA.get hit nit
 have kk4:Hid (∀ {K:AV→List Blk→Prop},(∀ L' ci' rs',aR L' iv mn mi nb bn ck ci' rs' suf last (zq l x.id)→L'[it]?=some (.cells [.ptr iv 0])→aH (OfT iv mn mi nb l) L L'→K (.tup []) L')→ab Tryz.prog 57 [.ptr it 0,dnA dn,.int .i64 (-1)] (A++[box]) K):=@hid _ (by
   intro K q
   have hne:dn≠[]:=fun e=>ht.inv.ne (dJ hxl) (by rw [hxe,e];rfl)
   refine vD hdb hne htd (fun x hx=>⟨x,hx,rfl⟩) (fun z hz=>(htd.ids z hz).1) hit3 hK3 (by omega) (fun i=>by have:=DF l i;omega) fun L' hK4 hb=>?_
   refine q L' _ _ (hK4.toT fun z hz=>?_) (hb.get hit3 (hK3.noIt hit3)) (((hbA.trans (aH.app A [box])).trans2 hb fun i hi=>?_))
   · have hzl:z∈l:=(List.mem_filter.1 hz).1
     have h1:=hkq (NK z.nm)
     rw [← ht.kidsE hzl,hxe] at h1
     have hpar:=htd.parI hz hod
     by_cases hp:(NK dn).tail=NK z.nm
     · rw [if_pos hp] at h1
       rw [if_pos (hpar.2 hp)];omega
     · rw [if_neg hp] at h1
       rw [if_neg (fun e=>hp (hpar.1 e))];omega
   · rintro (e|e|e|⟨z,hz,e⟩)
     · exact .inl e
     · exact .inr (.inl e)
     · exact .inr (.inr (.inl e))
     · exact .inr (.inr (.inr ⟨z,(List.mem_filter.1 hz).1,e⟩)))
 have hkf1:aT .str (.str (aK true dn))=true:=rfl
 have hkf2:aT .int (.int .i64 x.id)=true:=rfl
 rw [← htx] at hj1
 obtain ⟨tk,htk⟩:∃ tk,aK true dn=tk:=⟨_,rfl⟩
 obtain ⟨xi,hxi⟩:∃ i,x.id=i:=⟨_,rfl⟩
 rw [htk] at hj1 kk3 hkf1
 rw [hxi] at hj1 hj2 kk2 hkf2 h
 replace h:=hid h
 replace hj1:=hid hj1
 clear hK hK1 hK2 hK3 hbA hit3 hu htx htk hvw hnn hii hit hc ht htd hkq hk0 hfx hod ha
 have hj1:=hj1.out
 subst hbox
 refine aa dN (by simp [bB]) ?_
 simp only [bB,am]
 refine wk ?_
 intro L' ci' rs' q1 q2 q3
 replace q1:=hid q1
 replace q2:=hid q2
 replace q3:=hid q3
 refine wk ?_
 exact ak (h.out L' _ _ q1.out q2.out q3.out)
theorem OA (ht:TOk suf last l) (hln:l.length≤1000000) (hit:L[it]?=some (.cells [.ptr iv 0])) (hc:aR L iv mn mi nb bn ck ci rs suf last l)
   {dn tn:List Rdn} {v:List Atr} (hdb:dnB dn) (htb:dnB tn) (hvl:v.length≤1100000) (hvz:∀ a∈v,a.2.length≤1100000) {x:az} (hx:atE l dn=some x) {K:AV→List Blk→Prop}
   (h:∀ L',aR L' iv mn mi nb bn ck ci rs suf last (mF l x.id v)→L'[it]?=some (.cells [.ptr iv 0])→aH (OfT iv mn mi nb l) L L'→K (.int .i64 0) L') :
   ab Tryz.prog 26 [.ptr it 0,.agg [.int .i64 3,dnA dn,dnA tn,atR v]] L K:=by
 obtain ⟨hod,hxl,hxe⟩:=bE hx
 have ha:b8 suf l 3 dn tn=0:=by unfold b8;rw [if_neg (by decide),if_neg (by decide),hx];rfl
 have hfx:aN l dn=x.id:=by unfold aN;rw [hx]
 have hK:=hc.toK ht
 have hK1:=hK.cha hxl v
 have hbs:aH (OfT iv mn mi nb l) L (L.set (nb x.id) (.cells [dnA x.nm,.sl (aB (pth x)) x.nm.length none,atR v,.int .i64 (gy l x.id:Nat)])):=aH.set L (.inr (.inr (.inr ⟨x,hxl,rfl⟩))) _
 have nit:=hK.noIt hit
 have hCT:aR (L.set (nb x.id) (.cells [dnA x.nm,.sl (aB (pth x)) x.nm.length none,atR v,.int .i64 (gy l x.id:Nat)])) iv mn mi nb bn ck ci rs suf last (mF l x.id v):=hK1.toT fun z hz=>by
   obtain ⟨y,hy,rfl⟩:=List.mem_map.1 hz
   rw [Dz]
   have e1:(if y.id=x.id then { y with av:=v } else y).id=y.id:=by split<;>rfl
   have e2:(if y.id=x.id then { y with av:=v } else y).nm=y.nm:=by split<;>rfl
   rw [e1,e2,ht.kidsE hy]
 have hfin:=h _ (hCT.app [.cells [.int .i64 3,dnA dn,dnA tn,atR v]]) ((hbs.trans (aH.app _ _)).get hit nit) (hbs.trans (aH.app _ _))
 have hvw:=hc.v
 have hnn:=hc.n
 have hivl:iv<L.length:=(List.getElem?_eq_some_iff.1 hvw).1
 have hmnl:mn<L.length:=(List.getElem?_eq_some_iff.1 hnn).1
 have hitl:it<L.length:=(List.getElem?_eq_some_iff.1 hit).1
 have hnx:=hK.nd x hxl
 have hxl':nb x.id<L.length:=(List.getElem?_eq_some_iff.1 hnx).1
 unfold cd at hnx
 have av:∀ X:List Blk,(L++X)[iv]?=some (.cells [dnA suf,.lmap mn,.lmap mi,.int .i64 last]):=fun X=>by rw [List.getElem?_append_left hivl];exact hvw
 have at':∀ X:List Blk,(L++X)[it]?=some (.cells [.ptr iv 0]):=fun X=>by rw [List.getElem?_append_left hitl];exact hit
 have an:∀ X:List Blk,(L++X)[mn]?=some (.map (l.map (em nb bn)) ck):=fun X=>by rw [List.getElem?_append_left hmnl];exact hnn
 have ad:∀ X:List Blk,(L++X)[nb x.id]?=some (.cells [dnA x.nm,.sl (aB (pth x)) x.nm.length none,atR x.av,.int .i64 (gy l x.id:Nat)]):=fun X=>by rw [List.getElem?_append_left hxl'];exact hnx
 have sd:∀ (X:List Blk) b,(L++X).set (nb x.id) b=L.set (nb x.id) b++X:=fun X b=>List.set_append_left _ _ hxl'
 have kk1:Hid (∀ {X:List Blk} {K:AV→List Blk→Prop},K (.int .i64 0) (L++X)→ab Tryz.prog 27 [.ptr iv 0,.agg [.int .i64 3,dnA dn,dnA tn,atR v]] (L++X) K):=@hid _ (by
   intro X K q
   exact xO ht (by omega) (hc.app X) hdb htb (by rw [ha];exact q))
 have kk2:Hid (∀ {X:List Blk} {K:AV→List Blk→Prop},K (.int .i64 x.id) (L++X)→ab Tryz.prog 15 [.ptr iv 0,dnA dn] (L++X) K):=@hid _ (by
   intro X K q
   exact ov hdb ht (hc.app X) (by rw [hfx];exact q))
 have kk3:Hid (Ctr Tryz.prog 48 [atR v] (atR v)):=@hid _ (by intro L K q;exact CU hvl hvz q)
 have hkf2:aT .int (.int .i64 x.id)=true:=rfl
 rcases hc.node x.id with ⟨f1,_⟩|⟨x',n,f1,_,_,f2,_⟩
 · rw [ht.ent hxl] at f1;cases f1
 obtain ⟨q,hq⟩:∃ q:Int,(gy l x.id:Nat)=q:=⟨_,rfl⟩
 rw [hq] at ad hfin
 obtain ⟨xi,hxi⟩:∃ i,x.id=i:=⟨_,rfl⟩
 rw [hxi] at hkf2 f2 kk2 ad sd hfin
 replace h:=hid hfin
 clear hfin hK hK1 hbs hvw hnn hit hc ht hfx hod ha hxi hq hxl f1 hnx
 unfold atR at kk1 kk3 h ⊢
 refine aa dN (by simp [bB]) ?_
 simp only [bB,am]
 refine wk ?_
 exact ak h.out
end
set_option maxHeartbeats 8000000
set_option maxRecDepth 100000
def xz (l:List az) (dn:List Rdn):List az:=l.filter fun z => !bD z.nm dn
theorem iy {l:List az} {dn:List Rdn} {z:az}:z∈xz l dn↔z∈l∧bD z.nm dn=false:=by
 unfold xz;rw [List.mem_filter];simp
theorem TOk.cut {suf:List Rdn} {last:Int} {l:List az} (h:TOk suf last l) {dn:List Rdn} (hd:OkD dn):TOk suf last (xz l dn):=by
 have sub:∀ z∈xz l dn,z∈l:=fun z hz=>(iy.1 hz).1
 have hs:(cE (xz l dn)).Sublist (cE l):=List.filter_sublist.map _
 refine ⟨h.sok,fun z hz=>h.ok z (sub z hz),⟨h.inv.sne,(hs.map _).nodup h.inv.nd,(hs.map _).nodup h.inv.ids,fun m hm=>h.inv.un m (hs.subset hm),fun m hm=>?_⟩,fun z hz=>h.ids z (sub z hz)⟩
 obtain ⟨z,hz,rfl⟩:=List.mem_map.1 hm
 obtain ⟨hzl,hzu⟩:=iy.1 hz
 rcases h.inv.par _ (dJ hzl) with e|⟨k,hk,e⟩
 · exact .inl e
 · obtain ⟨w,hw,rfl⟩:=List.mem_map.1 hk
   refine .inr ⟨_,dJ (iy.2 ⟨hw,?_⟩),e⟩
   cases hu:bD w.nm dn with
   | false=>rfl
   | true =>
     have h1:=(bw.1 hu).2.2
     simp only at e
     rw [e] at h1
     have:bD z.nm dn=true:=bw.2 ⟨h.ok z hzl,hd,h1.trans (List.tail_suffix _)⟩
     rw [this] at hzu;cases hzu
def DA (l:List az) (dn tn:List Rdn) (ids:List Int):List az:=l.map fun z=>if z.id∈ids then { z with nm:=eO z.nm dn.length tn } else z
theorem Mc (l:List az) (dn tn:List Rdn):DA l dn tn []=l:=by
 unfold DA;simp
theorem KD {suf:List Rdn} {last:Int} {l:List az} (h:TOk suf last l) (dn tn:List Rdn) {ids:List Int} {y:az} (hy:y∈l) (hn:y.id ∉ ids):nmT (DA l dn tn ids) y.id (eO y.nm dn.length tn)=DA l dn tn (ids++[y.id]):=by
 unfold nmT DA
 rw [List.map_map]
 refine List.map_congr_left fun z hz=>?_
 simp only [Function.comp_apply,List.mem_append,List.mem_singleton]
 by_cases e:z.id=y.id
 · have:=h.byI hz hy e
   subst this
   simp [hn]
 · by_cases c:z.id∈ids
   · simp [c,e]
   · simp [c,e]
theorem Nz {l:List az} (dn tn:List Rdn) {ids:List Int} {y:az} (hy:y∈l) (hn:y.id ∉ ids):y∈DA l dn tn ids:=List.mem_map.2 ⟨y,hy,if_neg hn⟩
theorem Md {l:List az} (dn tn:List Rdn) {ids:List Int} (h:∀ z∈l,z.id∈ids↔bD z.nm dn=true):DA l dn tn ids=iB l dn tn:=by
 unfold DA iB
 refine List.map_congr_left fun z hz=>?_
 by_cases c:bD z.nm dn=true
 · rw [if_pos ((h z hz).2 c),if_pos c]
 · rw [if_neg (fun e=>c ((h z hz).1 e)),if_neg c]
theorem Dj {l:List az} {dn tn:List Rdn} {z:az} (h:z∈iB l dn tn):∃ y∈l,y.id=z.id∧z=(if bD y.nm dn=true then { y with nm:=eO y.nm dn.length tn } else y):=by
 obtain ⟨y,hy,rfl⟩:=List.mem_map.1 h
 refine ⟨y,hy,?_,rfl⟩
 split<;>rfl
theorem Kp {suf:List Rdn} {last:Int} {l:List az} (h:TOk suf last l) {dn tn:List Rdn} (hd:OkD dn) {y:az} (hy:y∈l):NK (if bD y.nm dn=true then { y with nm:=eO y.nm dn.length tn } else y).nm=ren (NK dn) (NK tn) (NK y.nm):=by
 by_cases c:bD y.nm dn=true
 · rw [if_pos c,IB c]
 · rw [if_neg c,eI fun hs=>c (bw.2 ⟨h.ok y hy,hd,hs⟩)]
theorem TOk.movK {suf:List Rdn} {last:Int} {l:List az} (h:TOk suf last l) {x:az} {dn tn:List Rdn} (hc:N2 suf l x dn tn) {y:az} (hy:y∈l) :
   (aO (cE (iB l dn tn)) (NK (if bD y.nm dn=true then { y with nm:=eO y.nm dn.length tn } else y).nm):Int)=(if y.id=aN (iB l dn tn) tn.tail then (if y.id=aN (xz l dn) dn.tail then (gy l y.id:Int) + -1 else gy l y.id)+1 else (if y.id=aN (xz l dn) dn.tail then (gy l y.id:Int) + -1 else gy l y.id)):=by
 obtain ⟨hrt,hk⟩:=h.mov hc
 have hct:=h.cut hc.ok
 rw [Kp h hc.ok hy,hk y hy,h.kidsE hy]
 have c1:y.id=aN (xz l dn) dn.tail↔NK y.nm=(NK dn).tail:=by
   cases hu:bD y.nm dn with
   | false=>rw [hct.parI (iy.2 ⟨hy,hu⟩) hc.ok];exact eq_comm
   | true =>
     constructor
     · intro e
       unfold aN at e
       cases hq:atE (xz l dn) dn.tail with
       | none=>rw [hq] at e;have:=(h.ids y hy).1;simp only at e;omega
       | some w =>
         rw [hq] at e
         obtain ⟨hw,hwu⟩:=iy.1 (bE hq).2.1
         have:=h.byI hy hw e
         rw [← this,hu] at hwu;cases hwu
     · intro e
       have h1:=(bw.1 hu).2.2.length_le
       rw [e,List.length_tail] at h1
       have:NK dn≠[]:=fun e2=>h.inv.ne (dJ hc.mem) (by rw [hc.nk,e2])
       have:=List.length_pos_iff.2 this
       omega
 have c2:y.id=aN (iB l dn tn) tn.tail↔NK y.nm=(NK tn).tail:=by
   have hz:(if bD y.nm dn=true then { y with nm:=eO y.nm dn.length tn } else y)∈iB l dn tn:=List.mem_map.2 ⟨y,hy,rfl⟩
   have h1:=hrt.parI hz hc.tok
   rw [Kp h hc.ok hy] at h1
   rw [show (if bD y.nm dn=true then { y with nm:=eO y.nm dn.length tn } else y).id=y.id by split<;>rfl] at h1
   rw [h1]
   constructor
   · intro e
     by_cases hs:NK dn <:+ NK y.nm
     · obtain ⟨w,ew⟩:=hs
       rw [← ew,eW] at e
       have:=congrArg List.length e
       rw [List.length_tail,List.length_append] at this
       have:=List.length_pos_iff.2 (fun e2=>hc.tne (F3.1 e2))
       omega
     · rw [eI hs] at e;exact e.symm
   · intro e
     rw [e,eI hc.nun]
 by_cases d1:NK y.nm=(NK dn).tail<;>by_cases d2:NK y.nm=(NK tn).tail
 · rw [if_pos d1,if_pos d2,if_pos (c2.2 d2),if_pos (c1.2 d1)];omega
 · rw [if_pos d1,if_neg d2,if_neg (fun e=>d2 (c2.1 e)),if_pos (c1.2 d1)];omega
 · rw [if_neg d1,if_pos d2,if_pos (c2.2 d2),if_neg (fun e=>d1 (c1.1 e))];omega
 · rw [if_neg d1,if_neg d2,if_neg (fun e=>d2 (c2.1 e)),if_neg (fun e=>d1 (c1.1 e))];omega
section
variable {L:List Blk} {iv mn mi it:Nat} {nb bn:Int→Nat} {ck ci:Nat} {rs:List TKy} {suf:List Rdn} {last:Int} {l lk:List az} {kd:Int→Int}
theorem a6.lkE (h:a6 L iv mn mi nb bn ck ci rs suf last l lk kd) {lk':List az} (e:∀ z,z∈lk↔z∈lk'):a6 L iv mn mi nb bn ck ci rs suf last l lk' kd :=
 ⟨h.v,h.n,h.i,h.nd,h.inj,h.keys,fun k id=>by
   rw [h.mem k id]
   exact ⟨fun ⟨x,hx,e1⟩=>⟨x,(e x).1 hx,e1⟩,fun ⟨x,hx,e1⟩=>⟨x,(e x).2 hx,e1⟩⟩,h.bnd,h.blt⟩
def lkD (l:List az) (ys:List az):List az:=l.filter fun z => !ys.any fun y=>decide (y.id=z.id)
theorem vE {l ys:List az} {z:az}:z∈lkD l ys↔z∈l∧∀ y∈ys,y.id≠z.id:=by
 unfold lkD
 rw [List.mem_filter]
 simp
theorem KG (l ys:List az) (y:az):∀ z,z∈zq (lkD l ys) y.id↔z∈lkD l (ys++[y]):=fun z=>by
 unfold zq
 rw [List.mem_filter,vE,vE]
 simp only [ne_eq,decide_eq_true_eq,List.mem_append,List.mem_singleton]
 constructor
 · rintro ⟨⟨h1,h2⟩,h3⟩
   refine ⟨h1,fun w hw=>?_⟩
   rcases hw with hw|rfl
   · exact h2 w hw
   · exact fun e=>h3 e.symm
 · rintro ⟨h1,h2⟩
   exact ⟨⟨h1,fun w hw=>h2 w (.inl hw)⟩,fun e=>h2 y (.inr rfl) e.symm⟩
end
end Go.Proofs.YtdhjplmjpjfjnaaGreat.Av
