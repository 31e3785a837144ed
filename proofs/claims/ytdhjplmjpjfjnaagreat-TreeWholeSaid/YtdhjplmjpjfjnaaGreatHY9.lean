/- Joined texts of the walk, made small by a program. -/
import Derived.Test.YtdhjplmjpjfjnaaGreatHTrZa
import Derived.Test.YtdhjplmjpjfjnaaGreatHY8
set_option linter.unusedSimpArgs false
set_option linter.unusedVariables false
namespace Go.Proofs.YtdhjplmjpjfjnaaGreat.Av
open Go
set_option maxHeartbeats 8000000
set_option maxRecDepth 100000
section
variable {L:List Blk} {iv mn mi it:Nat} {nb bn:Int→Nat} {ck ci:Nat} {rs:List TKy} {suf:List Rdn} {last:Int} {l lk:List az} {kd:Int→Int}
theorem a6.kds (h:a6 L iv mn mi nb bn ck ci rs suf last l lk kd) {kd':Int→Int} (e:∀ x∈l,kd' x.id=kd x.id):a6 L iv mn mi nb bn ck ci rs suf last l lk kd' :=
 ⟨h.v,h.n,h.i,fun x hx=>by rw [h.nd x hx];unfold cd;rw [e x hx],h.inj,h.keys,h.mem,h.bnd,h.blt⟩
theorem a6.noIt (h:a6 L iv mn mi nb bn ck ci rs suf last l lk kd) (hit:L[it]?=some (.cells [.ptr iv 0])):¬ OfT iv mn mi nb l it:=by
 rintro (e|e|e|⟨x,hx,e⟩)
 · rw [e,h.v] at hit;simp at hit
 · rw [e,h.n] at hit;simp at hit
 · rw [e,h.i] at hit;simp at hit
 · rw [e,h.nd x hx] at hit;simp [cd] at hit
theorem vD {d:List Rdn} {cap:Option Nat} {b:Int} (hd:dnB d) (hne:d≠[]) (ht:TOk suf last lk) (hsub:∀ x∈lk,∃ y∈l,y.id=x.id) (hpos:∀ x∈l,1≤x.id) (hit:L[it]?=some (.cells [.ptr iv 0])) (hc:a6 L iv mn mi nb bn ck ci rs suf last l lk kd) (hb : -1≤b∧b≤1) (hkd:∀ i,-10000000≤kd i∧kd i≤10000000) {K:AV→List Blk→Prop}
   (h:∀ L',a6 L' iv mn mi nb bn ck ci rs suf last l lk (fun i=>if i=aN lk d.tail then kd i+b else kd i)→aH (OfT iv mn mi nb l) L L'→K (.tup []) L') :
   ab Tryz.prog 57 [.ptr it 0,.sl (d.map ao) d.length cap,.int .i64 b] L K:=by
 refine Kw hd hne ht hsub hit hc hb hkd (fun h0=>?_) (fun x hx e=>?_)
 · refine h L (hc.kds fun x hx=>?_) (aH.refl L)
   rw [h0,if_neg (by have:=hpos x hx;omega)]
 · refine h _ ?_ (aH.set L (.inr (.inr (.inr ⟨x,hx,rfl⟩))) _)
   rw [← e]
   exact hc.kid hx b
theorem aR.added (hc:aR L iv mn mi nb bn ck ci rs suf last l) (ht:TOk suf last l) (n23:mn≠mi) (hit:L[it]?=some (.cells [.ptr iv 0])) {dn:List Rdn} (hod:OkD dn) (hno:∀ x∈l,NK x.nm≠NK dn) (v:List Atr) (box a0 X:Blk) (A B:List Blk)
   (hA:A=(L.set iv (.cells [dnA suf,.lmap mn,.lmap mi,.int .i64 (last+1)])).set mn (.map ((l.map (em nb bn))++[(.int .i64 (last+1),.ptr (L.length+1) 0,ck)]) (ck+1)))
   (hB:B=((A++[box,a0]).set (L.length+1) (.cells [dnA dn,.sl (aB (NK dn).reverse) dn.length none,atR v,.int .i64 0])).set mi (.map ((rs++[(aK true dn,last+1,ci)]).map kyA) (ci+1))++[X]) :
   a6 B iv mn mi (fun i=>if i=last+1 then L.length+1 else nb i) (fun i=>if i=last+1 then ck else bn i) (ck+1) (ci+1) (rs++[(aK true dn,last+1,ci)]) suf (last+1) (mK l last dn v) (mK l last dn v) (fun i=>if i=last+1 then 0 else (gy l i:Nat))∧aH (OfT iv mn mi nb l) L B ∧
   (A++[box,a0])[it]?=some (.cells [.ptr iv 0])∧(A++[box,a0])[iv]?=some (.cells [dnA suf,.lmap mn,.lmap mi,.int .i64 (last+1)])∧(A++[box,a0])[mn]?=some (.map ((l.map (em nb bn))++[(.int .i64 (last+1),.ptr (L.length+1) 0,ck)]) (ck+1))∧(A++[box,a0])[mi]?=some (.map (rs.map kyA) ci)∧(A++[box,a0])[L.length+1]?=some a0 ∧
   b7 (.int .i64 (last+1)) ((l.map (em nb bn))++[(.int .i64 (last+1),.ptr (L.length+1) 0,ck)]) 0=some (some (l.length,.ptr (L.length+1) 0))∧b7 (.str (aK true dn)) (rs.map kyA) 0=some none∧b7 (.int .i64 (last+1)) (l.map (em nb bn)) 0=some none:=by
 have hK:=hc.toK ht
 have h1:=(List.getElem?_eq_some_iff.1 hc.v).1
 have h2:=(List.getElem?_eq_some_iff.1 hc.n).1
 have h3:=(List.getElem?_eq_some_iff.1 hc.i).1
 have h4:=(List.getElem?_eq_some_iff.1 hit).1
 have n12:iv≠mn:=fun e=>by have:=hc.v;rw [e,hc.n] at this;simp at this
 have n13:iv≠mi:=fun e=>by have:=hc.v;rw [e,hc.i] at this;simp at this
 have hAl:A.length=L.length:=by rw [hA];simp
 have gA:∀ i,i≠iv→i≠mn→A[i]?=L[i]?:=fun i a b=>by rw [hA,List.getElem?_set_ne (Ne.symm b),List.getElem?_set_ne (Ne.symm a)]
 have gv:A[iv]?=some (.cells [dnA suf,.lmap mn,.lmap mi,.int .i64 (last+1)]):=by rw [hA,List.getElem?_set_ne (Ne.symm n12)];simp [h1]
 have gn:A[mn]?=some (.map ((l.map (em nb bn))++[(.int .i64 (last+1),.ptr (L.length+1) 0,ck)]) (ck+1)):=by rw [hA];simp [h2]
 have gY:∀ i,i<L.length→(A++[box,a0])[i]?=A[i]?:=fun i hi=>List.getElem?_append_left (by omega)
 have gB:∀ i,i<L.length→i≠mi→B[i]?=A[i]?:=fun i hi hm=>by
   rw [hB,List.getElem?_append_left (by simp;omega),List.getElem?_set_ne (Ne.symm hm),List.getElem?_set_ne (by omega),gY i hi]
 have gBi:B[mi]?=some (.map ((rs++[(aK true dn,last+1,ci)]).map kyA) (ci+1)):=by
   rw [hB,List.getElem?_append_left (by simp;omega),List.getElem?_set_self (by simp;omega)]
 have gBn:B[L.length+1]?=some (.cells [dnA dn,.sl (aB (NK dn).reverse) dn.length none,atR v,.int .i64 0]):=by
   rw [hB,List.getElem?_append_left (by simp;omega),List.getElem?_set_ne (by omega),List.getElem?_set_self (by simp;omega)]
 have hidn:∀ x∈l,x.id≠last+1:=fun x hx e=>by have:=(ht.ids x hx).2;omega
 have hnbl:∀ x∈l,nb x.id<L.length:=fun x hx=>(List.getElem?_eq_some_iff.1 (hc.nd x hx)).1
 have hno':∀ x∈l,aK true x.nm≠aK true dn:=fun x hx e=>hno x hx ((fR (ht.ok x hx) hod).1 e)
 have hkn:∀ r∈rs,r.1≠aK true dn:=fun r hr e=>by
   obtain ⟨x,hx,e1,_⟩:=(hc.mem r.1 r.2.1).1 ⟨r.2.2,hr⟩
   exact hno' x hx (e1.trans e)
 have hmap:(mK l last dn v).map (em (fun i=>if i=last+1 then L.length+1 else nb i) (fun i=>if i=last+1 then ck else bn i))=l.map (em nb bn)++[(.int .i64 (last+1),.ptr (L.length+1) 0,ck)]:=by
   unfold mK
   rw [List.map_append]
   congr 1
   · refine List.map_congr_left fun x hx=>?_
     simp only [em,if_neg (hidn x hx)]
   · simp [em]
 refine ⟨⟨by rw [gB iv h1 n13];exact gv,by rw [gB mn h2 n23,gn,hmap],gBi,fun x hx=>?_,fun x hx y hy e=>?_,?_,fun k id=>?_,?_,fun x hx=>?_⟩,⟨by rw [hB];simp;omega,fun i hi hn=>?_⟩,?_,by rw [gY iv h1];exact gv,by rw [gY mn h2];exact gn,by rw [gY mi h3,gA mi (Ne.symm n13) (Ne.symm n23)];exact hc.i,?_,?_,?_,?_⟩
 · rcases List.mem_append.1 hx with hx|hx
   · have hk:=hK.nd x hx
     have hne:=hidn x hx
     have m1:nb x.id≠iv:=fun e=>by rw [e,hc.v] at hk;simp [cd] at hk
     have m2:nb x.id≠mn:=fun e=>by rw [e,hc.n] at hk;simp at hk
     have m3:nb x.id≠mi:=fun e=>by rw [e,hc.i] at hk;simp at hk
     simp only [if_neg hne]
     rw [gB _ (hnbl x hx) m3,gA _ m1 m2,hk]
     unfold cd
     simp only [if_neg hne]
   · rw [List.mem_singleton.1 hx]
     simp only [if_true]
     rw [gBn]
     simp only [cd,pth,if_true]
 · rcases List.mem_append.1 hx with hx|hx<;>rcases List.mem_append.1 hy with hy|hy
   · simp only [if_neg (hidn x hx),if_neg (hidn y hy)] at e
     exact hK.inj x hx y hy e
   · rw [List.mem_singleton.1 hy] at e ⊢
     simp only [if_neg (hidn x hx),if_true] at e
     have:=hnbl x hx;omega
   · rw [List.mem_singleton.1 hx] at e ⊢
     simp only [if_neg (hidn y hy),if_true] at e
     have:=hnbl y hy;omega
   · rw [List.mem_singleton.1 hx,List.mem_singleton.1 hy]
 · rw [List.map_append,List.nodup_append]
   refine ⟨hc.keys,by simp,fun a ha b hb e=>?_⟩
   obtain ⟨r,hr,rfl⟩:=List.mem_map.1 ha
   simp only [List.map_cons,List.map_nil,List.mem_singleton] at hb
   exact hkn r hr (e.trans hb)
 · constructor
   · rintro ⟨b,hb⟩
     rcases List.mem_append.1 hb with hb|hb
     · obtain ⟨x,hx,e⟩:=(hc.mem k id).1 ⟨b,hb⟩
       exact ⟨x,List.mem_append_left _ hx,e⟩
     · simp only [List.mem_singleton,Prod.mk.injEq] at hb
       exact ⟨_,List.mem_append_right _ (List.mem_singleton.2 rfl),hb.1.symm,hb.2.1.symm⟩
   · rintro ⟨x,hx,e1,e2⟩
     rcases List.mem_append.1 hx with hx|hx
     · obtain ⟨b,hb⟩:=(hc.mem k id).2 ⟨x,hx,e1,e2⟩
       exact ⟨b,List.mem_append_left _ hb⟩
     · rw [List.mem_singleton.1 hx] at e1 e2
       exact ⟨ci,List.mem_append_right _ (by rw [← e1,← e2];simp)⟩
 · unfold mK
   rw [List.map_append,List.nodup_append]
   refine ⟨?_,by simp,fun a ha b hb e=>?_⟩
   · rw [List.map_congr_left (g:=fun x=>bn x.id) fun x hx=>by simp only [if_neg (hidn x hx)]]
     exact hc.bnd
   · obtain ⟨x,hx,rfl⟩:=List.mem_map.1 ha
     simp only [List.map_cons,List.map_nil,List.mem_singleton,if_true] at hb
     simp only [if_neg (hidn x hx)] at e
     have:=hc.blt x hx;omega
 · rcases List.mem_append.1 hx with hx|hx
   · simp only [if_neg (hidn x hx)]
     have:=hc.blt x hx;omega
   · rw [List.mem_singleton.1 hx];simp only [if_true];omega
 · have b1:i≠iv:=fun e=>hn (.inl e)
   have b2:i≠mn:=fun e=>hn (.inr (.inl e))
   have b3:i≠mi:=fun e=>hn (.inr (.inr (.inl e)))
   rw [gB i hi b3,gA i b1 b2]
 · have b1:it≠iv:=fun e=>by rw [e,hc.v] at hit;simp at hit
   have b2:it≠mn:=fun e=>by rw [e,hc.n] at hit;simp at hit
   rw [gY it h4,gA it b1 b2];exact hit
 · rw [List.getElem?_append_right (by omega),hAl];simp
 · rw [← hmap,pH]
   have:(mK l last dn v).findIdx? (fun x=>decide (x.id=last+1))=some l.length:=by
     unfold mK
     rw [List.findIdx?_append,List.findIdx?_eq_none_iff.2 fun x hx=>by simpa using hidn x hx]
     simp [List.findIdx?_cons]
   rw [this];simp
 · rw [pJ]
   rw [List.findIdx?_eq_none_iff.2 fun r hr=>by simpa using hkn r hr];rfl
 · rw [pH]
   rw [List.findIdx?_eq_none_iff.2 fun x hx=>by simpa using hidn x hx];rfl
end
set_option maxHeartbeats 8000000
set_option maxRecDepth 100000
section
variable {L:List Blk} {iv mn mi it:Nat} {nb bn:Int→Nat} {ck ci:Nat} {rs:List TKy} {suf:List Rdn} {last:Int} {l:List az}
theorem OB (ht:TOk suf last l) (n23:mn≠mi) (hln:l.length≤1000000) (hl0:0≤last) (hl1:last≤1000000) (hit:L[it]?=some (.cells [.ptr iv 0])) (hc:aR L iv mn mi nb bn ck ci rs suf last l)
   {dn tn:List Rdn} {v:List Atr} (hdb:dnB dn) (htb:dnB tn) (hvl:v.length≤1100000) (hvz:∀ a∈v,a.2.length≤1100000) (ha:b8 suf l 1 dn tn=0) {K:AV→List Blk→Prop}
   (h:∀ L' nb' bn' ck' ci' rs',aR L' iv mn mi nb' bn' ck' ci' rs' suf (last+1) (mK l last dn v)→L'[it]?=some (.cells [.ptr iv 0])→aH (OfT iv mn mi nb l) L L'→K (.int .i64 0) L') :
   ab Tryz.prog 26 [.ptr it 0,.agg [.int .i64 1,dnA dn,dnA tn,atR v]] L K:=by
 obtain ⟨hca,_⟩:=ht.canA ha
 have hod:=hca.ok
 have hf0:aN l dn=0:=ht.find0.2 (mJ.2 fun _ x hx=>hca.no x hx)
 have hvw:=hc.v
 have hnn:=hc.n
 have hivl:iv<L.length:=(List.getElem?_eq_some_iff.1 hvw).1
 have hmnl:mn<L.length:=(List.getElem?_eq_some_iff.1 hnn).1
 have hitl:it<L.length:=(List.getElem?_eq_some_iff.1 hit).1
 have n12:iv≠mn:=fun e=>by have:=hc.v;rw [e,hc.n] at this;simp at this
 have n1t:iv≠it:=fun e=>by have:=hc.v;rw [e,hit] at this;simp at this
 have av:∀ X:List Blk,(L++X)[iv]?=some (.cells [dnA suf,.lmap mn,.lmap mi,.int .i64 last]):=fun X=>by rw [List.getElem?_append_left hivl];exact hvw
 have at':∀ X:List Blk,(L++X)[it]?=some (.cells [.ptr iv 0]):=fun X=>by rw [List.getElem?_append_left hitl];exact hit
 have sv:∀ (X:List Blk) b,(L++X).set iv b=L.set iv b++X:=fun X b=>List.set_append_left _ _ hivl
 have av2:∀ (X:List Blk) b,(L.set iv b++X)[iv]?=some b:=fun X b=>by rw [List.getElem?_append_left (by simpa using hivl)];simp [hivl]
 have at2:∀ (X:List Blk) b,(L.set iv b++X)[it]?=some (.cells [.ptr iv 0]):=fun X b=>by rw [List.getElem?_append_left (by simpa using hitl),List.getElem?_set_ne n1t];exact hit
 have an2:∀ (X:List Blk) b,(L.set iv b++X)[mn]?=some (.map (l.map (em nb bn)) ck):=fun X b=>by rw [List.getElem?_append_left (by simpa using hmnl),List.getElem?_set_ne n12];exact hnn
 have sn2:∀ (X:List Blk) b c,(L.set iv b++X).set mn c=(L.set iv b).set mn c++X:=fun X b c=>List.set_append_left _ _ (by simpa using hmnl)
 have ab2:∀ (X:List Blk) (b c:Blk),(L.set iv b++c::X)[L.length]?=some c:=fun X b c=>by rw [List.getElem?_append_right (by simp)];simp
 have ab3:∀ (X:List Blk) (b c d:Blk),((L.set iv b).set mn d++c::X)[L.length]?=some c:=fun X b c d=>by rw [List.getElem?_append_right (by simp)];simp
 have kk1:Hid (∀ {X:List Blk} {K:AV→List Blk→Prop},K (.int .i64 0) (L++X)→ab Tryz.prog 27 [.ptr iv 0,.agg [.int .i64 1,dnA dn,dnA tn,atR v]] (L++X) K):=@hid _ (by
   intro X K q
   exact xO ht (by omega) (hc.app X) hdb htb (by rw [ha];exact q))
 have kk2:Hid (∀ {X:List Blk} {K:AV→List Blk→Prop},K (.int .i64 0) (L++X)→ab Tryz.prog 15 [.ptr iv 0,dnA dn] (L++X) K):=@hid _ (by
   intro X K q
   exact ov hdb ht (hc.app X) (by rw [hf0];exact q))
 have kk3:Hid (Ctr Tryz.prog 48 [atR v] (atR v)):=@hid _ (by intro L K q;exact CU hvl hvz q)
 have w1:IntKind.i64.wrap (last+1)=last+1:=ah (by omega) (by omega)
 have hkf:aT .int (.int .i64 (last+1))=true:=rfl
 have hll:∀ b,(L.set iv b).length=L.length:=fun b=>List.length_set
 obtain ⟨box,hbox⟩:∃ box:Blk,box=.cells [.int .i64 1,dnA dn,dnA tn,atR v]:=⟨_,rfl⟩
 obtain ⟨A,hA⟩:∃ A,(L.set iv (.cells [dnA suf,.lmap mn,.lmap mi,.int .i64 (last+1)])).set mn (.map ((l.map (em nb bn))++[(.int .i64 (last+1),.ptr (L.length+1) 0,ck)]) (ck+1))=A:=⟨_,rfl⟩
 obtain ⟨B,hB⟩:∃ B,((A++[box,.cells [.sl [] 0 (some 0),.sl [] 0 (some 0),atR v,.int .i64 0]]).set (L.length+1) (.cells [dnA dn,.sl (aB (NK dn).reverse) dn.length none,atR v,.int .i64 0])).set mi (.map ((rs++[(aK true dn,last+1,ci)]).map kyA) (ci+1))++[.cells [.sl (aB (NK dn).reverse) dn.length none]]=B:=⟨_,rfl⟩
 have hAl:A.length=L.length:=by rw [← hA];simp
 have hmil:mi<L.length:=(List.getElem?_eq_some_iff.1 hc.i).1
 obtain ⟨hfin,hbes,p1,p2,p3,p4,p5,p6,p7,p8⟩:=hc.added ht n23 hit hod hca.no v box (.cells [.sl [] 0 (some 0),.sl [] 0 (some 0),atR v,.int .i64 0]) (.cells [.sl (aB (NK dn).reverse) dn.length none]) A B hA.symm hB.symm
 have pb:B[L.length]?=some box:=by
   rw [← hB,List.getElem?_append_left (by simp;omega),List.getElem?_set_ne (by omega),List.getElem?_set_ne (by omega),List.getElem?_append_right (by omega),hAl];simp
 have pa0:(A++[box,.cells [.sl [] 0 (some 0),.sl [] 0 (some 0),atR v,.int .i64 0]])[L.length]?=some box:=by rw [List.getElem?_append_right (by omega),hAl];simp
 have hitB:B[it]?=some (.cells [.ptr iv 0]):=hbes.get hit ((hc.toK ht).noIt hit)
 obtain ⟨hadd,hk0,hkq⟩:=ht.add hl0 hca v
 have kk4:Hid (∀ {K:AV→List Blk→Prop},K (.tup []) B→ab Tryz.prog 56 [.ptr it 0,.int .i64 (last+1),dnA dn] (A++[box,.cells [.sl [] 0 (some 0),.sl [] 0 (some 0),atR v,.int .i64 0]]) K):=@hid _ (by
   intro K q
   refine Kb hod p1 p2 p3 p6 p5 p4 p7 ?_
   rw [hB];exact q)
 have kk5:Hid (∀ {K:AV→List Blk→Prop},(∀ L' nb' bn' ck' ci' rs',aR L' iv mn mi nb' bn' ck' ci' rs' suf (last+1) (mK l last dn v)→L'[it]?=some (.cells [.ptr iv 0])→aH (OfT iv mn mi nb l) L L'→K (.tup []) L')→ab Tryz.prog 57 [.ptr it 0,dnA dn,.int .i64 1] B K):=@hid _ (by
   intro K q
   have hne:dn≠[]:=fun e=>by
     rcases hca.par with e2|⟨x,hx,e2⟩
     · exact ht.inv.sne (by rw [← e2,e];rfl)
     · exact ht.inv.ne (dJ hx) (by rw [e2,e];rfl)
   have hkl:∀ i,(gy l i:Int)≤l.length:=fun i=>by
     unfold gy aO
     cases mE l i with
     | none=>simp
     | some x=>simp only;exact Int.ofNat_le.2 (Nat.le_trans (List.length_filter_le _ _) (by simp [cE]))
   refine vD hdb hne hadd (fun x hx=>⟨x,hx,rfl⟩) (fun x hx=>(hadd.ids x hx).1) hitB hfin (by omega) (fun i=>?_) fun L' hK hb=>?_
   · split
     · omega
     · have:=hkl i;omega
   · refine q L' _ _ _ _ _ (hK.toT fun x hx=>?_) (hb.get hitB (hfin.noIt hitB)) (hbes.trans2 hb fun i hi=>?_)
     · rw [hkq (NK x.nm)]
       have hpar:(x.id=aN (mK l last dn v) dn.tail)↔(NK dn).tail=NK x.nm:=by
         rw [← zy]
         constructor
         · intro e
           unfold aN at e
           cases hq:atE (mK l last dn v) dn.tail with
           | none=>rw [hq] at e;have:=(hadd.ids x hx).1;simp only at e;omega
           | some y =>
             rw [hq] at e
             obtain ⟨_,hy,e2⟩:=bE hq
             rw [hadd.byI hx hy e,e2]
         · intro e
           unfold aN
           rw [hadd.at hx hod.tail e]
       have hkx:(if x.id=last+1 then (0:Int) else (gy l x.id:Nat))=(aO (cE l) (NK x.nm):Nat):=by
         rcases List.mem_append.1 hx with hx|hx
         · rw [if_neg (by have:=(ht.ids x hx).2;omega),ht.kidsE hx]
         · rw [List.mem_singleton.1 hx,if_pos rfl]
           have:=hkq (NK dn)
           rw [hk0] at this
           simp only
           omega
       by_cases hp:(NK dn).tail=NK x.nm
       · rw [if_pos hp,if_pos (hpar.2 hp),hkx];simp
       · rw [if_neg hp,if_neg (fun e=>hp (hpar.1 e)),hkx];simp
     · rintro (e|e|e|⟨x,hx,e⟩)
       · exact .inl e
       · exact .inr (.inl e)
       · exact .inr (.inr (.inl e))
       · rcases List.mem_append.1 hx with hx|hx
         · exact .inr (.inr (.inr ⟨x,hx,by rw [e];exact if_neg (by have:=(ht.ids x hx).2;omega)⟩))
         · rw [List.mem_singleton.1 hx] at e
           simp only [if_true] at e
           omega)
 replace h:=hid h
 clear hB hfin hbes p6 p7 hadd hk0 hkq hca hvw hnn hit hAl
 subst hbox
 refine aa dN (by simp [bB]) ?_
 simp only [bB,am]
 refine wk ?_
 simp only [List.length_cons,List.length_nil,Nat.reduceAdd,List.drop_succ_cons,List.drop_zero,List.cons_append,List.nil_append]
 refine sk ?_
 refine wk ?_
 intro L' nb' bn' ck' ci' rs' q1 q2 q3
 replace q1:=hid q1
 replace q2:=hid q2
 replace q3:=hid q3
 refine wk ?_
 exact ak (h.out L' _ _ _ _ _ q1.out q2.out q3.out)
end
set_option maxHeartbeats 8000000
set_option maxRecDepth 100000
theorem zK {β γ:Type} (f:β→γ):∀ (l:List β) (n:Nat),(l.eraseIdx n).map f=(l.map f).eraseIdx n
 | [],_=>rfl
 | x::l,0=>rfl
 | x::l,n+1=>by simp only [List.eraseIdx_cons_succ,List.map_cons,zK f l n]
theorem jt {β γ:Type} [DecidableEq γ] (f:β→γ):∀ (l:List β) (k:γ),(l.map f).Nodup→∀ n,l.findIdx? (fun x=>decide (f x=k))=some n→l.eraseIdx n=l.filter fun x=>decide (f x≠k)
 | [],k,_,n,h=>by simp at h
 | x::l,k,hn,n,h=>by
   rw [List.map_cons,List.nodup_cons] at hn
   rw [List.findIdx?_cons] at h
   by_cases c:f x=k
   · rw [decide_eq_true c] at h
     simp only [if_true,Option.some.injEq] at h
     subst h
     rw [List.filter_cons_of_neg (by simpa using c)]
     simp only [List.eraseIdx_zero,List.tail_cons]
     exact (List.filter_eq_self.2 fun y hy=>by
       simp only [ne_eq,decide_eq_true_eq]
       intro e
       exact hn.1 (List.mem_map.2 ⟨y,hy,by rw [e,c]⟩)).symm
   · rw [decide_eq_false c] at h
     simp only [Bool.false_eq_true,if_false,Option.map_eq_some_iff] at h
     obtain ⟨m,hm,rfl⟩:=h
     rw [List.filter_cons_of_pos (by simpa using c),List.eraseIdx_cons_succ,jt f l k hn.2 m hm]
section
variable {L:List Blk} {iv mn mi it:Nat} {nb bn:Int→Nat} {ck ci:Nat} {rs:List TKy} {suf:List Rdn} {last:Int} {l lk:List az} {kd:Int→Int}
theorem a6.nemi (h:a6 L iv mn mi nb bn ck ci rs suf last l lk kd):iv≠mi:=fun e=>by have:=h.v;rw [e,h.i] at this;simp at this
theorem a6.nemn (h:a6 L iv mn mi nb bn ck ci rs suf last l lk kd):iv≠mn:=fun e=>by have:=h.v;rw [e,h.n] at this;simp at this
theorem a6.nenb (h:a6 L iv mn mi nb bn ck ci rs suf last l lk kd) {x:az} (hx:x∈l):nb x.id≠iv∧nb x.id≠mn∧nb x.id≠mi:=by
 have hk:=h.nd x hx
 exact ⟨fun e=>by rw [e,h.v] at hk;simp [cd] at hk,fun e=>by rw [e,h.n] at hk;simp at hk,fun e=>by rw [e,h.i] at hk;simp at hk⟩
theorem a6.delk (h:a6 L iv mn mi nb bn ck ci rs suf last l lk kd) (n23:mn≠mi) {y:az} (hy:y∈lk) (hu:∀ x∈lk,aK true x.nm=aK true y.nm↔x.id=y.id) :
   ∃ j,b7 (.str (aK true y.nm)) (rs.map kyA) 0=some (some (j,.int .i64 y.id))∧a6 (L.set mi (.map ((rs.map kyA).eraseIdx j) ci)) iv mn mi nb bn ck ci (rs.eraseIdx j) suf last l (zq lk y.id) kd:=by
 obtain ⟨b,hb⟩:=(h.mem (aK true y.nm) y.id).2 ⟨y,hy,rfl,rfl⟩
 rw [pJ]
 rcases dK (f:=fun r:TKy=>decide (r.1=aK true y.nm)) (l:=rs) with ⟨h1,h2⟩|⟨n,h1,hn,h2⟩
 · exact absurd (List.find?_eq_none.1 h2 _ hb) (by simp)
 · have hm:=List.mem_of_find?_eq_some h2
   have hk:=List.find?_some h2
   simp only [decide_eq_true_eq] at hk
   have he:rs.getD n default=(aK true y.nm,y.id,b):=dR h.keys hm hb hk
   have hmi:=(List.getElem?_eq_some_iff.1 h.i).1
   have her:=jt (fun r:TKy=>r.1) rs (aK true y.nm) h.keys n h1
   refine ⟨n,by rw [h1];simp only [Option.map_some,he,Nat.zero_add],?_⟩
   have hmm:∀ r:TKy,r∈rs.eraseIdx n↔r∈rs∧r.1≠aK true y.nm:=fun r=>by rw [her,List.mem_filter];simp
   refine ⟨by rw [List.getElem?_set_ne (Ne.symm h.nemi)];exact h.v,by rw [List.getElem?_set_ne (Ne.symm n23)];exact h.n,by rw [List.getElem?_set_self hmi,zK],fun x hx=>by rw [List.getElem?_set_ne (Ne.symm (h.nenb hx).2.2)];exact h.nd x hx,h.inj,(List.Sublist.map _ (List.eraseIdx_sublist ..)).nodup h.keys,fun k id=>?_,h.bnd,h.blt⟩
   constructor
   · rintro ⟨c,hc⟩
     obtain ⟨hc1,hc2⟩:=(hmm _).1 hc
     obtain ⟨x,hx,e1,e2⟩:=(h.mem k id).1 ⟨c,hc1⟩
     refine ⟨x,List.mem_filter.2 ⟨hx,?_⟩,e1,e2⟩
     simp only [ne_eq,decide_eq_true_eq]
     intro e
     exact hc2 (e1.symm.trans ((hu x hx).2 e))
   · rintro ⟨x,hx,e1,e2⟩
     obtain ⟨hx1,hx2⟩:=List.mem_filter.1 hx
     simp only [ne_eq,decide_eq_true_eq] at hx2
     obtain ⟨c,hc⟩:=(h.mem k id).2 ⟨x,hx1,e1,e2⟩
     exact ⟨c,(hmm _).2 ⟨hc,fun e=>hx2 ((hu x hx1).1 (by rw [e1];exact e))⟩⟩
theorem a6.deln (h:a6 L iv mn mi nb bn ck ci rs suf last l lk kd) (n23:mn≠mi) (hn:(l.map (·.id)).Nodup) {y:az} (hy:y∈l) :
   ∃ j v,b7 (.int .i64 y.id) (l.map (em nb bn)) 0=some (some (j,v))∧a6 (L.set mn (.map ((l.map (em nb bn)).eraseIdx j) ck)) iv mn mi nb bn ck ci rs suf last (zq l y.id) lk kd:=by
 rw [pH]
 rcases dK (f:=fun x:az=>decide (x.id=y.id)) (l:=l) with ⟨h1,h2⟩|⟨n,h1,hl,h2⟩
 · exact absurd (List.find?_eq_none.1 h2 _ hy) (by simp)
 · have hmn:=(List.getElem?_eq_some_iff.1 h.n).1
   have her:=jt (fun x:az=>x.id) l y.id hn n h1
   have sub:∀ x∈zq l y.id,x∈l:=fun x hx=>(List.mem_filter.1 hx).1
   refine ⟨n,_,by rw [h1];simp;rfl,?_⟩
   refine ⟨by rw [List.getElem?_set_ne (Ne.symm h.nemn)];exact h.v,by rw [List.getElem?_set_self hmn,← zK,her];rfl,by rw [List.getElem?_set_ne n23];exact h.i,fun x hx=>by rw [List.getElem?_set_ne (Ne.symm (h.nenb (sub x hx)).2.1)];exact h.nd x (sub x hx),fun x hx z hz=>h.inj x (sub x hx) z (sub z hz),h.keys,h.mem,?_,fun x hx=>h.blt x (sub x hx)⟩
   exact (List.Sublist.map _ List.filter_sublist).nodup h.bnd
theorem a6.cha (h:a6 L iv mn mi nb bn ck ci rs suf last l lk kd) {y:az} (hy:y∈l) (v:List Atr) :
   a6 (L.set (nb y.id) (.cells [dnA y.nm,.sl (aB (pth y)) y.nm.length none,atR v,.int .i64 (kd y.id)])) iv mn mi nb bn ck ci rs suf last (mF l y.id v) (mF lk y.id v) kd:=by
 have hny:=h.nd y hy
 have hl:=(List.getElem?_eq_some_iff.1 hny).1
 obtain ⟨n1,n2,n3⟩:=h.nenb hy
 have hnod:(mF l y.id v).map (em nb bn)=l.map (em nb bn):=by
   unfold mF
   rw [List.map_map]
   refine List.map_congr_left fun x _=>?_
   simp only [Function.comp_apply]
   split<;>rfl
 have hbn:(mF l y.id v).map (fun x=>bn x.id)=l.map (fun x=>bn x.id):=by
   unfold mF
   rw [List.map_map]
   refine List.map_congr_left fun x _=>?_
   simp only [Function.comp_apply]
   split<;>rfl
 have back:∀ {m:List az} {x},x∈mF m y.id v→∃ z∈m,z.id=x.id∧z.nm=x.nm∧(z.id=y.id→x.av=v)∧(z.id≠y.id→x=z):=fun {m x} hx=>by
   obtain ⟨z,hz,rfl⟩:=List.mem_map.1 hx
   refine ⟨z,hz,?_,?_,?_,?_⟩<;>split<;>simp_all
 have forth:∀ {m:List az} {z},z∈m→∃ x∈mF m y.id v,x.id=z.id∧x.nm=z.nm:=fun {m z} hz=>by
   refine ⟨_,List.mem_map.2 ⟨z,hz,rfl⟩,?_,?_⟩<;>split<;>rfl
 refine ⟨by rw [List.getElem?_set_ne n1];exact h.v,by rw [List.getElem?_set_ne n2,hnod];exact h.n,by rw [List.getElem?_set_ne n3];exact h.i,fun x hx=>?_,fun x hx z hz e=>?_,h.keys,fun k id=>?_,by rw [hbn];exact h.bnd,fun x hx=>?_⟩
 · obtain ⟨z,hz,e1,e2,e3,e4⟩:=back hx
   by_cases e:nb y.id=nb z.id
   · have hi:=h.inj y hy z hz e
     have hxy:cd kd y=cd kd z:=by
       have h2:=h.nd z hz
       rw [← e,hny] at h2
       injection h2 with h2;injection h2
     unfold cd at hxy ⊢
     simp only [List.cons.injEq] at hxy
     have hp:pth x=pth z:=by unfold pth;rw [e2]
     rw [← e1,← e,List.getElem?_set_self hl,e3 hi.symm,hxy.1,hxy.2.1,hxy.2.2.2.1,hp,e2]
   · have hne:z.id≠y.id:=fun e5=>e (by rw [e5])
     rw [e4 hne,List.getElem?_set_ne e]
     exact h.nd z hz
 · obtain ⟨a,ha,e1,_⟩:=back hx
   obtain ⟨b,hb,e2,_⟩:=back hz
   rw [← e1,← e2] at e ⊢
   exact h.inj a ha b hb e
 · rw [h.mem k id]
   constructor
   · rintro ⟨x,hx,e1,e2⟩
     obtain ⟨z,hz,e3,e4⟩:=forth hx
     exact ⟨z,hz,by rw [e4];exact e1,by rw [e3];exact e2⟩
   · rintro ⟨x,hx,e1,e2⟩
     obtain ⟨z,hz,e3,e4,_⟩:=back hx
     exact ⟨z,hz,by rw [e4];exact e1,by rw [e3];exact e2⟩
 · obtain ⟨z,hz,e1,_⟩:=back hx
   rw [← e1];exact h.blt z hz
def nmT (l:List az) (id:Int) (d:List Rdn):List az:=l.map fun x=>if x.id=id then { x with nm:=d } else x
theorem a6.ren (h:a6 L iv mn mi nb bn ck ci rs suf last l lk kd) (n23:mn≠mi) {y:az} (hy:y∈l) {d:List Rdn} (hno:∀ x∈lk,aK true x.nm≠aK true d) (X:List Blk) :
   b7 (.str (aK true d)) (rs.map kyA) 0=some none ∧
   a6 ((L.set (nb y.id) (.cells [dnA d,.sl (aB (NK d).reverse) d.length none,atR y.av,.int .i64 (kd y.id)])).set mi (.map ((rs++[(aK true d,y.id,ci)]).map kyA) (ci+1))++X) iv mn mi nb bn ck (ci+1) (rs++[(aK true d,y.id,ci)]) suf last (nmT l y.id d) (lk++[{ y with nm:=d }]) kd:=by
 have hkn:∀ r∈rs,r.1≠aK true d:=fun r hr e=>by
   obtain ⟨x,hx,e1,_⟩:=(h.mem r.1 r.2.1).1 ⟨r.2.2,hr⟩
   exact hno x hx (e1.trans e)
 refine ⟨by rw [pJ,List.findIdx?_eq_none_iff.2 fun r hr=>by simpa using hkn r hr];rfl,a6.app ?_ X⟩
 have hny:=h.nd y hy
 have hl:=(List.getElem?_eq_some_iff.1 hny).1
 have hmi:=(List.getElem?_eq_some_iff.1 h.i).1
 obtain ⟨n1,n2,n3⟩:=h.nenb hy
 have hnod:(nmT l y.id d).map (em nb bn)=l.map (em nb bn):=by
   unfold nmT
   rw [List.map_map]
   refine List.map_congr_left fun x _=>?_
   simp only [Function.comp_apply]
   split<;>rfl
 have hbn:(nmT l y.id d).map (fun x=>bn x.id)=l.map (fun x=>bn x.id):=by
   unfold nmT
   rw [List.map_map]
   refine List.map_congr_left fun x _=>?_
   simp only [Function.comp_apply]
   split<;>rfl
 have back:∀ {x},x∈nmT l y.id d→∃ z∈l,z.id=x.id∧z.av=x.av∧(z.id=y.id→x.nm=d)∧(z.id≠y.id→x=z):=fun {x} hx=>by
   obtain ⟨z,hz,rfl⟩:=List.mem_map.1 hx
   refine ⟨z,hz,?_,?_,?_,?_⟩<;>split<;>simp_all
 refine ⟨by rw [List.getElem?_set_ne (Ne.symm h.nemi),List.getElem?_set_ne n1];exact h.v,by rw [List.getElem?_set_ne (Ne.symm n23),List.getElem?_set_ne n2,hnod];exact h.n,by rw [List.getElem?_set_self (by simpa using hmi)],fun x hx=>?_,fun x hx z hz e=>?_,?_,fun k id=>?_,by rw [hbn];exact h.bnd,fun x hx=>?_⟩
 · obtain ⟨z,hz,e1,e2,e3,e4⟩:=back hx
   rw [← e1,List.getElem?_set_ne (Ne.symm (h.nenb hz).2.2)]
   by_cases e:nb y.id=nb z.id
   · have hi:=h.inj y hy z hz e
     have hxy:cd kd y=cd kd z:=by
       have h2:=h.nd z hz
       rw [← e,hny] at h2
       injection h2 with h2;injection h2
     unfold cd at hxy ⊢
     simp only [List.cons.injEq] at hxy
     have hp:pth x=(NK d).reverse:=by unfold pth;rw [e3 hi.symm]
     rw [← e,List.getElem?_set_self hl,e3 hi.symm,hp,hxy.2.2.1,e2,← e1,hi]
   · have hne:z.id≠y.id:=fun e5=>e (by rw [e5])
     rw [e4 hne,List.getElem?_set_ne e]
     exact h.nd z hz
 · obtain ⟨a,ha,e1,_⟩:=back hx
   obtain ⟨b,hb,e2,_⟩:=back hz
   rw [← e1,← e2] at e ⊢
   exact h.inj a ha b hb e
 · rw [List.map_append,List.nodup_append]
   refine ⟨h.keys,by simp,fun a ha b hb e=>?_⟩
   obtain ⟨r,hr,rfl⟩:=List.mem_map.1 ha
   simp only [List.map_cons,List.map_nil,List.mem_singleton] at hb
   exact hkn r hr (e.trans hb)
 · constructor
   · rintro ⟨b,hb⟩
     rcases List.mem_append.1 hb with hb|hb
     · obtain ⟨x,hx,e⟩:=(h.mem k id).1 ⟨b,hb⟩
       exact ⟨x,List.mem_append_left _ hx,e⟩
     · simp only [List.mem_singleton,Prod.mk.injEq] at hb
       exact ⟨_,List.mem_append_right _ (List.mem_singleton.2 rfl),hb.1.symm,hb.2.1.symm⟩
   · rintro ⟨x,hx,e1,e2⟩
     rcases List.mem_append.1 hx with hx|hx
     · obtain ⟨b,hb⟩:=(h.mem k id).2 ⟨x,hx,e1,e2⟩
       exact ⟨b,List.mem_append_left _ hb⟩
     · rw [List.mem_singleton.1 hx] at e1 e2
       exact ⟨ci,List.mem_append_right _ (by rw [← e1,← e2];simp)⟩
 · obtain ⟨z,hz,e1,_⟩:=back hx
   rw [← e1];exact h.blt z hz
end
end Go.Proofs.YtdhjplmjpjfjnaaGreat.Av
