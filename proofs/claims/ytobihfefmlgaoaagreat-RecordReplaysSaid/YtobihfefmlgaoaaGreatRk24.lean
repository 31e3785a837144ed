/- Joined texts of the walk, made small by a program. -/
import Derived.Test.YtobihfefmlgaoaaGreatRk22
import Derived.Test.YtobihfefmlgaoaaGreatRk23
set_option linter.unusedSimpArgs false
set_option linter.unusedVariables false
namespace Go.Proofs.YtobihfefmlgaoaaGreat.Av
open Go
set_option maxHeartbeats 8000000
set_option maxRecDepth 100000
section
variable {L:List Blk} {iv mn mi it:Nat} {nb bn:Int->Nat} {ck ci:Nat} {rs:List TKy} {suf:List Rdn} {last:Int} {l lk:List aB} {kd:Int->Int}
theorem bE.kds (h:bE L iv mn mi nb bn ck ci rs suf last l lk kd) {kd':Int->Int} (e:∀ x∈l,kd' x.id=kd x.id):bE L iv mn mi nb bn ck ci rs suf last l lk kd' :=
 ⟨h.v,h.n,h.i,fun x hx=>by rw [h.nd x hx];unfold dc;rw [e x hx],h.inj,h.keys,h.mem,h.bnd,h.blt⟩
theorem bE.noIt (h:bE L iv mn mi nb bn ck ci rs suf last l lk kd) (hit:L[it]?=some (.cells [.ptr iv 0])):¬ OfT iv mn mi nb l it:=by
 rintro (e|e|e|⟨x,hx,e⟩)
 ·rw [e,h.v] at hit;simp at hit
 ·rw [e,h.n] at hit;simp at hit
 ·rw [e,h.i] at hit;simp at hit
 ·rw [e,h.nd x hx] at hit;simp [dc] at hit
theorem K5 {d:List Rdn} {cap:Option Nat} {b:Int} (hd:dnB d) (hne:d≠[]) (ht:TOk suf last lk) (hsub:∀ x∈lk,∃ y∈l,y.id=x.id) (hpos:∀ x∈l,1<=x.id) (hit:L[it]?=some (.cells [.ptr iv 0])) (hc:bE L iv mn mi nb bn ck ci rs suf last l lk kd) (hb : -1<=b/\b<=1) (hkd:∀ i,-10000000<=kd i/\kd i<=10000000) {K:afC}
  (h:∀ L',bE L' iv mn mi nb bn ck ci rs suf last l lk (fun i=>if i=aY lk d.tail then kd i+b else kd i)->aK (OfT iv mn mi nb l) L L'->K (.tup []) L') :
  afB 43 [.ptr it 0,.sl (d.map aw) d.length cap,.int .i64 b] L K:=by
 refine acL hd hne ht hsub hit hc hb hkd (fun h0=>?_) (fun x hx e=>?_)
 ·refine h L (hc.kds fun x hx=>?_) (aK.refl L);rw [h0,if_neg (by have:=hpos x hx;omega)]
 ·refine h _ ?_ (aK.set L (.inr (.inr (.inr ⟨x,hx,rfl⟩))) _);rw [<- e];exact hc.kid hx b
theorem bu.added (hc:bu L iv mn mi nb bn ck ci rs suf last l) (ht:TOk suf last l) (n23:mn≠mi) (hit:L[it]?=some (.cells [.ptr iv 0])) {dn:List Rdn} (hod:OkD dn) (hno:∀ x∈l,NK x.nm≠NK dn) (v:List Atr) (box a0 X:Blk) (A B:List Blk)
  (hA:A=(L.set iv (.cells [dnA suf,.lmap mn,.lmap mi,.int .i64 (last+1)])).set mn (.map ((l.map (fz nb bn))++[(.int .i64 (last+1),.ptr (L.length+1) 0,ck)]) (ck+1)))
  (hB:B=((A++[box,a0]).set (L.length+1) (.cells [dnA dn,.sl (aF (NK dn).reverse) dn.length none,atR v,.int .i64 0])).set mi (.map ((rs++[(aQ true dn,last+1,ci)]).map kyA) (ci+1))++[X]) :
  bE B iv mn mi (fun i=>if i=last+1 then L.length+1 else nb i) (fun i=>if i=last+1 then ck else bn i) (ck+1) (ci+1) (rs++[(aQ true dn,last+1,ci)]) suf (last+1) (rR l last dn v) (rR l last dn v) (fun i=>if i=last+1 then 0 else (eX l i:Nat))/\aK (OfT iv mn mi nb l) L B /\
  (A++[box,a0])[it]?=some (.cells [.ptr iv 0])/\(A++[box,a0])[iv]?=some (.cells [dnA suf,.lmap mn,.lmap mi,.int .i64 (last+1)])/\(A++[box,a0])[mn]?=some (.map ((l.map (fz nb bn))++[(.int .i64 (last+1),.ptr (L.length+1) 0,ck)]) (ck+1))/\(A++[box,a0])[mi]?=some (.map (rs.map kyA) ci)/\(A++[box,a0])[L.length+1]?=some a0 /\
  cZ (.int .i64 (last+1)) ((l.map (fz nb bn))++[(.int .i64 (last+1),.ptr (L.length+1) 0,ck)]) 0=some (some (l.length,.ptr (L.length+1) 0))/\cZ (.str (aQ true dn)) (rs.map kyA) 0=some none/\cZ (.int .i64 (last+1)) (l.map (fz nb bn)) 0=some none:=by
 have hK:=hc.toK ht;have h1:=(ahm.1 hc.v).1;have h2:=(ahm.1 hc.n).1;have h3:=(ahm.1 hc.i).1;have h4:=(ahm.1 hit).1;have n12:iv≠mn:=fun e=>by have:=hc.v;rw [e,hc.n] at this;simp at this
 have n13:iv≠mi:=fun e=>by have:=hc.v;rw [e,hc.i] at this;simp at this
 have hAl:A.length=L.length:=by rw [hA];simp
 have gA:∀ i,i≠iv->i≠mn->A[i]?=L[i]?:=fun i a b=>by rw [hA,ahL (Ne.symm b),ahL (Ne.symm a)]
 have gv:A[iv]?=some (.cells [dnA suf,.lmap mn,.lmap mi,.int .i64 (last+1)]):=by rw [hA,ahL (Ne.symm n12)];simp [h1]
 have gn:A[mn]?=some (.map ((l.map (fz nb bn))++[(.int .i64 (last+1),.ptr (L.length+1) 0,ck)]) (ck+1)):=by rw [hA];simp [h2]
 have gY:∀ i,i<L.length->(A++[box,a0])[i]?=A[i]?:=fun i hi=>ahq (by omega)
 have gB:∀ i,i<L.length->i≠mi->B[i]?=A[i]?:=fun i hi hm=>by
  rw [hB,ahq (by simp;omega),ahL (Ne.symm hm),ahL (by omega),gY i hi]
 have gBi:B[mi]?=some (.map ((rs++[(aQ true dn,last+1,ci)]).map kyA) (ci+1)):=by
  rw [hB,ahq (by simp;omega),aiP (by simp;omega)]
 have gBn:B[L.length+1]?=some (.cells [dnA dn,.sl (aF (NK dn).reverse) dn.length none,atR v,.int .i64 0]):=by
  rw [hB,ahq (by simp;omega),ahL (by omega),aiP (by simp;omega)]
 have hidn:∀ x∈l,x.id≠last+1:=fun x hx e=>by have:=(ht.ids x hx).2;omega
 have hnbl:∀ x∈l,nb x.id<L.length:=fun x hx=>(ahm.1 (hc.nd x hx)).1
 have hno':∀ x∈l,aQ true x.nm≠aQ true dn:=fun x hx e=>hno x hx ((kI (ht.ok x hx) hod).1 e)
 have hkn:∀ r∈rs,r.1≠aQ true dn:=fun r hr e=>by
  obtain ⟨x,hx,e1,_⟩:=(hc.mem r.1 r.2.1).1 ⟨r.2.2,hr⟩;exact hno' x hx (e1.trans e)
 have hmap:(rR l last dn v).map (fz (fun i=>if i=last+1 then L.length+1 else nb i) (fun i=>if i=last+1 then ck else bn i))=l.map (fz nb bn)++[(.int .i64 (last+1),.ptr (L.length+1) 0,ck)]:=by
  unfold rR;rw [ahN]
  congr 1
  ·refine aiw fun x hx=>?_
   simp only [fz,if_neg (hidn x hx)]
  ·simp [fz]
 refine ⟨⟨by rw [gB iv h1 n13];exact gv,by rw [gB mn h2 n23,gn,hmap],gBi,fun x hx=>?_,fun x hx y hy e=>?_,?_,fun k id=>?_,?_,fun x hx=>?_⟩,⟨by rw [hB];simp;omega,fun i hi hn=>?_⟩,?_,by rw [gY iv h1];exact gv,by rw [gY mn h2];exact gn,by rw [gY mi h3,gA mi (Ne.symm n13) (Ne.symm n23)];exact hc.i,?_,?_,?_,?_⟩
 ·rcases ahr.1 hx with hx|hx
  ·have hk:=hK.nd x hx;have hne:=hidn x hx;have m1:nb x.id≠iv:=fun e=>by rw [e,hc.v] at hk;simp [dc] at hk
   have m2:nb x.id≠mn:=fun e=>by rw [e,hc.n] at hk;simp at hk
   have m3:nb x.id≠mi:=fun e=>by rw [e,hc.i] at hk;simp at hk
   simp only [if_neg hne];rw [gB _ (hnbl x hx) m3,gA _ m1 m2,hk];unfold dc;simp only [if_neg hne]
  ·rw [ahI.1 hx];simp only [if_true];rw [gBn];simp only [dc,pth,if_true]
 ·rcases ahr.1 hx with hx|hx<;>rcases ahr.1 hy with hy|hy
  ·simp only [if_neg (hidn x hx),if_neg (hidn y hy)] at e;exact hK.inj x hx y hy e
  ·rw [ahI.1 hy] at e ⊢;simp only [if_neg (hidn x hx),if_true] at e;have:=hnbl x hx;omega
  ·rw [ahI.1 hx] at e ⊢;simp only [if_neg (hidn y hy),if_true] at e;have:=hnbl y hy;omega
  ·rw [ahI.1 hx,ahI.1 hy]
 ·rw [ahN,ajm];refine ⟨hc.keys,by simp,fun a ha b hb e=>?_⟩;obtain ⟨r,hr,rfl⟩:=ahs.1 ha;simp only [ahH,aif,ahI] at hb;exact hkn r hr (e.trans hb)
 ·constructor
  ·rintro ⟨b,hb⟩;rcases ahr.1 hb with hb|hb
   ·obtain ⟨x,hx,e⟩:=(hc.mem k id).1 ⟨b,hb⟩;exact ⟨x,aih _ hx,e⟩
   ·simp only [ahI,ahx] at hb;exact ⟨_,aiI _ (ahI.2 rfl),hb.1.symm,hb.2.1.symm⟩
  ·rintro ⟨x,hx,e1,e2⟩;rcases ahr.1 hx with hx|hx
   ·obtain ⟨b,hb⟩:=(hc.mem k id).2 ⟨x,hx,e1,e2⟩;exact ⟨b,aih _ hb⟩
   ·rw [ahI.1 hx] at e1 e2;exact ⟨ci,aiI _ (by rw [<- e1,<- e2];simp)⟩
 ·unfold rR;rw [ahN,ajm];refine ⟨?_,by simp,fun a ha b hb e=>?_⟩
  ·rw [aiw (g:=fun x=>bn x.id) fun x hx=>by simp only [if_neg (hidn x hx)]];exact hc.bnd
  ·obtain ⟨x,hx,rfl⟩:=ahs.1 ha;simp only [ahH,aif,ahI,if_true] at hb;simp only [if_neg (hidn x hx)] at e;have:=hc.blt x hx;omega
 ·rcases ahr.1 hx with hx|hx
  ·simp only [if_neg (hidn x hx)];have:=hc.blt x hx;omega
  ·rw [ahI.1 hx];simp only [if_true];omega
 ·have b1:i≠iv:=fun e=>hn (.inl e)
  have b2:i≠mn:=fun e=>hn (.inr (.inl e))
  have b3:i≠mi:=fun e=>hn (.inr (.inr (.inl e)))
  rw [gB i hi b3,gA i b1 b2]
 ·have b1:it≠iv:=fun e=>by rw [e,hc.v] at hit;simp at hit
  have b2:it≠mn:=fun e=>by rw [e,hc.n] at hit;simp at hit
  rw [gY it h4,gA it b1 b2];exact hit
 ·rw [ahu (by omega),hAl];simp
 ·rw [<- hmap,yx];have:(rR l last dn v).findIdx? (fun x=>decide (x.id=last+1))=some l.length:=by
   unfold rR;rw [List.findIdx?_append,ajz.2 fun x hx=>by simpa using hidn x hx];simp [ai6]
  rw [this];simp
 ·rw [yC];rw [ajz.2 fun r hr=>by simpa using hkn r hr];rfl
 ·rw [yx];rw [ajz.2 fun x hx=>by simpa using hidn x hx];rfl
end
set_option maxHeartbeats 8000000
set_option maxRecDepth 100000
section
variable {L:List Blk} {iv mn mi it:Nat} {nb bn:Int->Nat} {ck ci:Nat} {rs:List TKy} {suf:List Rdn} {last:Int} {l:List aB}
theorem agX (ht:TOk suf last l) (n23:mn≠mi) (hln:l.length<=1000000) (hl0:0<=last) (hl1:last<=1000000) (hit:L[it]?=some (.cells [.ptr iv 0])) (hc:bu L iv mn mi nb bn ck ci rs suf last l)
  {dn tn:List Rdn} {v:List Atr} (hdb:dnB dn) (htb:dnB tn) (hvl:v.length<=1100000) (hvz:∀ a∈v,a.2.length<=1100000) (ha:d8 suf l 1 dn tn=0) {K:afC}
  (h:∀ L' nb' bn' ck' ci' rs',bu L' iv mn mi nb' bn' ck' ci' rs' suf (last+1) (rR l last dn v)->L'[it]?=some (.cells [.ptr iv 0])->aK (OfT iv mn mi nb l) L L'->K (.int .i64 0) L') :
  afB 20 [.ptr it 0,.agg [.int .i64 1,dnA dn,dnA tn,atR v]] L K:=by
 obtain ⟨hca,_⟩:=ht.canA ha;have hod:=hca.ok;have hf0:aY l dn=0:=ht.find0.2 (yM.2 fun _ x hx=>hca.no x hx);have hvw:=hc.v;have hnn:=hc.n;have hivl:iv<L.length:=(ahm.1 hvw).1;have hmnl:mn<L.length:=(ahm.1 hnn).1;have hitl:it<L.length:=(ahm.1 hit).1;have n12:iv≠mn:=fun e=>by have:=hc.v;rw [e,hc.n] at this;simp at this
 have n1t:iv≠it:=fun e=>by have:=hc.v;rw [e,hit] at this;simp at this
 have av:∀ X:List Blk,(L++X)[iv]?=some (.cells [dnA suf,.lmap mn,.lmap mi,.int .i64 last]):=fun X=>by rw [ahq hivl];exact hvw
 have at':∀ X:List Blk,(L++X)[it]?=some (.cells [.ptr iv 0]):=fun X=>by rw [ahq hitl];exact hit
 have sv:∀ (X:List Blk) b,(L++X).set iv b=L.set iv b++X:=fun X b=>aiK _ _ hivl
 have av2:∀ (X:List Blk) b,(L.set iv b++X)[iv]?=some b:=fun X b=>by rw [ahq (by simpa using hivl)];simp [hivl]
 have at2:∀ (X:List Blk) b,(L.set iv b++X)[it]?=some (.cells [.ptr iv 0]):=fun X b=>by rw [ahq (by simpa using hitl),ahL n1t];exact hit
 have an2:∀ (X:List Blk) b,(L.set iv b++X)[mn]?=some (.map (l.map (fz nb bn)) ck):=fun X b=>by rw [ahq (by simpa using hmnl),ahL n12];exact hnn
 have sn2:∀ (X:List Blk) b c,(L.set iv b++X).set mn c=(L.set iv b).set mn c++X:=fun X b c=>aiK _ _ (by simpa using hmnl)
 have ab2:∀ (X:List Blk) (b c:Blk),(L.set iv b++c::X)[L.length]?=some c:=fun X b c=>by rw [ahu (by simp)];simp
 have ab3:∀ (X:List Blk) (b c d:Blk),((L.set iv b).set mn d++c::X)[L.length]?=some c:=fun X b c d=>by rw [ahu (by simp)];simp
 have kk1:Hid (∀ {X:List Blk} {K:afC},K (.int .i64 0) (L++X)->afB 41 [.ptr iv 0,.agg [.int .i64 1,dnA dn,dnA tn,atR v]] (L++X) K):=@hid _ (by
  intro X K q;exact OH ht (by omega) (hc.app X) hdb htb (by rw [ha];exact q))
 have kk2:Hid (∀ {X:List Blk} {K:afC},K (.int .i64 0) (L++X)->afB 24 [.ptr iv 0,dnA dn] (L++X) K):=@hid _ (by
  intro X K q;exact yY hdb ht (hc.app X) (by rw [hf0];exact q))
 have kk3:Hid (Ctr Tryz.prog 26 [atR v] (atR v)):=@hid _ (by intro L K q;exact SS hvl hvz q);have w1:IntKind.i64.wrap (last+1)=last+1:=ac (by omega) (by omega);have hkf:bg .int (.int .i64 (last+1))=true:=rfl;have hll:∀ b,(L.set iv b).length=L.length:=fun b=>List.length_set
 obtain ⟨box,hbox⟩:∃ box:Blk,box=.cells [.int .i64 1,dnA dn,dnA tn,atR v]:=⟨_,rfl⟩;obtain ⟨A,hA⟩:=aaR ((L.set iv (.cells [dnA suf,.lmap mn,.lmap mi,.int .i64 (last+1)])).set mn (.map ((l.map (fz nb bn))++[(.int .i64 (last+1),.ptr (L.length+1) 0,ck)]) (ck+1)));obtain ⟨B,hB⟩:=aaR (((A++[box,.cells [.sl [] 0 (some 0),.sl [] 0 (some 0),atR v,.int .i64 0]]).set (L.length+1) (.cells [dnA dn,.sl (aF (NK dn).reverse) dn.length none,atR v,.int .i64 0])).set mi (.map ((rs++[(aQ true dn,last+1,ci)]).map kyA) (ci+1))++[.cells [.sl (aF (NK dn).reverse) dn.length none]]);have hAl:A.length=L.length:=by rw [<- hA];simp
 have hmil:mi<L.length:=(ahm.1 hc.i).1;obtain ⟨hfin,hbes,p1,p2,p3,p4,p5,p6,p7,p8⟩:=hc.added ht n23 hit hod hca.no v box (.cells [.sl [] 0 (some 0),.sl [] 0 (some 0),atR v,.int .i64 0]) (.cells [.sl (aF (NK dn).reverse) dn.length none]) A B hA.symm hB.symm;have pb:B[L.length]?=some box:=by
  rw [<- hB,ahq (by simp;omega),ahL (by omega),ahL (by omega),ahu (by omega),hAl];simp
 have pa0:(A++[box,.cells [.sl [] 0 (some 0),.sl [] 0 (some 0),atR v,.int .i64 0]])[L.length]?=some box:=by rw [ahu (by omega),hAl];simp
 have hitB:B[it]?=some (.cells [.ptr iv 0]):=hbes.get hit ((hc.toK ht).noIt hit);obtain ⟨hadd,hk0,hkq⟩:=ht.add hl0 hca v;have kk4:Hid (∀ {K:afC},K (.tup []) B->afB 42 [.ptr it 0,.int .i64 (last+1),dnA dn] (A++[box,.cells [.sl [] 0 (some 0),.sl [] 0 (some 0),atR v,.int .i64 0]]) K):=@hid _ (by
  intro K q;refine acd hod p1 p2 p3 p6 p5 p4 p7 ?_;rw [hB];exact q)
 have kk5:Hid (∀ {K:afC},(∀ L' nb' bn' ck' ci' rs',bu L' iv mn mi nb' bn' ck' ci' rs' suf (last+1) (rR l last dn v)->L'[it]?=some (.cells [.ptr iv 0])->aK (OfT iv mn mi nb l) L L'->K (.tup []) L')->afB 43 [.ptr it 0,dnA dn,.int .i64 1] B K):=@hid _ (by
  intro K q;have hne:dn≠[]:=fun e=>by
   rcases hca.par with e2|⟨x,hx,e2⟩
   ·exact ht.inv.sne (by rw [<- e2,e];rfl)
   ·exact ht.inv.ne (gy hx) (by rw [e2,e];rfl)
  have hkl:∀ i,(eX l i:Int)<=l.length:=fun i=>by
   unfold eX aZ;cases ux l i with
   | none=>simp
   | some x=>simp only;exact Int.ofNat_le.2 (ahV (ai5 _ _) (by simp [dq]))
  refine K5 hdb hne hadd (fun x hx=>⟨x,hx,rfl⟩) (fun x hx=>(hadd.ids x hx).1) hitB hfin (by omega) (fun i=>?_) fun L' hK hb=>?_
  ·split
   ·omega
   ·have:=hkl i;omega
  ·refine q L' _ _ _ _ _ (hK.toT fun x hx=>?_) (hb.get hitB (hfin.noIt hitB)) (hbes.trans2 hb fun i hi=>?_)
   ·rw [hkq (NK x.nm)];have hpar:(x.id=aY (rR l last dn v) dn.tail)↔(NK dn).tail=NK x.nm:=by
     rw [<- QN];constructor
     ·intro e;unfold aY at e;cases hq:atE (rR l last dn v) dn.tail with
      | none=>rw [hq] at e;have:=(hadd.ids x hx).1;simp only at e;omega
      | some y =>
        rw [hq] at e;obtain ⟨_,hy,e2⟩:=cH hq;rw [hadd.byI hx hy e,e2]
     ·intro e;unfold aY;rw [hadd.at hx hod.tail e]
    have hkx:(if x.id=last+1 then (0:Int) else (eX l x.id:Nat))=(aZ (dq l) (NK x.nm):Nat):=by
     rcases ahr.1 hx with hx|hx
     ·rw [if_neg (by have:=(ht.ids x hx).2;omega),ht.kidsE hx]
     ·rw [ahI.1 hx,if_pos rfl];have:=hkq (NK dn);rw [hk0] at this;simp only;omega
    by_cases hp:(NK dn).tail=NK x.nm
    ·rw [if_pos hp,if_pos (hpar.2 hp),hkx];simp
    ·rw [if_neg hp,if_neg (fun e=>hp (hpar.1 e)),hkx];simp
   ·rintro (e|e|e|⟨x,hx,e⟩)
    ·exact .inl e
    ·exact .inr (.inl e)
    ·exact .inr (.inr (.inl e))
    ·rcases ahr.1 hx with hx|hx
     ·exact .inr (.inr (.inr ⟨x,hx,by rw [e];exact if_neg (by have:=(ht.ids x hx).2;omega)⟩))
     ·rw [ahI.1 hx] at e;simp only [if_true] at e;omega)
 replace h:=hid h;clear hB hfin hbes p6 p7 hadd hk0 hkq hca hvw hnn hit hAl;subst hbox;refine acg dr ?_;simp only [ahD,ahZ,Nat.reduceAdd,ajK,ajJ,aig,ah3];refine sk ?_;refine wk ?_;intro L' nb' bn' ck' ci' rs' q1 q2 q3;replace q1:=hid q1;replace q2:=hid q2;replace q3:=hid q3;refine wk ?_;exact af (h.out L' _ _ _ _ _ q1.out q2.out q3.out)
end
set_option maxHeartbeats 8000000
set_option maxRecDepth 100000
theorem QW {β γ:Type} (f:β->γ):∀ (l:List β) (n:Nat),(l.eraseIdx n).map f=(l.map f).eraseIdx n
 | [],_=>rfl
 | x::l,0=>rfl
 | x::l,n+1=>by simp only [List.eraseIdx_cons_succ,ahH,QW f l n]
theorem ox {β γ:Type} [DecidableEq γ] (f:β->γ):∀ (l:List β) (k:γ),(l.map f).Nodup->∀ n,l.findIdx? (fun x=>decide (f x=k))=some n->l.eraseIdx n=l.filter fun x=>decide (f x≠k)
 | [],k,_,n,h=>by simp at h
 | x::l,k,hn,n,h=>by
   rw [ahH,aiJ] at hn;rw [ai6] at h;by_cases c:f x=k
   ·rw [decide_eq_true c] at h;simp only [if_true,aho] at h;subst h;rw [ajS (by simpa using c)];simp only [List.eraseIdx_zero,List.tail_cons];exact (List.filter_eq_self.2 fun y hy=>by
     simp only [ne_eq,decide_eq_true_eq];intro e;exact hn.1 (ahs.2 ⟨y,hy,by rw [e,c]⟩)).symm
   ·rw [decide_eq_false c] at h;simp only [ahJ,if_false,ahG] at h;obtain ⟨m,hm,rfl⟩:=h;rw [ajT (by simpa using c),List.eraseIdx_cons_succ,ox f l k hn.2 m hm]
section
variable {L:List Blk} {iv mn mi it:Nat} {nb bn:Int->Nat} {ck ci:Nat} {rs:List TKy} {suf:List Rdn} {last:Int} {l lk:List aB} {kd:Int->Int}
theorem bE.nemi (h:bE L iv mn mi nb bn ck ci rs suf last l lk kd):iv≠mi:=fun e=>by have:=h.v;rw [e,h.i] at this;simp at this
theorem bE.nemn (h:bE L iv mn mi nb bn ck ci rs suf last l lk kd):iv≠mn:=fun e=>by have:=h.v;rw [e,h.n] at this;simp at this
theorem bE.nenb (h:bE L iv mn mi nb bn ck ci rs suf last l lk kd) {x:aB} (hx:x∈l):nb x.id≠iv/\nb x.id≠mn/\nb x.id≠mi:=by
 have hk:=h.nd x hx;exact ⟨fun e=>by rw [e,h.v] at hk;simp [dc] at hk,fun e=>by rw [e,h.n] at hk;simp at hk,fun e=>by rw [e,h.i] at hk;simp at hk⟩
theorem bE.delk (h:bE L iv mn mi nb bn ck ci rs suf last l lk kd) (n23:mn≠mi) {y:aB} (hy:y∈lk) (hu:∀ x∈lk,aQ true x.nm=aQ true y.nm↔x.id=y.id) :
  ∃ j,cZ (.str (aQ true y.nm)) (rs.map kyA) 0=some (some (j,.int .i64 y.id))/\bE (L.set mi (.map ((rs.map kyA).eraseIdx j) ci)) iv mn mi nb bn ck ci (rs.eraseIdx j) suf last l (QH lk y.id) kd:=by
 obtain ⟨b,hb⟩:=(h.mem (aQ true y.nm) y.id).2 ⟨y,hy,rfl,rfl⟩;rw [yC];rcases eY (f:=fun r:TKy=>decide (r.1=aQ true y.nm)) (l:=rs) with ⟨h1,h2⟩|⟨n,h1,hn,h2⟩
 ·exact absurd (ai2.1 h2 _ hb) (by simp)
 ·have hm:=aiR h2;have hk:=aiQ h2;simp only [decide_eq_true_eq] at hk;have he:rs.getD n default=(aQ true y.nm,y.id,b):=ff h.keys hm hb hk;have hmi:=(ahm.1 h.i).1;have her:=ox (fun r:TKy=>r.1) rs (aQ true y.nm) h.keys n h1;refine ⟨n,by rw [h1];simp only [ahM,he,aiU],?_⟩;have hmm:∀ r:TKy,r∈rs.eraseIdx n↔r∈rs/\r.1≠aQ true y.nm:=fun r=>by rw [her,ah5];simp
  refine ⟨by rw [ahL (Ne.symm h.nemi)];exact h.v,by rw [ahL (Ne.symm n23)];exact h.n,by rw [aiP hmi,QW],fun x hx=>by rw [ahL (Ne.symm (h.nenb hx).2.2)];exact h.nd x hx,h.inj,(List.Sublist.map _ (List.eraseIdx_sublist ..)).nodup h.keys,fun k id=>?_,h.bnd,h.blt⟩;constructor
  ·rintro ⟨c,hc⟩;obtain ⟨hc1,hc2⟩:=(hmm _).1 hc;obtain ⟨x,hx,e1,e2⟩:=(h.mem k id).1 ⟨c,hc1⟩;refine ⟨x,ah5.2 ⟨hx,?_⟩,e1,e2⟩;simp only [ne_eq,decide_eq_true_eq];intro e;exact hc2 (e1.symm.trans ((hu x hx).2 e))
  ·rintro ⟨x,hx,e1,e2⟩;obtain ⟨hx1,hx2⟩:=ah5.1 hx;simp only [ne_eq,decide_eq_true_eq] at hx2;obtain ⟨c,hc⟩:=(h.mem k id).2 ⟨x,hx1,e1,e2⟩;exact ⟨c,(hmm _).2 ⟨hc,fun e=>hx2 ((hu x hx1).1 (by rw [e1];exact e))⟩⟩
theorem bE.deln (h:bE L iv mn mi nb bn ck ci rs suf last l lk kd) (n23:mn≠mi) (hn:(l.map (·.id)).Nodup) {y:aB} (hy:y∈l) :
  ∃ j v,cZ (.int .i64 y.id) (l.map (fz nb bn)) 0=some (some (j,v))/\bE (L.set mn (.map ((l.map (fz nb bn)).eraseIdx j) ck)) iv mn mi nb bn ck ci rs suf last (QH l y.id) lk kd:=by
 rw [yx];rcases eY (f:=fun x:aB=>decide (x.id=y.id)) (l:=l) with ⟨h1,h2⟩|⟨n,h1,hl,h2⟩
 ·exact absurd (ai2.1 h2 _ hy) (by simp)
 ·have hmn:=(ahm.1 h.n).1;have her:=ox (fun x:aB=>x.id) l y.id hn n h1;have sub:∀ x∈QH l y.id,x∈l:=fun x hx=>(ah5.1 hx).1
  refine ⟨n,_,by rw [h1];simp;rfl,?_⟩;refine ⟨by rw [ahL (Ne.symm h.nemn)];exact h.v,by rw [aiP hmn,<- QW,her];rfl,by rw [ahL n23];exact h.i,fun x hx=>by rw [ahL (Ne.symm (h.nenb (sub x hx)).2.1)];exact h.nd x (sub x hx),fun x hx z hz=>h.inj x (sub x hx) z (sub z hz),h.keys,h.mem,?_,fun x hx=>h.blt x (sub x hx)⟩;exact (List.Sublist.map _ List.filter_sublist).nodup h.bnd
theorem bE.cha (h:bE L iv mn mi nb bn ck ci rs suf last l lk kd) {y:aB} (hy:y∈l) (v:List Atr) :
  bE (L.set (nb y.id) (.cells [dnA y.nm,.sl (aF (pth y)) y.nm.length none,atR v,.int .i64 (kd y.id)])) iv mn mi nb bn ck ci rs suf last (rK l y.id v) (rK lk y.id v) kd:=by
 have hny:=h.nd y hy;have hl:=(ahm.1 hny).1;obtain ⟨n1,n2,n3⟩:=h.nenb hy;have hnod:(rK l y.id v).map (fz nb bn)=l.map (fz nb bn):=by
  unfold rK;rw [ahS];refine aiw fun x _=>?_
  simp only [ai0];split<;>rfl
 have hbn:(rK l y.id v).map (fun x=>bn x.id)=l.map (fun x=>bn x.id):=by
  unfold rK;rw [ahS];refine aiw fun x _=>?_
  simp only [ai0];split<;>rfl
 have back:∀ {m:List aB} {x},x∈rK m y.id v->∃ z∈m,z.id=x.id/\z.nm=x.nm/\(z.id=y.id->x.av=v)/\(z.id≠y.id->x=z):=fun {m x} hx=>by
  obtain ⟨z,hz,rfl⟩:=ahs.1 hx;refine ⟨z,hz,?_,?_,?_,?_⟩<;>split<;>simp_all
 have forth:∀ {m:List aB} {z},z∈m->∃ x∈rK m y.id v,x.id=z.id/\x.nm=z.nm:=fun {m z} hz=>by
  refine ⟨_,ahs.2 ⟨z,hz,rfl⟩,?_,?_⟩<;>split<;>rfl
 refine ⟨by rw [ahL n1];exact h.v,by rw [ahL n2,hnod];exact h.n,by rw [ahL n3];exact h.i,fun x hx=>?_,fun x hx z hz e=>?_,h.keys,fun k id=>?_,by rw [hbn];exact h.bnd,fun x hx=>?_⟩
 ·obtain ⟨z,hz,e1,e2,e3,e4⟩:=back hx;by_cases e:nb y.id=nb z.id
  ·have hi:=h.inj y hy z hz e;have hxy:dc kd y=dc kd z:=by
    have h2:=h.nd z hz;rw [<- e,hny] at h2;injection h2 with h2;injection h2
   unfold dc at hxy ⊢;simp only [ajv] at hxy;have hp:pth x=pth z:=by unfold pth;rw [e2]
   rw [<- e1,<- e,aiP hl,e3 hi.symm,hxy.1,hxy.2.1,hxy.2.2.2.1,hp,e2]
  ·have hne:z.id≠y.id:=fun e5=>e (by rw [e5])
   rw [e4 hne,ahL e];exact h.nd z hz
 ·obtain ⟨a,ha,e1,_⟩:=back hx;obtain ⟨b,hb,e2,_⟩:=back hz;rw [<- e1,<- e2] at e ⊢;exact h.inj a ha b hb e
 ·rw [h.mem k id];constructor
  ·rintro ⟨x,hx,e1,e2⟩;obtain ⟨z,hz,e3,e4⟩:=forth hx;exact ⟨z,hz,by rw [e4];exact e1,by rw [e3];exact e2⟩
  ·rintro ⟨x,hx,e1,e2⟩;obtain ⟨z,hz,e3,e4,_⟩:=back hx;exact ⟨z,hz,by rw [e4];exact e1,by rw [e3];exact e2⟩
 ·obtain ⟨z,hz,e1,_⟩:=back hx;rw [<- e1];exact h.blt z hz
def nmT (l:List aB) (id:Int) (d:List Rdn):List aB:=l.map fun x=>if x.id=id then { x with nm:=d } else x
theorem bE.ren (h:bE L iv mn mi nb bn ck ci rs suf last l lk kd) (n23:mn≠mi) {y:aB} (hy:y∈l) {d:List Rdn} (hno:∀ x∈lk,aQ true x.nm≠aQ true d) (X:List Blk) :
  cZ (.str (aQ true d)) (rs.map kyA) 0=some none /\
  bE ((L.set (nb y.id) (.cells [dnA d,.sl (aF (NK d).reverse) d.length none,atR y.av,.int .i64 (kd y.id)])).set mi (.map ((rs++[(aQ true d,y.id,ci)]).map kyA) (ci+1))++X) iv mn mi nb bn ck (ci+1) (rs++[(aQ true d,y.id,ci)]) suf last (nmT l y.id d) (lk++[{ y with nm:=d }]) kd:=by
 have hkn:∀ r∈rs,r.1≠aQ true d:=fun r hr e=>by
  obtain ⟨x,hx,e1,_⟩:=(h.mem r.1 r.2.1).1 ⟨r.2.2,hr⟩;exact hno x hx (e1.trans e)
 refine ⟨by rw [yC,ajz.2 fun r hr=>by simpa using hkn r hr];rfl,bE.app ?_ X⟩;have hny:=h.nd y hy;have hl:=(ahm.1 hny).1;have hmi:=(ahm.1 h.i).1;obtain ⟨n1,n2,n3⟩:=h.nenb hy;have hnod:(nmT l y.id d).map (fz nb bn)=l.map (fz nb bn):=by
  unfold nmT;rw [ahS];refine aiw fun x _=>?_
  simp only [ai0];split<;>rfl
 have hbn:(nmT l y.id d).map (fun x=>bn x.id)=l.map (fun x=>bn x.id):=by
  unfold nmT;rw [ahS];refine aiw fun x _=>?_
  simp only [ai0];split<;>rfl
 have back:∀ {x},x∈nmT l y.id d->∃ z∈l,z.id=x.id/\z.av=x.av/\(z.id=y.id->x.nm=d)/\(z.id≠y.id->x=z):=fun {x} hx=>by
  obtain ⟨z,hz,rfl⟩:=ahs.1 hx;refine ⟨z,hz,?_,?_,?_,?_⟩<;>split<;>simp_all
 refine ⟨by rw [ahL (Ne.symm h.nemi),ahL n1];exact h.v,by rw [ahL (Ne.symm n23),ahL n2,hnod];exact h.n,by rw [aiP (by simpa using hmi)],fun x hx=>?_,fun x hx z hz e=>?_,?_,fun k id=>?_,by rw [hbn];exact h.bnd,fun x hx=>?_⟩
 ·obtain ⟨z,hz,e1,e2,e3,e4⟩:=back hx;rw [<- e1,ahL (Ne.symm (h.nenb hz).2.2)];by_cases e:nb y.id=nb z.id
  ·have hi:=h.inj y hy z hz e;have hxy:dc kd y=dc kd z:=by
    have h2:=h.nd z hz;rw [<- e,hny] at h2;injection h2 with h2;injection h2
   unfold dc at hxy ⊢;simp only [ajv] at hxy;have hp:pth x=(NK d).reverse:=by unfold pth;rw [e3 hi.symm]
   rw [<- e,aiP hl,e3 hi.symm,hp,hxy.2.2.1,e2,<- e1,hi]
  ·have hne:z.id≠y.id:=fun e5=>e (by rw [e5])
   rw [e4 hne,ahL e];exact h.nd z hz
 ·obtain ⟨a,ha,e1,_⟩:=back hx;obtain ⟨b,hb,e2,_⟩:=back hz;rw [<- e1,<- e2] at e ⊢;exact h.inj a ha b hb e
 ·rw [ahN,ajm];refine ⟨h.keys,by simp,fun a ha b hb e=>?_⟩;obtain ⟨r,hr,rfl⟩:=ahs.1 ha;simp only [ahH,aif,ahI] at hb;exact hkn r hr (e.trans hb)
 ·constructor
  ·rintro ⟨b,hb⟩;rcases ahr.1 hb with hb|hb
   ·obtain ⟨x,hx,e⟩:=(h.mem k id).1 ⟨b,hb⟩;exact ⟨x,aih _ hx,e⟩
   ·simp only [ahI,ahx] at hb;exact ⟨_,aiI _ (ahI.2 rfl),hb.1.symm,hb.2.1.symm⟩
  ·rintro ⟨x,hx,e1,e2⟩;rcases ahr.1 hx with hx|hx
   ·obtain ⟨b,hb⟩:=(h.mem k id).2 ⟨x,hx,e1,e2⟩;exact ⟨b,aih _ hb⟩
   ·rw [ahI.1 hx] at e1 e2;exact ⟨ci,aiI _ (by rw [<- e1,<- e2];simp)⟩
 ·obtain ⟨z,hz,e1,_⟩:=back hx;rw [<- e1];exact h.blt z hz
end
set_option maxHeartbeats 8000000
set_option maxRecDepth 100000
theorem aaA {a b:List Rdn} (h:NK a=NK b):aQ true a=aQ true b:=by
 unfold aQ;unfold NK at h;rw [h]
theorem TW (l:List aB) (i:Int):(eX l i:Int)<=l.length:=by
 unfold eX aZ;cases ux l i with
 | none=>simp
 | some x=>simp only;exact Int.ofNat_le.2 (ahV (ai5 _ _) (by simp [dq]))
theorem TOk.parI {suf:List Rdn} {last:Int} {l:List aB} (h:TOk suf last l) {x:aB} (hx:x∈l) {d:List Rdn} (hd:OkD d):x.id=aY l d.tail↔(NK d).tail=NK x.nm:=by
 rw [<- QN];constructor
 ·intro e;unfold aY at e;cases hq:atE l d.tail with
  | none=>rw [hq] at e;have:=(h.ids x hx).1;simp only at e;omega
  | some y =>
    rw [hq] at e;obtain ⟨_,hy,e2⟩:=cH hq;rw [h.byI hx hy e,e2]
 ·intro e;unfold aY;rw [h.at hx hd.tail e]
section
variable {L:List Blk} {iv mn mi it:Nat} {nb bn:Int->Nat} {ck ci:Nat} {rs:List TKy} {suf:List Rdn} {last:Int} {l:List aB}
theorem agV (ht:TOk suf last l) (n23:mn≠mi) (hln:l.length<=1000000) (hit:L[it]?=some (.cells [.ptr iv 0])) (hc:bu L iv mn mi nb bn ck ci rs suf last l)
  {dn tn:List Rdn} {v:AV} (hdb:dnB dn) (htb:dnB tn) {x:aB} (hx:atE l dn=some x) (ha:d8 suf l 2 dn tn=0) {K:afC}
  (h:∀ L' ci' rs',bu L' iv mn mi nb bn ck ci' rs' suf last (QH l x.id)->L'[it]?=some (.cells [.ptr iv 0])->aK (OfT iv mn mi nb l) L L'->K (.int .i64 0) L') :
  afB 20 [.ptr it 0,.agg [.int .i64 2,dnA dn,dnA tn,v]] L K:=by
 obtain ⟨hod,hxl,hxe⟩:=cH hx;have hk0:aZ (dq l) (NK x.nm)=0:=by
  unfold d8 at ha;rw [if_neg (by decide),if_neg (by decide),hx] at ha;simp only [if_true] at ha;by_cases c:aZ (dq l) (NK x.nm)=0
  ·exact c
  ·rw [if_pos c] at ha;exact absurd ha (by decide)
 obtain ⟨htd,hkq⟩:=ht.del hxl hk0;have hfx:aY l dn=x.id:=by unfold aY;rw [hx]
 have hK:=hc.toK ht;have htx:aQ true dn=aQ true x.nm:=aaA hxe.symm;have hu:∀ z∈l,aQ true z.nm=aQ true x.nm↔z.id=x.id:=fun z hz=>⟨fun e=>by rw [ht.byN hz hxl ((kI (ht.ok z hz) (ht.ok x hxl)).1 e)],fun e=>by rw [ht.byI hz hxl e]⟩
 obtain ⟨j1,hj1,hK1⟩:=hK.delk n23 hxl hu;obtain ⟨j2,v2,hj2,hK2⟩:=hK1.deln n23 (by
  have hn:=ht.inv.ids;unfold dq at hn;rw [ahS] at hn;exact hn) hxl
 have hvw:=hc.v;have hnn:=hc.n;have hii:=hc.i;have hivl:iv<L.length:=(ahm.1 hvw).1;have hmnl:mn<L.length:=(ahm.1 hnn).1;have hmil:mi<L.length:=(ahm.1 hii).1;have hitl:it<L.length:=(ahm.1 hit).1;have nit:=hK.noIt hit;have n1:mi≠it:=fun e=>nit (.inr (.inr (.inl e.symm)))
 have n2:mn≠it:=fun e=>nit (.inr (.inl e.symm))
 have n3:=hK.nemi;have n4:=hK.nemn;have av:∀ X:List Blk,(L++X)[iv]?=some (.cells [dnA suf,.lmap mn,.lmap mi,.int .i64 last]):=fun X=>by rw [ahq hivl];exact hvw
 have at':∀ X:List Blk,(L++X)[it]?=some (.cells [.ptr iv 0]):=fun X=>by rw [ahq hitl];exact hit
 have ai:∀ X:List Blk,(L++X)[mi]?=some (.map (rs.map kyA) ci):=fun X=>by rw [ahq hmil];exact hii
 have si:∀ (X:List Blk) b,(L++X).set mi b=L.set mi b++X:=fun X b=>aiK _ _ hmil
 have av2:∀ (X:List Blk) b,(L.set mi b++X)[iv]?=some (.cells [dnA suf,.lmap mn,.lmap mi,.int .i64 last]):=fun X b=>by rw [ahq (by simpa using hivl),ahL (Ne.symm n3)];exact hvw
 have at2:∀ (X:List Blk) b,(L.set mi b++X)[it]?=some (.cells [.ptr iv 0]):=fun X b=>by rw [ahq (by simpa using hitl),ahL n1];exact hit
 have an2:∀ (X:List Blk) b,(L.set mi b++X)[mn]?=some (.map (l.map (fz nb bn)) ck):=fun X b=>by rw [ahq (by simpa using hmnl),ahL (Ne.symm n23)];exact hnn
 have sn2:∀ (X:List Blk) b c,(L.set mi b++X).set mn c=(L.set mi b).set mn c++X:=fun X b c=>aiK _ _ (by simpa using hmnl)
 have ab3:∀ (X:List Blk) (b c d:Blk),((L.set mi b).set mn d++c::X)[L.length]?=some c:=fun X b c d=>by rw [ahu (by simp)];simp
 have kk1:Hid (∀ {X:List Blk} {K:afC},K (.int .i64 0) (L++X)->afB 41 [.ptr iv 0,.agg [.int .i64 2,dnA dn,dnA tn,v]] (L++X) K):=@hid _ (by
  intro X K q;exact OH ht (by omega) (hc.app X) hdb htb (by rw [ha];exact q))
 have kk2:Hid (∀ {X:List Blk} {K:afC},K (.int .i64 x.id) (L++X)->afB 24 [.ptr iv 0,dnA dn] (L++X) K):=@hid _ (by
  intro X K q;exact yY hdb ht (hc.app X) (by rw [hfx];exact q))
 have kk3:Hid (Ctr Tryz.prog 44 [dnA dn] (.tup [.str (aQ true dn),.int .i64 0])):=@hid _ (by
  intro L K q;exact Oc hdb.1 hdb.2 (by rw [gg hod];exact q))
 obtain ⟨box,hbox⟩:∃ box:Blk,box=.cells [.int .i64 2,dnA dn,dnA tn,v]:=⟨_,rfl⟩;obtain ⟨A,hA⟩:=aaR ((L.set mi (.map ((rs.map kyA).eraseIdx j1) ci)).set mn (.map ((l.map (fz nb bn)).eraseIdx j2) ck));rw [hA] at hK2;have hAL:A.length=L.length:=by rw [<- hA];simp
 have ab4:∀ (X:List Blk) (c:Blk),(A++c::X)[L.length]?=some c:=fun X c=>by rw [ahu (by omega),hAL];simp
 have hbA:aK (OfT iv mn mi nb l) L A:=by
  rw [<- hA];exact (aK.set L (.inr (.inr (.inl rfl))) _).trans (aK.set _ (.inr (.inl rfl)) _)
 have hK3:=hK2.app [box];have hit3:(A++[box])[it]?=some (.cells [.ptr iv 0]):=by
  have hAl:it<A.length:=by rw [<- hA];simpa using hitl
  rw [ahq hAl];exact hbA.get hit nit
 have kk4:Hid (∀ {K:afC},(∀ L' ci' rs',bu L' iv mn mi nb bn ck ci' rs' suf last (QH l x.id)->L'[it]?=some (.cells [.ptr iv 0])->aK (OfT iv mn mi nb l) L L'->K (.tup []) L')->afB 43 [.ptr it 0,dnA dn,.int .i64 (-1)] (A++[box]) K):=@hid _ (by
  intro K q;have hne:dn≠[]:=fun e=>ht.inv.ne (gy hxl) (by rw [hxe,e];rfl)
  refine K5 hdb hne htd (fun x hx=>⟨x,hx,rfl⟩) (fun z hz=>(htd.ids z hz).1) hit3 hK3 (by omega) (fun i=>by have:=TW l i;omega) fun L' hK4 hb=>?_
  refine q L' _ _ (hK4.toT fun z hz=>?_) (hb.get hit3 (hK3.noIt hit3)) (((hbA.trans (aK.app A [box])).trans2 hb fun i hi=>?_))
  ·have hzl:z∈l:=(ah5.1 hz).1;have h1:=hkq (NK z.nm);rw [<- ht.kidsE hzl,hxe] at h1;have hpar:=htd.parI hz hod;by_cases hp:(NK dn).tail=NK z.nm
   ·rw [if_pos hp] at h1;rw [if_pos (hpar.2 hp)];omega
   ·rw [if_neg hp] at h1;rw [if_neg (fun e=>hp (hpar.1 e))];omega
  ·rintro (e|e|e|⟨z,hz,e⟩)
   ·exact .inl e
   ·exact .inr (.inl e)
   ·exact .inr (.inr (.inl e))
   ·exact .inr (.inr (.inr ⟨z,(ah5.1 hz).1,e⟩)))
 have hkf1:bg .str (.str (aQ true dn))=true:=rfl;have hkf2:bg .int (.int .i64 x.id)=true:=rfl;rw [<- htx] at hj1;obtain ⟨tk,htk⟩:=aaR (aQ true dn);obtain ⟨xi,hxi⟩:=aaR (x.id);rw [htk] at hj1 kk3 hkf1;rw [hxi] at hj1 hj2 kk2 hkf2 h;replace h:=hid h;replace hj1:=hid hj1;clear hK hK1 hK2 hK3 hbA hit3 hu htx htk hvw hnn hii hit hc ht htd hkq hk0 hfx hod ha;have hj1:=hj1.out;subst hbox;refine acg dr ?_;intro L' ci' rs' q1 q2 q3;replace q1:=hid q1;replace q2:=hid q2;replace q3:=hid q3;refine wk ?_;exact af (h.out L' _ _ q1.out q2.out q3.out)
theorem agW (ht:TOk suf last l) (hln:l.length<=1000000) (hit:L[it]?=some (.cells [.ptr iv 0])) (hc:bu L iv mn mi nb bn ck ci rs suf last l)
  {dn tn:List Rdn} {v:List Atr} (hdb:dnB dn) (htb:dnB tn) (hvl:v.length<=1100000) (hvz:∀ a∈v,a.2.length<=1100000) {x:aB} (hx:atE l dn=some x) {K:afC}
  (h:∀ L',bu L' iv mn mi nb bn ck ci rs suf last (rK l x.id v)->L'[it]?=some (.cells [.ptr iv 0])->aK (OfT iv mn mi nb l) L L'->K (.int .i64 0) L') :
  afB 20 [.ptr it 0,.agg [.int .i64 3,dnA dn,dnA tn,atR v]] L K:=by
 obtain ⟨hod,hxl,hxe⟩:=cH hx;have ha:d8 suf l 3 dn tn=0:=by unfold d8;rw [if_neg (by decide),if_neg (by decide),hx];rfl
 have hfx:aY l dn=x.id:=by unfold aY;rw [hx]
 have hK:=hc.toK ht;have hK1:=hK.cha hxl v;have hbs:aK (OfT iv mn mi nb l) L (L.set (nb x.id) (.cells [dnA x.nm,.sl (aF (pth x)) x.nm.length none,atR v,.int .i64 (eX l x.id:Nat)])):=aK.set L (.inr (.inr (.inr ⟨x,hxl,rfl⟩))) _;have nit:=hK.noIt hit;have hCT:bu (L.set (nb x.id) (.cells [dnA x.nm,.sl (aF (pth x)) x.nm.length none,atR v,.int .i64 (eX l x.id:Nat)])) iv mn mi nb bn ck ci rs suf last (rK l x.id v):=hK1.toT fun z hz=>by
  obtain ⟨y,hy,rfl⟩:=ahs.1 hz;rw [TO];have e1:(if y.id=x.id then { y with av:=v } else y).id=y.id:=by split<;>rfl
  have e2:(if y.id=x.id then { y with av:=v } else y).nm=y.nm:=by split<;>rfl
  rw [e1,e2,ht.kidsE hy]
 have hfin:=h _ (hCT.app [.cells [.int .i64 3,dnA dn,dnA tn,atR v]]) ((hbs.trans (aK.app _ _)).get hit nit) (hbs.trans (aK.app _ _));have hvw:=hc.v;have hnn:=hc.n;have hivl:iv<L.length:=(ahm.1 hvw).1;have hmnl:mn<L.length:=(ahm.1 hnn).1;have hitl:it<L.length:=(ahm.1 hit).1;have hnx:=hK.nd x hxl;have hxl':nb x.id<L.length:=(ahm.1 hnx).1;unfold dc at hnx;have av:∀ X:List Blk,(L++X)[iv]?=some (.cells [dnA suf,.lmap mn,.lmap mi,.int .i64 last]):=fun X=>by rw [ahq hivl];exact hvw
 have at':∀ X:List Blk,(L++X)[it]?=some (.cells [.ptr iv 0]):=fun X=>by rw [ahq hitl];exact hit
 have an:∀ X:List Blk,(L++X)[mn]?=some (.map (l.map (fz nb bn)) ck):=fun X=>by rw [ahq hmnl];exact hnn
 have ad:∀ X:List Blk,(L++X)[nb x.id]?=some (.cells [dnA x.nm,.sl (aF (pth x)) x.nm.length none,atR x.av,.int .i64 (eX l x.id:Nat)]):=fun X=>by rw [ahq hxl'];exact hnx
 have sd:∀ (X:List Blk) b,(L++X).set (nb x.id) b=L.set (nb x.id) b++X:=fun X b=>aiK _ _ hxl'
 have kk1:Hid (∀ {X:List Blk} {K:afC},K (.int .i64 0) (L++X)->afB 41 [.ptr iv 0,.agg [.int .i64 3,dnA dn,dnA tn,atR v]] (L++X) K):=@hid _ (by
  intro X K q;exact OH ht (by omega) (hc.app X) hdb htb (by rw [ha];exact q))
 have kk2:Hid (∀ {X:List Blk} {K:afC},K (.int .i64 x.id) (L++X)->afB 24 [.ptr iv 0,dnA dn] (L++X) K):=@hid _ (by
  intro X K q;exact yY hdb ht (hc.app X) (by rw [hfx];exact q))
 have kk3:Hid (Ctr Tryz.prog 26 [atR v] (atR v)):=@hid _ (by intro L K q;exact SS hvl hvz q);have hkf2:bg .int (.int .i64 x.id)=true:=rfl;rcases hc.node x.id with ⟨f1,_⟩|⟨x',n,f1,_,_,f2,_⟩
 ·rw [ht.ent hxl] at f1;cases f1
 obtain ⟨q,hq⟩:∃ q:Int,(eX l x.id:Nat)=q:=⟨_,rfl⟩;rw [hq] at ad hfin;obtain ⟨xi,hxi⟩:=aaR (x.id);rw [hxi] at hkf2 f2 kk2 ad sd hfin;replace h:=hid hfin;clear hfin hK hK1 hbs hvw hnn hit hc ht hfx hod ha hxi hq hxl f1 hnx;unfold atR at kk1 kk3 h ⊢;refine acg dr ?_;exact af h.out
end
set_option maxHeartbeats 8000000
set_option maxRecDepth 100000
def Om (l:List aB) (dn:List Rdn):List aB:=l.filter fun z => !cu z.nm dn
theorem mQ {l:List aB} {dn:List Rdn} {z:aB}:z∈Om l dn↔z∈l/\cu z.nm dn=false:=by
 unfold Om;rw [ah5];simp
theorem TOk.cut {suf:List Rdn} {last:Int} {l:List aB} (h:TOk suf last l) {dn:List Rdn} (hd:OkD dn):TOk suf last (Om l dn):=by
 have sub:∀ z∈Om l dn,z∈l:=fun z hz=>(mQ.1 hz).1
 have hs:(dq (Om l dn)).Sublist (dq l):=List.filter_sublist.map _;refine ⟨h.sok,fun z hz=>h.ok z (sub z hz),⟨h.inv.sne,(hs.map _).nodup h.inv.nd,(hs.map _).nodup h.inv.ids,fun m hm=>h.inv.un m (hs.subset hm),fun m hm=>?_⟩,fun z hz=>h.ids z (sub z hz)⟩;obtain ⟨z,hz,rfl⟩:=ahs.1 hm;obtain ⟨hzl,hzu⟩:=mQ.1 hz;rcases h.inv.par _ (gy hzl) with e|⟨k,hk,e⟩
 ·exact .inl e
 ·obtain ⟨w,hw,rfl⟩:=ahs.1 hk;refine .inr ⟨_,gy (mQ.2 ⟨hw,?_⟩),e⟩;cases hu:cu w.nm dn with
  | false=>rfl
  | true =>
    have h1:=(cK.1 hu).2.2;simp only at e;rw [e] at h1;have:cu z.nm dn=true:=cK.2 ⟨h.ok z hzl,hd,h1.trans (ajl _)⟩;rw [this] at hzu;cases hzu
def TP (l:List aB) (dn tn:List Rdn) (ids:List Int):List aB:=l.map fun z=>if z.id∈ids then { z with nm:=gx z.nm dn.length tn } else z
theorem aey (l:List aB) (dn tn:List Rdn):TP l dn tn []=l:=by
 unfold TP;simp
theorem acW {suf:List Rdn} {last:Int} {l:List aB} (h:TOk suf last l) (dn tn:List Rdn) {ids:List Int} {y:aB} (hy:y∈l) (hn:y.id ∉ ids):nmT (TP l dn tn ids) y.id (gx y.nm dn.length tn)=TP l dn tn (ids++[y.id]):=by
 unfold nmT TP;rw [ahS];refine aiw fun z hz=>?_
 simp only [ai0,ahr,ahI];by_cases e:z.id=y.id
 ·have:=h.byI hz hy e;subst this;simp [hn]
 ·by_cases c:z.id∈ids
  ·simp [c,e]
  ·simp [c,e]
theorem afR {l:List aB} (dn tn:List Rdn) {ids:List Int} {y:aB} (hy:y∈l) (hn:y.id ∉ ids):y∈TP l dn tn ids:=ahs.2 ⟨y,hy,if_neg hn⟩
theorem aez {l:List aB} (dn tn:List Rdn) {ids:List Int} (h:∀ z∈l,z.id∈ids↔cu z.nm dn=true):TP l dn tn ids=mV l dn tn:=by
 unfold TP mV;refine aiw fun z hz=>?_
 by_cases c:cu z.nm dn=true
 ·rw [if_pos ((h z hz).2 c),if_pos c]
 ·rw [if_neg (fun e=>c ((h z hz).1 e)),if_neg c]
theorem Ts {l:List aB} {dn tn:List Rdn} {z:aB} (h:z∈mV l dn tn):∃ y∈l,y.id=z.id/\z=(if cu y.nm dn=true then { y with nm:=gx y.nm dn.length tn } else y):=by
 obtain ⟨y,hy,rfl⟩:=ahs.1 h;refine ⟨y,hy,?_,rfl⟩;split<;>rfl
theorem acA {suf:List Rdn} {last:Int} {l:List aB} (h:TOk suf last l) {dn tn:List Rdn} (hd:OkD dn) {y:aB} (hy:y∈l):NK (if cu y.nm dn=true then { y with nm:=gx y.nm dn.length tn } else y).nm=ren (NK dn) (NK tn) (NK y.nm):=by
 by_cases c:cu y.nm dn=true
 ·rw [if_pos c,Z0 c]
 ·rw [if_neg c,gc fun hs=>c (cK.2 ⟨h.ok y hy,hd,hs⟩)]
theorem TOk.movK {suf:List Rdn} {last:Int} {l:List aB} (h:TOk suf last l) {x:aB} {dn tn:List Rdn} (hc:agr suf l x dn tn) {y:aB} (hy:y∈l) :
  (aZ (dq (mV l dn tn)) (NK (if cu y.nm dn=true then { y with nm:=gx y.nm dn.length tn } else y).nm):Int)=(if y.id=aY (mV l dn tn) tn.tail then (if y.id=aY (Om l dn) dn.tail then (eX l y.id:Int) + -1 else eX l y.id)+1 else (if y.id=aY (Om l dn) dn.tail then (eX l y.id:Int) + -1 else eX l y.id)):=by
 obtain ⟨hrt,hk⟩:=h.mov hc;have hct:=h.cut hc.ok;rw [acA h hc.ok hy,hk y hy,h.kidsE hy];have c1:y.id=aY (Om l dn) dn.tail↔NK y.nm=(NK dn).tail:=by
  cases hu:cu y.nm dn with
  | false=>rw [hct.parI (mQ.2 ⟨hy,hu⟩) hc.ok];exact eq_comm
  | true =>
    constructor
    ·intro e;unfold aY at e;cases hq:atE (Om l dn) dn.tail with
     | none=>rw [hq] at e;have:=(h.ids y hy).1;simp only at e;omega
     | some w =>
       rw [hq] at e;obtain ⟨hw,hwu⟩:=mQ.1 (cH hq).2.1;have:=h.byI hy hw e;rw [<- this,hu] at hwu;cases hwu
    ·intro e;have h1:=(cK.1 hu).2.2.length_le;rw [e,ai1] at h1;have:NK dn≠[]:=fun e2=>h.inv.ne (gy hc.mem) (by rw [hc.nk,e2])
     have:=ah8.2 this;omega
 have c2:y.id=aY (mV l dn tn) tn.tail↔NK y.nm=(NK tn).tail:=by
  have hz:(if cu y.nm dn=true then { y with nm:=gx y.nm dn.length tn } else y)∈mV l dn tn:=ahs.2 ⟨y,hy,rfl⟩;have h1:=hrt.parI hz hc.tok;rw [acA h hc.ok hy] at h1;rw [show (if cu y.nm dn=true then { y with nm:=gx y.nm dn.length tn } else y).id=y.id by split<;>rfl] at h1;rw [h1];constructor
  ·intro e;by_cases hs:NK dn <:+ NK y.nm
   ·obtain ⟨w,ew⟩:=hs;rw [<- ew,gJ] at e;have:=congrArg List.length e;rw [ai1,ahy] at this;have:=ah8.2 (fun e2=>hc.tne (Zr.1 e2));omega
   ·rw [gc hs] at e;exact e.symm
  ·intro e;rw [e,gc hc.nun]
 by_cases d1:NK y.nm=(NK dn).tail<;>by_cases d2:NK y.nm=(NK tn).tail
 ·rw [if_pos d1,if_pos d2,if_pos (c2.2 d2),if_pos (c1.2 d1)];omega
 ·rw [if_pos d1,if_neg d2,if_neg (fun e=>d2 (c2.1 e)),if_pos (c1.2 d1)];omega
 ·rw [if_neg d1,if_pos d2,if_pos (c2.2 d2),if_neg (fun e=>d1 (c1.1 e))];omega
 ·rw [if_neg d1,if_neg d2,if_neg (fun e=>d2 (c2.1 e)),if_neg (fun e=>d1 (c1.1 e))];omega
section
variable {L:List Blk} {iv mn mi it:Nat} {nb bn:Int->Nat} {ck ci:Nat} {rs:List TKy} {suf:List Rdn} {last:Int} {l lk:List aB} {kd:Int->Int}
theorem bE.lkE (h:bE L iv mn mi nb bn ck ci rs suf last l lk kd) {lk':List aB} (e:∀ z,z∈lk↔z∈lk'):bE L iv mn mi nb bn ck ci rs suf last l lk' kd :=
 ⟨h.v,h.n,h.i,h.nd,h.inj,h.keys,fun k id=>by
  rw [h.mem k id];exact ⟨fun ⟨x,hx,e1⟩=>⟨x,(e x).1 hx,e1⟩,fun ⟨x,hx,e1⟩=>⟨x,(e x).2 hx,e1⟩⟩,h.bnd,h.blt⟩
def lkD (l:List aB) (ys:List aB):List aB:=l.filter fun z => !ys.any fun y=>decide (y.id=z.id)
theorem K7 {l ys:List aB} {z:aB}:z∈lkD l ys↔z∈l/\∀ y∈ys,y.id≠z.id:=by
 unfold lkD;rw [ah5];simp
theorem acZ (l ys:List aB) (y:aB):∀ z,z∈QH (lkD l ys) y.id↔z∈lkD l (ys++[y]):=fun z=>by
 unfold QH;rw [ah5,K7,K7];simp only [ne_eq,decide_eq_true_eq,ahr,ahI];constructor
 ·rintro ⟨⟨h1,h2⟩,h3⟩;refine ⟨h1,fun w hw=>?_⟩;rcases hw with hw|rfl
  ·exact h2 w hw
  ·exact fun e=>h3 e.symm
 ·rintro ⟨h1,h2⟩;exact ⟨⟨h1,fun w hw=>h2 w (.inl hw)⟩,fun e=>h2 y (.inr rfl) e.symm⟩
end
set_option maxHeartbeats 8000000
set_option maxRecDepth 100000
theorem OfT.lt {L:List Blk} {iv mn mi:Nat} {nb bn:Int->Nat} {ck ci:Nat} {rs:List TKy} {suf:List Rdn} {last:Int} {l lk:List aB} {kd:Int->Int} (h:bE L iv mn mi nb bn ck ci rs suf last l lk kd) {i:Nat} (hi:OfT iv mn mi nb l i):i<L.length:=by
 rcases hi with rfl|rfl|rfl|⟨x,hx,rfl⟩
 ·exact (ahm.1 h.v).1
 ·exact (ahm.1 h.n).1
 ·exact (ahm.1 h.i).1
 ·exact (ahm.1 (h.nd x hx)).1
theorem acp {suf:List Rdn} {last:Int} {l:List aB} (ht:TOk suf last l) (x:aB) (s:Int):((scL l x s).map (·.id)).Nodup:=by
 have hn:=ht.inv.ids;unfold dq at hn;rw [ahS] at hn;have:((l.filter (eK x s)).map (·.id)).Nodup:=(List.filter_sublist.map _).nodup hn;exact ((aiZ _ _).map _).nodup_iff.2 this
section
variable {L:List Blk} {iv mn mi it:Nat} {nb bn:Int->Nat} {ck ci:Nat} {rs:List TKy} {suf:List Rdn} {last:Int} {l:List aB}
theorem agP (ht:TOk suf last l) (n23:mn≠mi) (hln:l.length<=1000000) (hit:L[it]?=some (.cells [.ptr iv 0])) (hc:bu L iv mn mi nb bn ck ci rs suf last l)
  {dn tn:List Rdn} {v:List Atr} (hdb:dnB dn) (htb:dnB tn) (hvl:v.length<=1100000) (hvz:∀ a∈v,a.2.length<=1100000) {x:aB} (hx:atE l dn=some x) (hmv:Wk suf l x.id dn tn=0) {K:afC}
  (h:∀ L' ci' rs',bu L' iv mn mi nb bn ck ci' rs' suf last (rK (mV l dn tn) x.id v)->L'[it]?=some (.cells [.ptr iv 0])->aK (OfT iv mn mi nb l) L L'->K (.int .i64 0) L') :
  afB 20 [.ptr it 0,.agg [.int .i64 4,dnA dn,dnA tn,atR v]] L K:=by
 obtain ⟨hod,hxl,hxe⟩:=cH hx;have hcm:=ht.canM hx hmv;have ha:d8 suf l 4 dn tn=0:=by unfold d8;rw [if_neg (by decide),if_neg (by decide),hx];exact hmv
 have hfx:aY l dn=x.id:=by unfold aY;rw [hx]
 have hK:=hc.toK ht;have nit:=hK.noIt hit;have hvw:=hc.v;have hivl:iv<L.length:=(ahm.1 hvw).1;have hmil:mi<L.length:=(ahm.1 hc.i).1;have hitl:it<L.length:=(ahm.1 hit).1;have nob:¬ OfT iv mn mi nb l L.length:=fun e=>Nat.lt_irrefl _ (OfT.lt hK e)
 have av:∀ X:List Blk,(L++X)[iv]?=some (.cells [dnA suf,.lmap mn,.lmap mi,.int .i64 last]):=fun X=>by rw [ahq hivl];exact hvw
 have at':∀ X:List Blk,(L++X)[it]?=some (.cells [.ptr iv 0]):=fun X=>by rw [ahq hitl];exact hit
 have kk1:Hid (∀ {X:List Blk} {K:afC},K (.int .i64 0) (L++X)->afB 41 [.ptr iv 0,.agg [.int .i64 4,dnA dn,dnA tn,.sl (aU v) v.length none]] (L++X) K):=@hid _ (by
  intro X K q;exact OH ht (by omega) (hc.app X) hdb htb (by rw [ha];exact q))
 have kk2:Hid (∀ {X:List Blk} {K:afC},K (.int .i64 x.id) (L++X)->afB 24 [.ptr iv 0,dnA dn] (L++X) K):=@hid _ (by
  intro X K q;exact yY hdb ht (hc.app X) (by rw [hfx];exact q))
 obtain ⟨sc,hsce⟩:=aaR (scL l x 2);have kk3:Hid (∀ {X:List Blk} {K:afC},K (.sl ((sc.map (·.id)).map (AV.int .i64)) sc.length none) (L++X)->afB 23 [.ptr iv 0,.int .i64 x.id,.int .i64 2] (L++X) K):=@hid _ (by
  intro X K q;refine Td ht (by omega) (hc.app X) ?_;rw [Tn (ht.ent hxl),hsce,ahF];exact q)
 have hscl:=V5 l x 2;have hscm:=fun y=>SU (y:=y) ht hx
 have hscn:=acp ht x 2;rw [hsce] at hscl hscm hscn;have hpos:∀ (j:Nat) (y:aB),sc[j]?=some y->(((sc.map (·.id)).map (AV.int .i64)).getD j .undef=.int .i64 y.id)/\y∈l/\cu y.nm dn=true/\(∀ z∈sc.take j,z.id≠y.id)/\sc.take (j+1)=sc.take j++[y]:=fun j y hj=>by
  obtain ⟨hjl,e⟩:=ahm.1 hj;have hm:=aiz hj;obtain ⟨h1,h2⟩:=(hscm y).1 hm;refine ⟨by simp [hj],h1,h2,fun z hz e2=>?_,by rw [ahK hjl,e]⟩;obtain ⟨i,hi,e3⟩:=aiv.1 hz;rw [akb] at e3;rw [ail] at hi;have hij:i<j:=by omega
  have:=aiL.1 hscn i j (by simp;omega) (by simpa using hjl) hij;exact this (by simp [e3,e,e2])
 have hdl:=hod.len;obtain ⟨box,hbox⟩:∃ box:Blk,box=.cells [.int .i64 4,dnA dn,dnA tn,.sl (aU v) v.length none]:=⟨_,rfl⟩;have hu:∀ y∈l,∀ z∈l,aQ true z.nm=aQ true y.nm↔z.id=y.id:=fun y hy z hz=>⟨fun e=>by rw [ht.byN hz hy ((kI (ht.ok z hz) (ht.ok y hy)).1 e)],fun e=>by rw [ht.byI hz hy e]⟩
 have hI0:bE (L++[box]) iv mn mi nb bn ck ci rs suf last l (lkD l (sc.take 0)) (fun id=>(eX l id:Nat)):=(hK.app [box]).lkE fun z=>by rw [K7];simp
 have hBx:aK (OfT iv mn mi nb l) L (L++[box]):=aK.app L [box];have hbx:(L++[box])[L.length]?=some box:=by simp
 obtain ⟨xi,hxi⟩:=aaR (x.id);have hit0:=hit;unfold atR;rw [hxi] at kk2 kk3;replace h:=hid h;replace ht:=hid ht;replace hcm:=hid hcm;replace hpos:=hid hpos;replace hu:=hid hu;replace hscm:=hid hscm;replace hI0:=hid hI0;replace hBx:=hid hBx;replace hbx:=hid hbx;clear hc hK hvw hfx ha hmv hsce hscn hit;subst hbox;refine acg dr ?_;have st1:∀ {L':List Blk} {rs':List TKy} {lk:List aB} {ci':Nat} {l':List aB} {kd:Int->Int},bE L' iv mn mi nb bn ck ci' rs' suf last l' lk kd->L'[it]?=some (.cells [.ptr iv 0])->L'[L.length]?=some (.cells [.int .i64 4,dnA dn,dnA tn,.sl (aU v) v.length none])->∀ b,(L'.set mi b)[it]?=some (.cells [.ptr iv 0])/\(L'.set mi b)[L.length]?=some (.cells [.int .i64 4,dnA dn,dnA tn,.sl (aU v) v.length none]):=fun hK h1 h2 b=>⟨by rw [ahL (fun e=>hK.noIt h1 (.inr (.inr (.inl e.symm))))];exact h1,by rw [ahL (by omega)];exact h2⟩
 replace st1:=@hid _ @st1;refine ah (fun n T' L'=>∃ j:Nat,n=sc.length - j/\j<=sc.length/\Hid (∃ rs',bE L' iv mn mi nb bn ck ci rs' suf last l (lkD l (sc.take j)) (fun id=>(eX l id:Nat)))/\Hid (aK (OfT iv mn mi nb l) L L')/\L'[L.length]?=some (.cells [.int .i64 4,dnA dn,dnA tn,.sl (aU v) v.length none])/\L'[it]?=some (.cells [.ptr iv 0])/\T'=[(137,.int .i64 (j:Int)),(136,.int .i64 sc.length),(135,.sl ((sc.map (·.id)).map (AV.int .i64)) sc.length none),(9,.sl ((sc.map (·.id)).map (AV.int .i64)) sc.length none),(6,.int .i64 xi),(3,.ptr L.length 0),(0,.ptr it 0)]) (CutS (b:=by simp)) ⟨0,rfl,ahp _,hid ⟨rs,hI0.out⟩,hid hBx.out,hbx.out,by rw [ahq hitl];exact hit0,rfl⟩ ?_;rintro _ _ L' ⟨j,rfl,hj,hI,hB,hb,hi,rfl⟩;obtain ⟨rs',hK⟩:=hI.out;have hLl:L.length+1<=L'.length:=(ahm.1 hb).1;have hvw:=hK.v;have hnn:=hK.n;have hii:=hK.i;by_cases hlt:j<sc.length
 ·have g1:(j:Int)<(sc.length:Int):=by omega
  have g2:=ace j (by omega);have hjg:sc[j]?=some sc[j]:=ahB hlt;obtain ⟨y,hy⟩:=aaR (sc[j]);rw [hy] at hjg;obtain ⟨e1,hyl,hyu,hyn,htk⟩:=hpos.out j y hjg;have e2:j<((sc.map (·.id)).map (AV.int .i64)).length:=by simpa using hlt
  obtain ⟨j1,hj1,hK1⟩:=hK.delk n23 (y:=y) (K7.2 ⟨hyl,hyn⟩) (fun z hz=>hu.out y hyl z (K7.1 hz).1);have hK2:=hK1.lkE (acZ l (sc.take j) y);rw [<- htk] at hK2;obtain ⟨b1,b2⟩:=st1.out hK hi hb (.map ((rs'.map kyA).eraseIdx j1) ci);have hB2:=hB.out.trans (aK.set L' (B:=OfT iv mn mi nb l) (.inr (.inr (.inl rfl))) (.map ((rs'.map kyA).eraseIdx j1) ci));rcases hK.node y.id with ⟨f1,_⟩|⟨y',n,f1,_,_,f2,f3,_⟩
  ·rw [ht.out.ent hyl] at f1;cases f1
  rw [ht.out.ent hyl] at f1;cases f1;unfold dc at f3;have hoy:=ht.out.ok y hyl;have kk4:Hid (Ctr Tryz.prog 44 [dnA y.nm] (.tup [.str (aQ true y.nm),.int .i64 0])):=@hid _ (by
   intro L K q;exact Oc hoy.m.b.1 hoy.m.b.2 (by rw [gg hoy];exact q))
  have hkf1:bg .str (.str (aQ true y.nm))=true:=rfl;have hkf2:bg .int (.int .i64 y.id)=true:=rfl;obtain ⟨tk,htke⟩:=aaR (aQ true y.nm);obtain ⟨yi,hyi⟩:=aaR (y.id);rw [htke] at hj1 kk4 hkf1;rw [hyi] at e1 f2 f3 hkf2 hj1;have hLl2:=hid hLl;replace b1:=hid b1;replace b2:=hid b2;replace hK2:=hid hK2;replace hB2:=hid hB2;clear hK hK1 hI hB hoy htke hyi hyl hyu hyn htk hjg hy kk1 kk2 kk3 av at' nob;refine wk ?_;exact aq _ _ _ (by omega) (CutL (b:=by have:=hLl2.out;simp;omega)) ⟨j+1,rfl,hlt,hid ⟨_,hK2.out⟩,hid hB2.out,b2.out,b1.out,rfl⟩
 ·have hje:j=sc.length:=by omega
  subst hje;have g1:¬ (sc.length:Int)<(sc.length:Int):=by omega
  rw [ahA] at hK;have hKc:=hK.lkE (lk':=Om l dn) fun z=>by
   rw [K7,mQ];refine and_congr_right fun hz=>?_
   constructor
   ·intro e;cases hu':cu z.nm dn with
    | false=>rfl
    | true=>exact absurd rfl (e z ((hscm.out z).2 ⟨hz,hu'⟩))
   ·intro e y hy e2;obtain ⟨y1,y2⟩:=(hscm.out y).1 hy;rw [ht.out.byI y1 hz e2,e] at y2;cases y2
  have hct:=ht.out.cut hod;have hne:dn≠[]:=fun e=>ht.out.inv.ne (gy hxl) (by rw [hxe,e];rfl)
  obtain ⟨kd1,hkd1⟩:∃ kd1:Int->Int,kd1=fun i=>if i=aY (Om l dn) dn.tail then (eX l i:Int) + -1 else eX l i:=⟨_,rfl⟩
  have hkb:∀ i,-10000000<=kd1 i/\kd1 i<=10000000:=fun i=>by
   have:=TW l i;rw [hkd1];dsimp only;split<;>omega
  have kk4:Hid (∀ {K:afC},(∀ L2,Hid (bE L2 iv mn mi nb bn ck ci rs' suf last l (Om l dn) kd1)->Hid (aK (OfT iv mn mi nb l) L L2)->L2[it]?=some (.cells [.ptr iv 0])->L2[L.length]?=some (.cells [.int .i64 4,dnA dn,dnA tn,.sl (aU v) v.length none])->K (.tup []) L2)->afB 43 [.ptr it 0,dnA dn,.int .i64 (-1)] L' K):=@hid _ (by
   intro K q;refine K5 hdb hne hct (fun z hz=>⟨z,(mQ.1 hz).1,rfl⟩) (fun z hz=>(ht.out.ids z hz).1) hi hKc (by omega) (fun i=>by have:=TW l i;omega) fun L2 hK2 hB2=>?_
   refine q L2 (hid (by rw [hkd1];exact hK2)) (hid (hB.out.trans hB2)) (hB2.get hi (hKc.noIt hi)) (hB2.get hb nob))
  clear hKc hK hI hB;have hkm:=hid hkd1;clear hkd1;refine wk ?_;intro L2 hK2 hB2 hi2 hb2;clear kk4;clear hvw hnn hii hb hi hLl;have hLl:L.length+1<=L2.length:=(ahm.1 hb2).1;refine wk ?_;obtain ⟨rnE,hrnE⟩:∃ rnE:aB->aB,rnE=fun y=>{ y with nm:=gx y.nm dn.length tn }:=⟨_,rfl⟩
  replace hrnE:=hid hrnE;refine ah (fun n T' L3=>∃ j:Nat,n=sc.length - j/\j<=sc.length/\Hid (L2.length<=L3.length)/\Hid (∃ ci2 rs2,bE L3 iv mn mi nb bn ck ci2 rs2 suf last (TP l dn tn ((sc.take j).map (·.id))) (Om l dn++(sc.take j).map rnE) kd1)/\Hid (aK (OfT iv mn mi nb l) L L3)/\L3[L.length]?=some (.cells [.int .i64 4,dnA dn,dnA tn,.sl (aU v) v.length none])/\L3[it]?=some (.cells [.ptr iv 0])/\T'=[(172,.int .i64 (j:Int)),(171,.int .i64 sc.length),(170,.sl ((sc.map (·.id)).map (AV.int .i64)) sc.length none),(6,.int .i64 xi),(3,.ptr L.length 0),(0,.ptr it 0)]) (CutS (b:=ahn _)) ⟨0,rfl,ahp _,hid (ahn _),hid ⟨ci,rs',by rw [aiS,aif,aey,aif,ahO];exact hK2.out⟩,hB2,hb2,hi2,rfl⟩ ?_;rintro _ _ L3 ⟨j,rfl,hj,hlen,hI,hB,hb,hi,rfl⟩;obtain ⟨ci2,rs2,hK⟩:=hI.out;have hLl3:L.length+1<=L3.length:=(ahm.1 hb).1;have hvw:=hK.v;have hnn:=hK.n;have hii:=hK.i;clear hK2 hB2 hi2 hb2 hLl;by_cases hlt:j<sc.length
  ·have g1:(j:Int)<(sc.length:Int):=by omega
   have g2:=ace j (by omega);have hjg:sc[j]?=some sc[j]:=ahB hlt;obtain ⟨y,hy⟩:=aaR (sc[j]);rw [hy] at hjg;obtain ⟨e1,hyl,hyu,hyn,htk⟩:=hpos.out j y hjg;have e2:j<((sc.map (·.id)).map (AV.int .i64)).length:=by simpa using hlt
   have hnin:y.id ∉ (sc.take j).map (·.id):=fun hm=>by
    obtain ⟨z,hz,e⟩:=ahs.1 hm;exact hyn z hz e
   have hym:=afR dn tn hyl hnin;have hrt:=(ht.out.mov hcm.out).1;have hZ:rnE y∈mV l dn tn:=ahs.2 ⟨y,hyl,by rw [if_pos hyu,hrnE.out]⟩;have hZi:(rnE y).id=y.id:=by rw [hrnE.out]
   have hno:∀ z∈Om l dn++(sc.take j).map rnE,aQ true z.nm≠aQ true (gx y.nm dn.length tn):=fun z hz e=>by
    have hzr:z∈mV l dn tn/\z.id≠y.id:=by
     rcases ahr.1 hz with hz|hz
     ·obtain ⟨h1,h2⟩:=mQ.1 hz;refine ⟨ahs.2 ⟨z,h1,by rw [if_neg (by rw [h2];decide)]⟩,fun e3=>?_⟩;rw [ht.out.byI h1 hyl e3,hyu] at h2;cases h2
     ·obtain ⟨w,hw,rfl⟩:=ahs.1 hz;obtain ⟨h1,h2⟩:=(hscm.out w).1 (ajA hw);refine ⟨ahs.2 ⟨w,h1,by rw [if_pos h2,hrnE.out]⟩,fun e3=>?_⟩;rw [show (rnE w).id=w.id by rw [hrnE.out]] at e3;exact hyn w hw e3
    have e4:NK z.nm=NK (rnE y).nm:=by
     rw [show (rnE y).nm=gx y.nm dn.length tn by rw [hrnE.out]];exact (kI (hrt.ok z hzr.1) (by have:=hrt.ok _ hZ;rw [hrnE.out] at this;exact this)).1 e
    have:=hrt.byN hzr.1 hZ e4;exact hzr.2 (by rw [this,hZi])
   have hoZ:OkD (gx y.nm dn.length tn):=by have:=hrt.ok _ hZ;rw [hrnE.out] at this;exact this
   obtain ⟨Z,hZe⟩:=aaR (gx y.nm dn.length tn);rw [hZe] at hno hoZ;obtain ⟨L4,hL4⟩:=aaR ((L3.set (nb y.id) (.cells [dnA Z,.sl (aF (NK Z).reverse) Z.length none,atR y.av,.int .i64 (kd1 y.id)])).set mi (.map ((rs2++[(aQ true Z,y.id,ci2)]).map kyA) (ci2+1))++[.cells [.sl (aF (NK Z).reverse) Z.length none]]);obtain ⟨hkf,hK1⟩:=hK.ren n23 hym hno [.cells [.sl (aF (NK Z).reverse) Z.length none]];rw [hL4,<- hZe,acW ht.out dn tn hyl hnin,hZe] at hK1;have hK2:bE L4 iv mn mi nb bn ck (ci2+1) (rs2++[(aQ true Z,y.id,ci2)]) suf last (TP l dn tn ((sc.take (j+1)).map (·.id))) (Om l dn++(sc.take (j+1)).map rnE) kd1:=by
    rw [htk,ahN,ahN,<- ahz];rw [show [y].map rnE=[{ y with nm:=Z }] by rw [hrnE.out,<- hZe];rfl];exact hK1
   have hBp:aK (OfT iv mn mi nb l) L3 L4:=by
    rw [<- hL4];exact ((aK.set L3 (B:=OfT iv mn mi nb l) (.inr (.inr (.inr ⟨y,hyl,rfl⟩))) _).trans (aK.set _ (.inr (.inr (.inl rfl))) _)).trans (aK.app _ _)
   have hlen4:=hid (ahV hlen.out hBp.len);have hi4:=hBp.get hi nit;have hb4:=hBp.get hb nob;have hB4:=hB.out.trans hBp;rcases hK.node y.id with ⟨f1,_⟩|⟨y',n,f1,f4,f5,f2,f3,_⟩
   ·exact absurd (ai2.1 f1 y hym) (by simp)
   have hyy:y'=y:=by
    obtain ⟨w,hw,e⟩:=ahs.1 f4;have hwi:w.id=y.id:=by rw [<- f5,<- e];split<;>rfl
    have:=ht.out.byI hw hyl hwi;subst this;rw [if_neg hnin] at e;exact e.symm
   rw [hyy] at f3;unfold dc at f3;have hyle:dn.length<=y.nm.length:=by
    have:=(cK.1 hyu).2.2.length_le
    rwa [be,be] at this
   have hy32:=(ht.out.ok y hyl).len;have kk5:Hid (∀ {K:afC},K (.tup []) L4->afB 42 [.ptr it 0,.int .i64 y.id,dnA Z] L3 K):=@hid _ (by
    intro K q;refine acd hoZ hi hvw hnn f2 f3 hii hkf ?_;rw [hL4];exact q)
   obtain ⟨q,hq⟩:=aaR (y.nm.length - dn.length);have w1:IntKind.i64.wrap ((y.nm.length:Int) - (dn.length:Int))=(q:Int):=by rw [ac (by omega) (by omega)];omega
   have w2:(q:Int)<=(y.nm.length:Int):=by omega
   have hkfi:bg .int (.int .i64 y.id)=true:=rfl;have hZz:y.nm.take q++tn=Z:=by rw [<- hZe,<- hq];rfl
   have kk6:Hid (∀ {c:Option Nat} {L:List Blk} {K:afC},K (dnA Z) L->afB 25 [dnA tn,.sl (List.take q (y.nm.map aw)) q c] L K):=@hid _ (by
    intro c L K u;rw [<- ajV];exact Z6 hZz (by rw [ail];omega) rfl hoZ.m.b.1 hoZ.m.b.2 u)
   obtain ⟨yi,hyi⟩:=aaR (y.id);obtain ⟨yn,hynn⟩:=aaR (y.nm);obtain ⟨ya,hya⟩:=aaR (atR y.av);obtain ⟨yp,hyp⟩:=aaR (aF (pth y));rw [hyi] at e1 f2 f3 kk5 hkfi;rw [hynn] at f3 kk6 w1 w2;rw [hya,hyp] at f3;have hLl4:=hid hLl3;replace hK2:=hid hK2;replace hB4:=hid hB4;replace hi4:=hid hi4;replace hb4:=hid hb4;clear hK hK1 hI hB hBp hL4 hno hoZ hZ hZi hrt hym hnin hyl hyu hyn htk hjg hy f1 f4 f5 hyy hyle hy32 hq hZz hZe hyi hynn hya hyp hkf;refine wk ?_;exact aq _ _ _ (by omega) (CutL (b:=hlen4.out)) ⟨j+1,rfl,hlt,hlen4,hid ⟨_,_,hK2.out⟩,hid hB4.out,hb4.out,hi4.out,rfl⟩
  ·have hje:j=sc.length:=by omega
   subst hje;have g1:¬ (sc.length:Int)<(sc.length:Int):=by omega
   rw [ahA] at hK;have hmx:TP l dn tn (sc.map (·.id))=mV l dn tn:=aez dn tn fun z hz=>by
    constructor
    ·intro hm;obtain ⟨w,hw,e⟩:=ahs.1 hm;obtain ⟨h1,h2⟩:=(hscm.out w).1 hw;rw [<- ht.out.byI h1 hz e];exact h2
    ·intro hu2;exact ahs.2 ⟨z,(hscm.out z).2 ⟨hz,hu2⟩,rfl⟩
   rw [hmx] at hK;have hKr:=hK.lkE (lk':=mV l dn tn) fun z=>by
    rw [ahr];constructor
    ·rintro (hz|hz)
     ·obtain ⟨h1,h2⟩:=mQ.1 hz;exact ahs.2 ⟨z,h1,by rw [if_neg (by rw [h2];decide)]⟩
     ·obtain ⟨w,hw,rfl⟩:=ahs.1 hz;obtain ⟨h1,h2⟩:=(hscm.out w).1 hw;exact ahs.2 ⟨w,h1,by rw [if_pos h2,hrnE.out]⟩
    ·intro hz;obtain ⟨w,hw,_,e⟩:=Ts hz;by_cases hu2:cu w.nm dn=true
     ·rw [if_pos hu2] at e;exact .inr (ahs.2 ⟨w,(hscm.out w).2 ⟨hw,hu2⟩,by rw [e,hrnE.out]⟩)
     ·rw [if_neg hu2] at e;rw [e];exact .inl (mQ.2 ⟨hw,by simpa using hu2⟩)
   have hrt:=(ht.out.mov hcm.out).1;obtain ⟨kd2,hkd2⟩:∃ kd2:Int->Int,kd2=fun i=>if i=aY (mV l dn tn) tn.tail then kd1 i+1 else kd1 i:=⟨_,rfl⟩
   have hof:∀ i,OfT iv mn mi nb (mV l dn tn) i->OfT iv mn mi nb l i:=fun i hi=>by
    rcases hi with e|e|e|⟨z,hz,e⟩
    ·exact .inl e
    ·exact .inr (.inl e)
    ·exact .inr (.inr (.inl e))
    ·obtain ⟨w,hw,e2,_⟩:=Ts hz;exact .inr (.inr (.inr ⟨w,hw,by rw [e,e2]⟩))
   obtain ⟨x2,hx2⟩:∃ x2,x2={ x with nm:=gx x.nm dn.length tn }:=⟨_,rfl⟩;have hxu:cu x.nm dn=true:=cK.2 ⟨ht.out.ok x hxl,hod,by rw [hxe];exact ajk _⟩;have hx2m:x2∈mV l dn tn:=ahs.2 ⟨x,hxl,by rw [if_pos hxu,hx2]⟩;have hx2i:x2.id=xi:=by rw [hx2];exact hxi
   have kk4:Hid (∀ {K:afC},(∀ L4,Hid (bE L4 iv mn mi nb bn ck ci2 rs2 suf last (mV l dn tn) (mV l dn tn) kd2)->Hid (aK (OfT iv mn mi nb l) L L4)->L4[it]?=some (.cells [.ptr iv 0])->L4[L.length]?=some (.cells [.int .i64 4,dnA dn,dnA tn,.sl (aU v) v.length none])->K (.tup []) L4)->afB 43 [.ptr it 0,dnA tn,.int .i64 1] L3 K):=@hid _ (by
    intro K q;refine K5 htb hcm.out.tne hrt (fun z hz=>⟨z,hz,rfl⟩) (fun z hz=>(hrt.ids z hz).1) hi hKr (by omega) hkb fun L4 hK4 hB4=>?_
    refine q L4 (hid (by rw [hkd2];exact hK4)) (hid (hB.out.trans2 hB4 fun i _=>hof i)) (hB4.get hi fun e=>nit (hof _ e)) (hB4.get hb fun e=>nob (hof _ e)))
   have hkm2:=hid hkd2;clear hkd2 hK hKr hI hB;refine wk ?_;intro L4 hK4 hB4 hi4 hb4;clear kk4 hvw hnn hii hb hi hLl3;have hvw:=hK4.out.v;have hnn:=hK4.out.n;have kk5:Hid (Ctr Tryz.prog 26 [.sl (aU v) v.length none] (.sl (aU v) v.length none)):=@hid _ (by intro L K q;exact SS hvl hvz q);rcases hK4.out.node xi with ⟨f1,_⟩|⟨y',n,f1,f4,f5,f2,f3,_⟩
   ·exact absurd (ai2.1 f1 x2 hx2m) (by simp [hx2i])
   have hyy:y'=x2:=hrt.byI f4 hx2m (by rw [f5,hx2i]);subst hyy;unfold dc at f3;rw [hx2i] at f3;have hkfi:bg .int (.int .i64 xi)=true:=rfl;have hK5:=hK4.out.cha hx2m v;rw [hx2i] at hK5;have hfin:=h.out (L4.set (nb xi) (.cells [dnA y'.nm,.sl (aF (pth y')) y'.nm.length none,atR v,.int .i64 (kd2 xi)])) ci2 rs2 (by
    rw [<- hxi] at hK5 ⊢;refine hK5.toT fun z hz=>?_
    obtain ⟨w,hw,rfl⟩:=ahs.1 hz;obtain ⟨u,hu',e2,e3⟩:=Ts hw;have h1:=ht.out.movK hcm.out hu';rw [TO];have e4:(if w.id=x.id then { w with av:=v } else w).id=w.id:=by split<;>rfl
    have e5:(if w.id=x.id then { w with av:=v } else w).nm=w.nm:=by split<;>rfl
    rw [e4,e5,hkm2.out,hkm.out];dsimp only;rw [<- e3] at h1;rw [<- e2];exact h1.symm) (by
     rw [ahL (fun e=>nit (.inr (.inr (.inr ⟨x,hxl,by rw [hxi];exact e.symm⟩))))];exact hi4) (hB4.out.trans (aK.set _ (.inr (.inr (.inr ⟨x,hxl,by rw [hxi]⟩))) _))
   replace h:=hid hfin;unfold atR at h;obtain ⟨ya,hya⟩:=aaR (atR y'.av);obtain ⟨yp,hyp⟩:=aaR (aF (pth y'));obtain ⟨yn,hynn⟩:=aaR (y'.nm);obtain ⟨kq,hkq⟩:=aaR (kd2 xi);rw [hya,hyp,hynn,hkq] at f3;rw [hyp,hynn,hkq] at h;clear hfin hK5 hyp hya hynn hkq f1 f4 f5 hK4 hB4 hrt hof hx2m hx2i hxu hx2 hmx hxi;refine wk ?_;exact af h.out
end
end Go.Proofs.YtobihfefmlgaoaaGreat.Av
