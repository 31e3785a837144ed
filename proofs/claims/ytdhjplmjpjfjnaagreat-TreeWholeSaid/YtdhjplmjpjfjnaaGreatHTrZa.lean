/- Joined texts of the walk, made small by a program. -/
import Derived.Test.YtdhjplmjpjfjnaaGreatHYB
set_option linter.unusedSimpArgs false
set_option linter.unusedVariables false
namespace Go.Proofs.YtdhjplmjpjfjnaaGreat.Av
open Go
set_option maxHeartbeats 8000000
set_option maxRecDepth 100000
def cd (kd:Int→Int) (x:az):List AV:=[dnA x.nm,.sl (aB (pth x)) x.nm.length none,atR x.av,.int .i64 (kd x.id)]
structure a6 (L:List Blk) (iv mn mi:Nat) (nb bn:Int→Nat) (ck ci:Nat) (rs:List TKy) (suf:List Rdn) (last:Int) (l lk:List az) (kd:Int→Int):Prop where
 v:L[iv]?=some (.cells [dnA suf,.lmap mn,.lmap mi,.int .i64 last])
 n:L[mn]?=some (.map (l.map (em nb bn)) ck)
 i:L[mi]?=some (.map (rs.map kyA) ci)
 nd:∀ x∈l,L[nb x.id]?=some (.cells (cd kd x))
 inj:∀ x∈l,∀ y∈l,nb x.id=nb y.id→x.id=y.id
 keys:(rs.map (·.1)).Nodup
 mem:∀ k id,(∃ b,(k,id,b)∈rs)↔∃ x∈lk,aK true x.nm=k∧x.id=id
 bnd:(l.map fun x=>bn x.id).Nodup
 blt:∀ x∈l,bn x.id<ck
theorem TOk.kidsE {suf:List Rdn} {last:Int} {l:List az} (h:TOk suf last l) {x:az} (hx:x∈l):gy l x.id=aO (cE l) (NK x.nm):=by unfold gy;rw [h.ent hx]
theorem aR.toK {L:List Blk} {iv mn mi:Nat} {nb bn:Int→Nat} {ck ci:Nat} {rs:List TKy} {suf:List Rdn} {last:Int} {l:List az} (h:aR L iv mn mi nb bn ck ci rs suf last l) (ht:TOk suf last l):a6 L iv mn mi nb bn ck ci rs suf last l l (fun id=>(gy l id:Nat)):=by
 have nd:∀ x∈l,L[nb x.id]?=some (.cells (cd (fun id=>(gy l id:Nat)) x)):=fun x hx=>by
   rw [h.nd x hx]
   unfold gE cd
   dsimp only
   rw [ht.kidsE hx]
 refine ⟨h.v,h.n,h.i,nd,fun x hx y hy e=>?_,h.keys,h.mem,h.bnd,h.blt⟩
 have h1:=h.nd x hx
 have h2:=h.nd y hy
 rw [e,h2] at h1
 have h3:gE l y=gE l x:=by injection h1 with h1;injection h1
 unfold gE at h3
 simp only [List.cons.injEq,AV.sl.injEq] at h3
 have h4:aB (pth y)=aB (pth x):=h3.2.1.1
 have h5:pth y=pth x:=(List.map_inj_right fun a b hab=>by injection hab).1 h4
 rw [ht.byN hy hx (Fw h5)]
theorem a6.toT {L:List Blk} {iv mn mi:Nat} {nb bn:Int→Nat} {ck ci:Nat} {rs:List TKy} {suf:List Rdn} {last:Int} {l:List az} {kd:Int→Int} (h:a6 L iv mn mi nb bn ck ci rs suf last l l kd) (hk:∀ x∈l,kd x.id=(aO (cE l) (NK x.nm):Nat)):aR L iv mn mi nb bn ck ci rs suf last l :=
 ⟨h.v,h.n,h.i,fun x hx=>by rw [h.nd x hx];unfold cd gE;rw [hk x hx],h.keys,h.mem,h.bnd,h.blt⟩
theorem a6.app {L:List Blk} {iv mn mi:Nat} {nb bn:Int→Nat} {ck ci:Nat} {rs:List TKy} {suf:List Rdn} {last:Int} {l lk:List az} {kd:Int→Int} (h:a6 L iv mn mi nb bn ck ci rs suf last l lk kd) (X:List Blk):a6 (L++X) iv mn mi nb bn ck ci rs suf last l lk kd:=by
 have key:∀ {i:Nat} {b:Blk},L[i]?=some b→(L++X)[i]?=some b:=fun {i b} e=>by
   rw [List.getElem?_append_left (List.getElem?_eq_some_iff.1 e).1];exact e
 exact ⟨key h.v,key h.n,key h.i,fun x hx=>key (h.nd x hx),h.inj,h.keys,h.mem,h.bnd,h.blt⟩
section
variable {L:List Blk} {iv mn mi:Nat} {nb bn:Int→Nat} {ck ci:Nat} {rs:List TKy} {suf:List Rdn} {last:Int} {l lk:List az} {kd:Int→Int}
def OfT (iv mn mi:Nat) (nb:Int→Nat) (l:List az) (i:Nat):Prop:=i=iv∨i=mn∨i=mi∨∃ x∈l,i=nb x.id
structure aH (B:Nat→Prop) (L L':List Blk):Prop where
 len:L.length≤L'.length
 eq:∀ i,i<L.length→¬ B i→L'[i]?=L[i]?
theorem aH.refl {B:Nat→Prop} (L:List Blk):aH B L L:=⟨Nat.le_refl _,fun _ _ _=>rfl⟩
theorem aH.app {B:Nat→Prop} (L X:List Blk):aH B L (L++X):=⟨by simp,fun i hi _=>List.getElem?_append_left hi⟩
theorem aH.trans {B:Nat→Prop} {L L1 L2:List Blk} (h:aH B L L1) (g:aH B L1 L2):aH B L L2:=⟨Nat.le_trans h.len g.len,fun i hi hb=>by rw [g.eq i (Nat.lt_of_lt_of_le hi h.len) hb,h.eq i hi hb]⟩
theorem aH.set {B:Nat→Prop} (L:List Blk) {j:Nat} (hj:B j) (b:Blk):aH B L (L.set j b):=⟨by simp,fun i hi hb=>List.getElem?_set_ne (fun e=>hb (by rw [← e];exact hj))⟩
theorem aH.weak {B B':Nat→Prop} {L L':List Blk} (h:aH B L L') (hb:∀ i,i<L.length→B i→B' i):aH B' L L':=⟨h.len,fun i hi hn=>h.eq i hi fun e=>hn (hb i hi e)⟩
theorem aH.trans2 {B B':Nat→Prop} {L L1 L2:List Blk} (h:aH B L L1) (g:aH B' L1 L2) (hb:∀ i,i<L.length→B' i→B i):aH B L L2:=⟨Nat.le_trans h.len g.len,fun i hi hn=>by rw [g.eq i (Nat.lt_of_lt_of_le hi h.len) (fun e=>hn (hb i hi e)),h.eq i hi hn]⟩
theorem aH.get {B:Nat→Prop} {L L':List Blk} (h:aH B L L') {i:Nat} {b:Blk} (hi:L[i]?=some b) (hb:¬ B i):L'[i]?=some b:=by rw [h.eq i (List.getElem?_eq_some_iff.1 hi).1 hb];exact hi
theorem a6.node (h:a6 L iv mn mi nb bn ck ci rs suf last l lk kd) (id:Int) :
   (mE l id=none∧b7 (.int .i64 id) (l.map (em nb bn)) 0=some none)∨∃ x n,mE l id=some x∧x∈l∧x.id=id∧b7 (.int .i64 id) (l.map (em nb bn)) 0=some (some (n,.ptr (nb id) 0))∧L[nb id]?=some (.cells (cd kd x))∧l.getD n default=x:=by
 rw [pH]
 unfold mE
 rcases dK (f:=fun x:az=>decide (x.id=id)) (l:=l) with ⟨h1,h2⟩|⟨n,h1,h2,h3⟩
 · exact .inl ⟨h2,by rw [h1];rfl⟩
 · right
   have hm:=List.mem_of_find?_eq_some h3
   have hi:(l.getD n default).id=id:=by have:=List.find?_some h3;simpa using this
   refine ⟨_,n,h3,hm,hi,by rw [h1];simp,?_,rfl⟩
   have:=h.nd _ hm
   rwa [hi] at this
theorem a6.look (h:a6 L iv mn mi nb bn ck ci rs suf last l lk kd) (ht:TOk suf last lk) {d:List Rdn} (hd:OkD d) :
   (aN lk d=0∧atE lk d=none∧b7 (.str (aK true d)) (rs.map kyA) 0=some none)∨∃ j,b7 (.str (aK true d)) (rs.map kyA) 0=some (some (j,.int .i64 (aN lk d)))∧j<rs.length∧(rs.getD j default).1=aK true d:=by
 rw [pJ]
 rcases dK (f:=fun r:TKy=>decide (r.1=aK true d)) (l:=rs) with ⟨h1,h2⟩|⟨n,h1,hn,h2⟩
 · left
   have hno:atE lk d=none:=mJ.2 fun _ x hx e=>by
     obtain ⟨b,hb⟩:=(h.mem (aK true x.nm) x.id).2 ⟨x,hx,rfl,rfl⟩
     have:=List.find?_eq_none.1 h2 _ hb
     simp only [decide_eq_true_eq] at this
     exact this ((fR (ht.ok x hx) hd).2 e)
   exact ⟨ht.find0.2 hno,hno,by rw [h1];rfl⟩
 · right
   refine ⟨n,?_⟩
   obtain ⟨⟨k,id,b⟩,hr⟩:∃ r,rs.getD n default=r:=⟨_,rfl⟩
   have hm:=List.mem_of_find?_eq_some h2
   have hk:k=aK true d:=by have:=List.find?_some h2;rw [hr] at this;simpa using this
   rw [hr] at hm
   obtain ⟨x,hx,e1,e2⟩:=(h.mem k id).1 ⟨b,hm⟩
   have:atE lk d=some x:=ht.at hx hd ((fR hd (ht.ok x hx)).1 (by rw [← hk,e1]))
   rw [h1]
   refine ⟨by simp only [Option.map_some,hr,Nat.zero_add,aN,this,e2],hn,by rw [hr];exact hk⟩
theorem Mq {d:List Rdn} {cap:Option Nat} (hd:dnB d) (ht:TOk suf last lk) (hc:a6 L iv mn mi nb bn ck ci rs suf last l lk kd) {K:AV→List Blk→Prop} (h:K (.int .i64 (aN lk d)) L) :
   ab Tryz.prog 15 [.ptr iv 0,.sl (d.map ao) d.length cap] L K:=by
 replace h:=hid h
 obtain ⟨⟨s,e⟩,hse⟩:∃ q,zI d=q:=⟨_,rfl⟩
 have kk1:Hid (Ctr Tryz.prog 46 [.sl (d.map ao) d.length cap] (.tup [.str s,.int .i64 e])):=@hid _ (by intro L K q;exact zJ hd.1 hd.2 (by rw [hse];exact q))
 have hv:=hc.v
 have hi:=hc.i
 by_cases he:e=0
 · subst he
   have hod:OkD d:=by
     by_cases c:OkD d
     · exact c
     · exact absurd (by rw [hse]) (zd c)
   have hs:s=aK true d:=by have:=eX hod;rw [hse] at this;injection this
   rcases hc.look ht hod with ⟨h0,_,h1⟩|⟨j,h1,_⟩
   · rw [← hs] at h1
     rw [h0] at h
     have hkf:aT .str (.str s)=true:=rfl
     clear hse hc hs
     refine aa bY (by simp [aP]) ?_
     simp only [aP,am]
     refine wk ?_
     exact ak h.out
   · rw [← hs] at h1
     have hkf:aT .str (.str s)=true:=rfl
     obtain ⟨z,hz⟩:∃ z,aN lk d=z:=⟨_,rfl⟩
     rw [hz] at h h1
     clear hse hc hs hz
     refine aa bY (by simp [aP]) ?_
     simp only [aP,am]
     refine wk ?_
     exact ak h.out
 · have h0:aN lk d=0:=by
     refine ht.find0.2 (mJ.2 fun c=>?_)
     have:=eX c
     rw [hse] at this
     exact absurd (by injection this) he
   rw [h0] at h
   clear hse hc
   refine aa bY (by simp [aP]) ?_
   simp only [aP,am]
   refine wk ?_
   exact ak h.out
theorem a6.kid (h:a6 L iv mn mi nb bn ck ci rs suf last l lk kd) {x:az} (hx:x∈l) (by':Int):a6 (L.set (nb x.id) (.cells [dnA x.nm,.sl (aB (pth x)) x.nm.length none,atR x.av,.int .i64 (kd x.id+by')])) iv mn mi nb bn ck ci rs suf last l lk (fun i=>if i=x.id then kd i+by' else kd i):=by
 have hnx:=h.nd x hx
 have hl:=(List.getElem?_eq_some_iff.1 hnx).1
 have n1:nb x.id≠iv:=fun e=>by rw [e,h.v] at hnx;simp [cd] at hnx
 have n2:nb x.id≠mn:=fun e=>by rw [e,h.n] at hnx;simp at hnx
 have n3:nb x.id≠mi:=fun e=>by rw [e,h.i] at hnx;simp at hnx
 refine ⟨by rw [List.getElem?_set_ne n1];exact h.v,by rw [List.getElem?_set_ne n2];exact h.n,by rw [List.getElem?_set_ne n3];exact h.i,fun y hy=>?_,h.inj,h.keys,h.mem,h.bnd,h.blt⟩
 by_cases e:nb x.id=nb y.id
 · have hi:=h.inj x hx y hy e
   have hxy:cd kd x=cd kd y:=by
     have h2:=h.nd y hy
     rw [← e,hnx] at h2
     injection h2 with h2;injection h2
   rw [← e]
   simp only [hl,List.getElem?_set_self,Option.some.injEq,Blk.cells.injEq]
   unfold cd at hxy ⊢
   simp only [List.cons.injEq] at hxy
   dsimp only
   rw [if_pos hi.symm,hxy.1,hxy.2.1,hxy.2.2.1,hi]
 · rw [List.getElem?_set_ne e,h.nd y hy]
   unfold cd
   dsimp only
   rw [if_neg (fun e2=>e (by rw [e2]))]
theorem Kw {it:Nat} {d:List Rdn} {cap:Option Nat} {b:Int} (hd:dnB d) (hne:d≠[]) (ht:TOk suf last lk) (hsub:∀ x∈lk,∃ y∈l,y.id=x.id) (hit:L[it]?=some (.cells [.ptr iv 0])) (hc:a6 L iv mn mi nb bn ck ci rs suf last l lk kd) (hb : -1≤b∧b≤1) (hkd:∀ i,-10000000≤kd i∧kd i≤10000000) {K:AV→List Blk→Prop}
   (h0:aN lk d.tail=0→K (.tup []) L) (h1:∀ x∈l,x.id=aN lk d.tail→K (.tup []) (L.set (nb x.id) (.cells [dnA x.nm,.sl (aB (pth x)) x.nm.length none,atR x.av,.int .i64 (kd x.id+b)]))) :
   ab Tryz.prog 57 [.ptr it 0,.sl (d.map ao) d.length cap,.int .i64 b] L K:=by
 obtain ⟨r,d',rfl⟩:∃ r d',d=r::d':=by
   cases d with
   | nil=>exact absurd rfl hne
   | cons r d'=>exact ⟨r,d',rfl⟩
 simp only [List.tail_cons] at h0 h1
 have hdt:dnB d':=⟨by have:=hd.1;simp at this;omega,fun r hr=>hd.2 r (by simp [hr])⟩
 obtain ⟨z,hz⟩:∃ z,aN lk d'=z:=⟨_,rfl⟩
 have kk1:Hid (∀ {c:Option Nat} {K:AV→List Blk→Prop},K (.int .i64 z) L→ab Tryz.prog 15 [.ptr iv 0,.sl (List.take d'.length (d'.map ao)) d'.length c] L K):=@hid _ (by
   intro c K q
   rw [List.take_of_length_le (by simp)]
   exact Mq hdt ht hc (by rw [hz];exact q))
 have hlen:(((r::d').length:Nat):Int)=(d'.length:Int)+1:=by simp
 have g1:(1:Int)≤((r::d').length:Int):=by rw [hlen];omega
 have g2:(r::d').length - 1=d'.length:=by simp
 have g3:List.drop 1 ((r::d').map ao)=d'.map ao:=by simp
 have hv:=hc.v
 have hn:=hc.n
 by_cases hz0:z=0
 · subst hz0
   replace h:=hid (h0 hz)
   obtain ⟨D,hD⟩:∃ D,(r::d').map ao=D:=⟨_,rfl⟩
   obtain ⟨n,hnn⟩:∃ n,(r::d').length=n:=⟨_,rfl⟩
   rw [hD] at g3 ⊢
   rw [hnn] at g1 g2 ⊢
   clear h0 h1 hz hc hkd hsub ht hd hdt hne hlen hD hnn
   refine aa ig (by simp [di]) ?_
   simp only [di,am]
   refine wk ?_
   exact co ⟨.inl rfl,True,[],rfl,trivial,ak h.out⟩
 · obtain ⟨y,hy⟩:∃ y,atE lk d'=some y:=by
     cases hq:atE lk d' with
     | none=>exact absurd (ht.find0.2 hq) (by rw [hz];exact hz0)
     | some y=>exact ⟨y,rfl⟩
   have hyz:y.id=z:=by rw [← hz];unfold aN;rw [hy]
   obtain ⟨_,hyl,_⟩:=bE hy
   have hzp:=(ht.ids y hyl).1
   obtain ⟨x',hx',hxi⟩:=hsub y hyl
   rcases hc.node z with ⟨e1,_⟩|⟨x,j,e1,hx,hxz,e2,e3,_⟩
   · exact absurd (List.find?_eq_none.1 e1 x' hx') (by simp [hxi,hyz])
   have h:=h1 x hx (by rw [hxz,hz])
   rw [hxz] at h
   replace h:=hid h
   unfold cd at e3
   rw [hxz] at e3
   obtain ⟨q,hq⟩:∃ q,kd z=q:=⟨_,rfl⟩
   have hqb:=hkd z
   rw [hq] at h e3 hqb
   have w1:IntKind.i64.wrap (q+b)=q+b:=ah (by omega) (by omega)
   have hkf:aT .int (.int .i64 z)=true:=rfl
   have g4:(0:Int)<z:=by omega
   have g5:z > 0:=g4
   obtain ⟨D,hD⟩:∃ D,(r::d').map ao=D:=⟨_,rfl⟩
   obtain ⟨n,hnn⟩:∃ n,(r::d').length=n:=⟨_,rfl⟩
   rw [hD] at g3 ⊢
   rw [hnn] at g1 g2 ⊢
   clear h0 h1 hz hc hkd hsub ht hd hdt hne hlen hD hnn hy hyz hyl hzp hxi hx' e1 hx hxz hq hqb
   refine aa ig (by simp [di]) ?_
   simp only [di,am]
   refine wk ?_
   exact ⟨.inl rfl,True,[],rfl,trivial,ak h.out⟩
end
end Go.Proofs.YtdhjplmjpjfjnaaGreat.Av
