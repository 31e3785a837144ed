/- Joined texts of the walk, made small by a program. -/
import Derived.Test.YtobihfefmlgaoaaMk12
import Derived.Test.YtobihfefmlgaoaaMk4
import Derived.Test.YtobihfefmlgaoaaRows
import Derived.KernelRfl
import Derived.Test.YtobihfefmlgaoaaMk10
import Derived.Test.YtobihfefmlgaoaaMk9
import Derived.Test.YtobihfefmlgaoaaMk5
import Derived.Test.YtobihfefmlgaoaaMk7
import Derived.Test.YtobihfefmlgaoaaMk11
set_option linter.unusedSimpArgs false
set_option linter.unusedVariables false
namespace Go.Proofs.Ytobihfefmlgaoaa.Av
open Go
set_option maxHeartbeats 8000000
set_option maxRecDepth 100000
theorem OfT.lt {L:List Blk} {iv mn mi:Nat} {nb bn:Int->Nat} {ck ci:Nat} {rs:List TKy} {suf:List Rdn} {last:Int} {l lk:List aA} {kd:Int->Int} (h:aT L iv mn mi nb bn ck ci rs suf last l lk kd) {i:Nat} (hi:OfT iv mn mi nb l i):i<L.length:=by
 rcases hi with rfl|rfl|rfl|⟨x,hx,rfl⟩
 ·exact (Fx.1 h.v).1
 ·exact (Fx.1 h.n).1
 ·exact (Fx.1 h.i).1
 ·exact (Fx.1 (h.nd x hx)).1
theorem zW {suf:List Rdn} {last:Int} {l:List aA} (ht:TOk suf last l) (x:aA) (s:Int):((scL l x s).map (·.id)).Nodup:=by
 have hn:=ht.inv.ids;unfold b9 at hn;rw [FR] at hn;have:((l.filter (dE x s)).map (·.id)).Nodup:=(List.filter_sublist.map _).nodup hn;exact ((G0 _ _).map _).nodup_iff.2 this
section
variable {L:List Blk} {iv mn mi it:Nat} {nb bn:Int->Nat} {ck ci:Nat} {rs:List TKy} {suf:List Rdn} {last:Int} {l:List aA}
theorem EN (ht:TOk suf last l) (n23:mn≠mi) (hln:l.length<=1000000) (hit:L[it]?=some (.cells [.ptr iv 0])) (hc:a6 L iv mn mi nb bn ck ci rs suf last l)
  {dn tn:List Rdn} {v:List Atr} (hdb:dnB dn) (htb:dnB tn) (hvl:v.length<=1100000) (hvz:∀ a∈v,a.2.length<=1100000) {x:aA} (hx:atE l dn=some x) (hmv:vO suf l x.id dn tn=0) {K:Fw}
  (h:∀ L' ci' rs',a6 L' iv mn mi nb bn ck ci' rs' suf last (l6 (iI l dn tn) x.id v)->L'[it]?=some (.cells [.ptr iv 0])->aF (OfT iv mn mi nb l) L L'->K (.int .i64 0) L') :
  Fv 14 [.ptr it 0,.agg [.int .i64 4,dnA dn,dnA tn,atR v]] L K:=by
 obtain ⟨hod,hxl,hxe⟩:=bF hx;have hcm:=ht.canM hx hmv;have ha:cW suf l 4 dn tn=0:=by unfold cW;rw [if_neg (by decide),if_neg (by decide),hx];exact hmv
 have hfx:aH l dn=x.id:=by unfold aH;rw [hx]
 have hK:=hc.toK ht;have nit:=hK.noIt hit;have hvw:=hc.v;have hivl:iv<L.length:=(Fx.1 hvw).1;have hmil:mi<L.length:=(Fx.1 hc.i).1;have hitl:it<L.length:=(Fx.1 hit).1;have nob:¬ OfT iv mn mi nb l L.length:=fun e=>Nat.lt_irrefl _ (OfT.lt hK e)
 have av:∀ X:List Blk,(L++X)[iv]?=some (.cells [dnA suf,.lmap mn,.lmap mi,.int .i64 last]):=fun X=>by rw [FC hivl];exact hvw
 have at':∀ X:List Blk,(L++X)[it]?=some (.cells [.ptr iv 0]):=fun X=>by rw [FC hitl];exact hit
 have kk1:Hid (∀ {X:List Blk} {K:Fw},K (.int .i64 0) (L++X)->Fv 13 [.ptr iv 0,.agg [.int .i64 4,dnA dn,dnA tn,.sl (eW v) v.length none]] (L++X) K):=@hid _ (by
  intro X K q;exact o6 ht (by omega) (hc.app X) hdb htb (by rw [ha];exact q))
 have kk2:Hid (∀ {X:List Blk} {K:Fw},K (.int .i64 x.id) (L++X)->Fv 8 [.ptr iv 0,dnA dn] (L++X) K):=@hid _ (by
  intro X K q;exact mX hdb ht (hc.app X) (by rw [hfx];exact q))
 obtain ⟨sc,hsce⟩:=Fq (scL l x 2);have kk3:Hid (∀ {X:List Blk} {K:Fw},K (.sl ((sc.map (·.id)).map (AV.int .i64)) sc.length none) (L++X)->Fv 11 [.ptr iv 0,.int .i64 x.id,.int .i64 2] (L++X) K):=@hid _ (by
  intro X K q;refine sh ht (by omega) (hc.app X) ?_;rw [vz (ht.ent hxl),hsce,FS];exact q)
 have hscl:=xS l x 2;have hscm:=fun y=>rZ (y:=y) ht hx
 have hscn:=zW ht x 2;rw [hsce] at hscl hscm hscn;have hpos:∀ (j:Nat) (y:aA),sc[j]?=some y->(((sc.map (·.id)).map (AV.int .i64)).getD j .undef=.int .i64 y.id)/\y∈l/\dJ y.nm dn=true/\(∀ z∈sc.take j,z.id≠y.id)/\sc.take (j+1)=sc.take j++[y]:=fun j y hj=>by
  obtain ⟨hjl,e⟩:=Fx.1 hj;have hm:=GI hj;obtain ⟨h1,h2⟩:=(hscm y).1 hm;refine ⟨by simp [hj],h1,h2,fun z hz e2=>?_,by rw [Gc hjl,e]⟩;obtain ⟨i,hi,e3⟩:=GM.1 hz;rw [HX] at e3;rw [GC] at hi;have hij:i<j:=by omega
  have:=HY.1 hscn i j (by simp;omega) (by simpa using hjl) hij;exact this (by simp [e3,e,e2])
 have hdl:=hod.len;obtain ⟨box,hbox⟩:∃ box:Blk,box=.cells [.int .i64 4,dnA dn,dnA tn,.sl (eW v) v.length none]:=⟨_,rfl⟩;have hu:∀ y∈l,∀ z∈l,aE true z.nm=aE true y.nm↔z.id=y.id:=fun y hy z hz=>⟨fun e=>by rw [ht.byN hz hy ((fP (ht.ok z hz) (ht.ok y hy)).1 e)],fun e=>by rw [ht.byI hz hy e]⟩
 have hI0:aT (L++[box]) iv mn mi nb bn ck ci rs suf last l (lkD l (sc.take 0)) (fun id=>(dY l id:Nat)):=(hK.app [box]).lkE fun z=>by rw [nv];simp
 have hBx:aF (OfT iv mn mi nb l) L (L++[box]):=aF.app L [box];have hbx:(L++[box])[L.length]?=some box:=by simp
 obtain ⟨xi,hxi⟩:=Fq (x.id);have hit0:=hit;unfold atR;rw [hxi] at kk2 kk3;replace h:=hid h;replace ht:=hid ht;replace hcm:=hid hcm;replace hpos:=hid hpos;replace hu:=hid hu;replace hscm:=hid hscm;replace hI0:=hid hI0;replace hBx:=hid hBx;replace hbx:=hid hbx;clear hc hK hvw hfx ha hmv hsce hscn hit;subst hbox;refine Fu bH ?_;have st1:∀ {L':List Blk} {rs':List TKy} {lk:List aA} {ci':Nat} {l':List aA} {kd:Int->Int},aT L' iv mn mi nb bn ck ci' rs' suf last l' lk kd->L'[it]?=some (.cells [.ptr iv 0])->L'[L.length]?=some (.cells [.int .i64 4,dnA dn,dnA tn,.sl (eW v) v.length none])->∀ b,(L'.set mi b)[it]?=some (.cells [.ptr iv 0])/\(L'.set mi b)[L.length]?=some (.cells [.int .i64 4,dnA dn,dnA tn,.sl (eW v) v.length none]):=fun hK h1 h2 b=>⟨by rw [FL (fun e=>hK.noIt h1 (.inr (.inr (.inl e.symm))))];exact h1,by rw [FL (by omega)];exact h2⟩
 replace st1:=@hid _ @st1;refine aM (fun n T' L'=>∃ j:Nat,n=sc.length - j/\j<=sc.length/\Hid (∃ rs',aT L' iv mn mi nb bn ck ci rs' suf last l (lkD l (sc.take j)) (fun id=>(dY l id:Nat)))/\Hid (aF (OfT iv mn mi nb l) L L')/\L'[L.length]?=some (.cells [.int .i64 4,dnA dn,dnA tn,.sl (eW v) v.length none])/\L'[it]?=some (.cells [.ptr iv 0])/\T'=[(137,.int .i64 (j:Int)),(136,.int .i64 sc.length),(135,.sl ((sc.map (·.id)).map (AV.int .i64)) sc.length none),(9,.sl ((sc.map (·.id)).map (AV.int .i64)) sc.length none),(6,.int .i64 xi),(3,.ptr L.length 0),(0,.ptr it 0)]) (CutS (b:=by simp)) ⟨0,rfl,FW _,hid ⟨rs,hI0.out⟩,hid hBx.out,hbx.out,by rw [FC hitl];exact hit0,rfl⟩ ?_;rintro _ _ L' ⟨j,rfl,hj,hI,hB,hb,hi,rfl⟩;obtain ⟨rs',hK⟩:=hI.out;have hLl:L.length+1<=L'.length:=(Fx.1 hb).1;have hvw:=hK.v;have hnn:=hK.n;have hii:=hK.i;by_cases hlt:j<sc.length
 ·have g1:(j:Int)<(sc.length:Int):=by omega
  have g2:=Ft j (by omega);have hjg:sc[j]?=some sc[j]:=FN hlt;obtain ⟨y,hy⟩:=Fq (sc[j]);rw [hy] at hjg;obtain ⟨e1,hyl,hyu,hyn,htk⟩:=hpos.out j y hjg;have e2:j<((sc.map (·.id)).map (AV.int .i64)).length:=by simpa using hlt
  obtain ⟨j1,hj1,hK1⟩:=hK.delk n23 (y:=y) (nv.2 ⟨hyl,hyn⟩) (fun z hz=>hu.out y hyl z (nv.1 hz).1);have hK2:=hK1.lkE (BD l (sc.take j) y);rw [<- htk] at hK2;obtain ⟨b1,b2⟩:=st1.out hK hi hb (.map ((rs'.map kyA).eraseIdx j1) ci);have hB2:=hB.out.trans (aF.set L' (B:=OfT iv mn mi nb l) (.inr (.inr (.inl rfl))) (.map ((rs'.map kyA).eraseIdx j1) ci));rcases hK.node y.id with ⟨f1,_⟩|⟨y',n,f1,_,_,f2,f3,_⟩
  ·rw [ht.out.ent hyl] at f1;cases f1
  rw [ht.out.ent hyl] at f1;cases f1;unfold bv at f3;have hoy:=ht.out.ok y hyl;have kk4:Hid (Ctr Try.prog 19 [dnA y.nm] (.tup [.str (aE true y.nm),.int .i64 0])):=@hid _ (by
   intro L K q;exact qM hoy.m.b.1 hoy.m.b.2 (by rw [iw hoy];exact q))
  have hkf1:aN .str (.str (aE true y.nm))=true:=rfl;have hkf2:aN .int (.int .i64 y.id)=true:=rfl;obtain ⟨tk,htke⟩:=Fq (aE true y.nm);obtain ⟨yi,hyi⟩:=Fq (y.id);rw [htke] at hj1 kk4 hkf1;rw [hyi] at e1 f2 f3 hkf2 hj1;have hLl2:=hid hLl;replace b1:=hid b1;replace b2:=hid b2;replace hK2:=hid hK2;replace hB2:=hid hB2;clear hK hK1 hI hB hoy htke hyi hyl hyu hyn htk hjg hy kk1 kk2 kk3 av at' nob;refine wk ?_;exact aJ _ _ _ (by omega) (CutL (b:=by have:=hLl2.out;simp;omega)) ⟨j+1,rfl,hlt,hid ⟨_,hK2.out⟩,hid hB2.out,b2.out,b1.out,rfl⟩
 ·have hje:j=sc.length:=by omega
  subst hje;have g1:¬ (sc.length:Int)<(sc.length:Int):=by omega
  rw [F5] at hK;have hKc:=hK.lkE (lk':=oR l dn) fun z=>by
   rw [nv,fT];refine and_congr_right fun hz=>?_
   constructor
   ·intro e;cases hu':dJ z.nm dn with
    | false=>rfl
    | true=>exact absurd rfl (e z ((hscm.out z).2 ⟨hz,hu'⟩))
   ·intro e y hy e2;obtain ⟨y1,y2⟩:=(hscm.out y).1 hy;rw [ht.out.byI y1 hz e2,e] at y2;cases y2
  have hct:=ht.out.cut hod;have hne:dn≠[]:=fun e=>ht.out.inv.ne (dC hxl) (by rw [hxe,e];rfl)
  obtain ⟨kd1,hkd1⟩:∃ kd1:Int->Int,kd1=fun i=>if i=aH (oR l dn) dn.tail then (dY l i:Int) + -1 else dY l i:=⟨_,rfl⟩
  have hkb:∀ i,-10000000<=kd1 i/\kd1 i<=10000000:=fun i=>by
   have:=sT l i;rw [hkd1];dsimp only;split<;>omega
  have kk4:Hid (∀ {K:Fw},(∀ L2,Hid (aT L2 iv mn mi nb bn ck ci rs' suf last l (oR l dn) kd1)->Hid (aF (OfT iv mn mi nb l) L L2)->L2[it]?=some (.cells [.ptr iv 0])->L2[L.length]?=some (.cells [.int .i64 4,dnA dn,dnA tn,.sl (eW v) v.length none])->K (.tup []) L2)->Fv 27 [.ptr it 0,dnA dn,.int .i64 (-1)] L' K):=@hid _ (by
   intro K q;refine nu hdb hne hct (fun z hz=>⟨z,(fT.1 hz).1,rfl⟩) (fun z hz=>(ht.out.ids z hz).1) hi hKc (by omega) (fun i=>by have:=sT l i;omega) fun L2 hK2 hB2=>?_
   refine q L2 (hid (by rw [hkd1];exact hK2)) (hid (hB.out.trans hB2)) (hB2.get hi (hKc.noIt hi)) (hB2.get hb nob))
  clear hKc hK hI hB;have hkm:=hid hkd1;clear hkd1;refine wk ?_;intro L2 hK2 hB2 hi2 hb2;clear kk4;clear hvw hnn hii hb hi hLl;have hLl:L.length+1<=L2.length:=(Fx.1 hb2).1;refine wk ?_;obtain ⟨rnE,hrnE⟩:∃ rnE:aA->aA,rnE=fun y=>{ y with nm:=gq y.nm dn.length tn }:=⟨_,rfl⟩
  replace hrnE:=hid hrnE;refine aM (fun n T' L3=>∃ j:Nat,n=sc.length - j/\j<=sc.length/\Hid (L2.length<=L3.length)/\Hid (∃ ci2 rs2,aT L3 iv mn mi nb bn ck ci2 rs2 suf last (sO l dn tn ((sc.take j).map (·.id))) (oR l dn++(sc.take j).map rnE) kd1)/\Hid (aF (OfT iv mn mi nb l) L L3)/\L3[L.length]?=some (.cells [.int .i64 4,dnA dn,dnA tn,.sl (eW v) v.length none])/\L3[it]?=some (.cells [.ptr iv 0])/\T'=[(172,.int .i64 (j:Int)),(171,.int .i64 sc.length),(170,.sl ((sc.map (·.id)).map (AV.int .i64)) sc.length none),(6,.int .i64 xi),(3,.ptr L.length 0),(0,.ptr it 0)]) (CutS (b:=Fz _)) ⟨0,rfl,FW _,hid (Fz _),hid ⟨ci,rs',by rw [GW,GD,CX,GD,Ge];exact hK2.out⟩,hB2,hb2,hi2,rfl⟩ ?_;rintro _ _ L3 ⟨j,rfl,hj,hlen,hI,hB,hb,hi,rfl⟩;obtain ⟨ci2,rs2,hK⟩:=hI.out;have hLl3:L.length+1<=L3.length:=(Fx.1 hb).1;have hvw:=hK.v;have hnn:=hK.n;have hii:=hK.i;clear hK2 hB2 hi2 hb2 hLl;by_cases hlt:j<sc.length
  ·have g1:(j:Int)<(sc.length:Int):=by omega
   have g2:=Ft j (by omega);have hjg:sc[j]?=some sc[j]:=FN hlt;obtain ⟨y,hy⟩:=Fq (sc[j]);rw [hy] at hjg;obtain ⟨e1,hyl,hyu,hyn,htk⟩:=hpos.out j y hjg;have e2:j<((sc.map (·.id)).map (AV.int .i64)).length:=by simpa using hlt
   have hnin:y.id ∉ (sc.take j).map (·.id):=fun hm=>by
    obtain ⟨z,hz,e⟩:=FF.1 hm;exact hyn z hz e
   have hym:=D5 dn tn hyl hnin;have hrt:=(ht.out.mov hcm.out).1;have hZ:rnE y∈iI l dn tn:=FF.2 ⟨y,hyl,by rw [if_pos hyu,hrnE.out]⟩;have hZi:(rnE y).id=y.id:=by rw [hrnE.out]
   have hno:∀ z∈oR l dn++(sc.take j).map rnE,aE true z.nm≠aE true (gq y.nm dn.length tn):=fun z hz e=>by
    have hzr:z∈iI l dn tn/\z.id≠y.id:=by
     rcases FE.1 hz with hz|hz
     ·obtain ⟨h1,h2⟩:=fT.1 hz;refine ⟨FF.2 ⟨z,h1,by rw [if_neg (by rw [h2];decide)]⟩,fun e3=>?_⟩;rw [ht.out.byI h1 hyl e3,hyu] at h2;cases h2
     ·obtain ⟨w,hw,rfl⟩:=FF.1 hz;obtain ⟨h1,h2⟩:=(hscm.out w).1 (List.mem_of_mem_take hw);refine ⟨FF.2 ⟨w,h1,by rw [if_pos h2,hrnE.out]⟩,fun e3=>?_⟩;rw [show (rnE w).id=w.id by rw [hrnE.out]] at e3;exact hyn w hw e3
    have e4:NK z.nm=NK (rnE y).nm:=by
     rw [show (rnE y).nm=gq y.nm dn.length tn by rw [hrnE.out]];exact (fP (hrt.ok z hzr.1) (by have:=hrt.ok _ hZ;rw [hrnE.out] at this;exact this)).1 e
    have:=hrt.byN hzr.1 hZ e4;exact hzr.2 (by rw [this,hZi])
   have hoZ:OkD (gq y.nm dn.length tn):=by have:=hrt.ok _ hZ;rw [hrnE.out] at this;exact this
   obtain ⟨Z,hZe⟩:=Fq (gq y.nm dn.length tn);rw [hZe] at hno hoZ;obtain ⟨L4,hL4⟩:=Fq ((L3.set (nb y.id) (.cells [dnA Z,.sl (am (NK Z).reverse) Z.length none,atR y.av,.int .i64 (kd1 y.id)])).set mi (.map ((rs2++[(aE true Z,y.id,ci2)]).map kyA) (ci2+1))++[.cells [.sl (am (NK Z).reverse) Z.length none]]);obtain ⟨hkf,hK1⟩:=hK.ren n23 hym hno [.cells [.sl (am (NK Z).reverse) Z.length none]];rw [hL4,<- hZe,BA ht.out dn tn hyl hnin,hZe] at hK1;have hK2:aT L4 iv mn mi nb bn ck (ci2+1) (rs2++[(aE true Z,y.id,ci2)]) suf last (sO l dn tn ((sc.take (j+1)).map (·.id))) (oR l dn++(sc.take (j+1)).map rnE) kd1:=by
    rw [htk,FZ,FZ,<- FO];rw [show [y].map rnE=[{ y with nm:=Z }] by rw [hrnE.out,<- hZe];rfl];exact hK1
   have hBp:aF (OfT iv mn mi nb l) L3 L4:=by
    rw [<- hL4];exact ((aF.set L3 (B:=OfT iv mn mi nb l) (.inr (.inr (.inr ⟨y,hyl,rfl⟩))) _).trans (aF.set _ (.inr (.inr (.inl rfl))) _)).trans (aF.app _ _)
   have hlen4:=hid (F3 hlen.out hBp.len);have hi4:=hBp.get hi nit;have hb4:=hBp.get hb nob;have hB4:=hB.out.trans hBp;rcases hK.node y.id with ⟨f1,_⟩|⟨y',n,f1,f4,f5,f2,f3,_⟩
   ·exact absurd (GS.1 f1 y hym) (by simp)
   have hyy:y'=y:=by
    obtain ⟨w,hw,e⟩:=FF.1 f4;have hwi:w.id=y.id:=by rw [<- f5,<- e];split<;>rfl
    have:=ht.out.byI hw hyl hwi;subst this;rw [if_neg hnin] at e;exact e.symm
   rw [hyy] at f3;unfold bv at f3;have hyle:dn.length<=y.nm.length:=by
    have:=(cc.1 hyu).2.2.length_le
    rwa [aZ,aZ] at this
   have hy32:=(ht.out.ok y hyl).len;have kk5:Hid (∀ {K:Fw},K (.tup []) L4->Fv 26 [.ptr it 0,.int .i64 y.id,dnA Z] L3 K):=@hid _ (by
    intro K q;refine zN hoZ hi hvw hnn f2 f3 hii hkf ?_;rw [hL4];exact q)
   obtain ⟨q,hq⟩:=Fq (y.nm.length - dn.length);have w1:IntKind.i64.wrap ((y.nm.length:Int) - (dn.length:Int))=(q:Int):=by rw [aw (by omega) (by omega)];omega
   have w2:(q:Int)<=(y.nm.length:Int):=by omega
   have hkfi:aN .int (.int .i64 y.id)=true:=rfl;have hZz:y.nm.take q++tn=Z:=by rw [<- hZe,<- hq];rfl
   have kk6:Hid (∀ {c:Option Nat} {L:List Blk} {K:Fw},K (dnA Z) L->Fv 16 [dnA tn,.sl (List.take q (y.nm.map aI)) q c] L K):=@hid _ (by
    intro c L K u;rw [<- List.map_take];exact x8 hZz (by rw [GC];omega) rfl hoZ.m.b.1 hoZ.m.b.2 u)
   obtain ⟨yi,hyi⟩:=Fq (y.id);obtain ⟨yn,hynn⟩:=Fq (y.nm);obtain ⟨ya,hya⟩:=Fq (atR y.av);obtain ⟨yp,hyp⟩:=Fq (am (pth y));rw [hyi] at e1 f2 f3 kk5 hkfi;rw [hynn] at f3 kk6 w1 w2;rw [hya,hyp] at f3;have hLl4:=hid hLl3;replace hK2:=hid hK2;replace hB4:=hid hB4;replace hi4:=hid hi4;replace hb4:=hid hb4;clear hK hK1 hI hB hBp hL4 hno hoZ hZ hZi hrt hym hnin hyl hyu hyn htk hjg hy f1 f4 f5 hyy hyle hy32 hq hZz hZe hyi hynn hya hyp hkf;refine wk ?_;exact aJ _ _ _ (by omega) (CutL (b:=hlen4.out)) ⟨j+1,rfl,hlt,hlen4,hid ⟨_,_,hK2.out⟩,hid hB4.out,hb4.out,hi4.out,rfl⟩
  ·have hje:j=sc.length:=by omega
   subst hje;have g1:¬ (sc.length:Int)<(sc.length:Int):=by omega
   rw [F5] at hK;have hmx:sO l dn tn (sc.map (·.id))=iI l dn tn:=CY dn tn fun z hz=>by
    constructor
    ·intro hm;obtain ⟨w,hw,e⟩:=FF.1 hm;obtain ⟨h1,h2⟩:=(hscm.out w).1 hw;rw [<- ht.out.byI h1 hz e];exact h2
    ·intro hu2;exact FF.2 ⟨z,(hscm.out z).2 ⟨hz,hu2⟩,rfl⟩
   rw [hmx] at hK;have hKr:=hK.lkE (lk':=iI l dn tn) fun z=>by
    rw [FE];constructor
    ·rintro (hz|hz)
     ·obtain ⟨h1,h2⟩:=fT.1 hz;exact FF.2 ⟨z,h1,by rw [if_neg (by rw [h2];decide)]⟩
     ·obtain ⟨w,hw,rfl⟩:=FF.1 hz;obtain ⟨h1,h2⟩:=(hscm.out w).1 hw;exact FF.2 ⟨w,h1,by rw [if_pos h2,hrnE.out]⟩
    ·intro hz;obtain ⟨w,hw,_,e⟩:=sx hz;by_cases hu2:dJ w.nm dn=true
     ·rw [if_pos hu2] at e;exact .inr (FF.2 ⟨w,(hscm.out w).2 ⟨hw,hu2⟩,by rw [e,hrnE.out]⟩)
     ·rw [if_neg hu2] at e;rw [e];exact .inl (fT.2 ⟨hw,by simpa using hu2⟩)
   have hrt:=(ht.out.mov hcm.out).1;obtain ⟨kd2,hkd2⟩:∃ kd2:Int->Int,kd2=fun i=>if i=aH (iI l dn tn) tn.tail then kd1 i+1 else kd1 i:=⟨_,rfl⟩
   have hof:∀ i,OfT iv mn mi nb (iI l dn tn) i->OfT iv mn mi nb l i:=fun i hi=>by
    rcases hi with e|e|e|⟨z,hz,e⟩
    ·exact .inl e
    ·exact .inr (.inl e)
    ·exact .inr (.inr (.inl e))
    ·obtain ⟨w,hw,e2,_⟩:=sx hz;exact .inr (.inr (.inr ⟨w,hw,by rw [e,e2]⟩))
   obtain ⟨x2,hx2⟩:∃ x2,x2={ x with nm:=gq x.nm dn.length tn }:=⟨_,rfl⟩;have hxu:dJ x.nm dn=true:=cc.2 ⟨ht.out.ok x hxl,hod,by rw [hxe];exact List.suffix_refl _⟩;have hx2m:x2∈iI l dn tn:=FF.2 ⟨x,hxl,by rw [if_pos hxu,hx2]⟩;have hx2i:x2.id=xi:=by rw [hx2];exact hxi
   have kk4:Hid (∀ {K:Fw},(∀ L4,Hid (aT L4 iv mn mi nb bn ck ci2 rs2 suf last (iI l dn tn) (iI l dn tn) kd2)->Hid (aF (OfT iv mn mi nb l) L L4)->L4[it]?=some (.cells [.ptr iv 0])->L4[L.length]?=some (.cells [.int .i64 4,dnA dn,dnA tn,.sl (eW v) v.length none])->K (.tup []) L4)->Fv 27 [.ptr it 0,dnA tn,.int .i64 1] L3 K):=@hid _ (by
    intro K q;refine nu htb hcm.out.tne hrt (fun z hz=>⟨z,hz,rfl⟩) (fun z hz=>(hrt.ids z hz).1) hi hKr (by omega) hkb fun L4 hK4 hB4=>?_
    refine q L4 (hid (by rw [hkd2];exact hK4)) (hid (hB.out.trans2 hB4 fun i _=>hof i)) (hB4.get hi fun e=>nit (hof _ e)) (hB4.get hb fun e=>nob (hof _ e)))
   have hkm2:=hid hkd2;clear hkd2 hK hKr hI hB;refine wk ?_;intro L4 hK4 hB4 hi4 hb4;clear kk4 hvw hnn hii hb hi hLl3;have hvw:=hK4.out.v;have hnn:=hK4.out.n;have kk5:Hid (Ctr Try.prog 17 [.sl (eW v) v.length none] (.sl (eW v) v.length none)):=@hid _ (by intro L K q;exact uJ hvl hvz q);rcases hK4.out.node xi with ⟨f1,_⟩|⟨y',n,f1,f4,f5,f2,f3,_⟩
   ·exact absurd (GS.1 f1 x2 hx2m) (by simp [hx2i])
   have hyy:y'=x2:=hrt.byI f4 hx2m (by rw [f5,hx2i]);subst hyy;unfold bv at f3;rw [hx2i] at f3;have hkfi:aN .int (.int .i64 xi)=true:=rfl;have hK5:=hK4.out.cha hx2m v;rw [hx2i] at hK5;have hfin:=h.out (L4.set (nb xi) (.cells [dnA y'.nm,.sl (am (pth y')) y'.nm.length none,atR v,.int .i64 (kd2 xi)])) ci2 rs2 (by
    rw [<- hxi] at hK5 ⊢;refine hK5.toT fun z hz=>?_
    obtain ⟨w,hw,rfl⟩:=FF.1 hz;obtain ⟨u,hu',e2,e3⟩:=sx hw;have h1:=ht.out.movK hcm.out hu';rw [sN];have e4:(if w.id=x.id then { w with av:=v } else w).id=w.id:=by split<;>rfl
    have e5:(if w.id=x.id then { w with av:=v } else w).nm=w.nm:=by split<;>rfl
    rw [e4,e5,hkm2.out,hkm.out];dsimp only;rw [<- e3] at h1;rw [<- e2];exact h1.symm) (by
     rw [FL (fun e=>nit (.inr (.inr (.inr ⟨x,hxl,by rw [hxi];exact e.symm⟩))))];exact hi4) (hB4.out.trans (aF.set _ (.inr (.inr (.inr ⟨x,hxl,by rw [hxi]⟩))) _))
   replace h:=hid hfin;unfold atR at h;obtain ⟨ya,hya⟩:=Fq (atR y'.av);obtain ⟨yp,hyp⟩:=Fq (am (pth y'));obtain ⟨yn,hynn⟩:=Fq (y'.nm);obtain ⟨kq,hkq⟩:=Fq (kd2 xi);rw [hya,hyp,hynn,hkq] at f3;rw [hyp,hynn,hkq] at h;clear hfin hK5 hyp hya hynn hkq f1 f4 f5 hK4 hB4 hrt hof hx2m hx2i hxu hx2 hmx hxi;refine wk ?_;exact aq h.out
end
set_option maxHeartbeats 8000000
set_option maxRecDepth 100000
section
variable {L:List Blk} {iv mn mi it:Nat} {nb bn:Int->Nat} {ck ci:Nat} {rs:List TKy} {suf:List Rdn} {last:Int} {l:List aA}
theorem EO (ht:TOk suf last l) (hln:l.length<=1000000) (hit:L[it]?=some (.cells [.ptr iv 0])) (hc:a6 L iv mn mi nb bn ck ci rs suf last l)
  {k:Int} {dn tn:List Rdn} {v:AV} (hdb:dnB dn) (htb:dnB tn) (ha:cW suf l k dn tn≠0) {K:Fw} (h:K (.int .i64 (cW suf l k dn tn)) L) :
  Fv 14 [.ptr it 0,.agg [.int .i64 k,dnA dn,dnA tn,v]] L K:=by
 have hitl:it<L.length:=(Fx.1 hit).1;have at':∀ X:List Blk,(L++X)[it]?=some (.cells [.ptr iv 0]):=fun X=>by rw [FC hitl];exact hit
 obtain ⟨z,hz⟩:=Fq (cW suf l k dn tn);have kk1:Hid (∀ {X:List Blk} {K:Fw},K (.int .i64 z) (L++X)->Fv 13 [.ptr iv 0,.agg [.int .i64 k,dnA dn,dnA tn,v]] (L++X) K):=@hid _ (by
  intro X K q;exact o6 ht (by omega) (hc.app X) hdb htb (by rw [hz];exact q))
 rw [hz] at ha h;replace h:=hid h;clear hz hc ht hit;refine Fu bH ?_;exact ah rfl h.out
theorem EC (ht:TOk suf last l) (n23:mn≠mi) (hln:l.length<=1000000) (hl0:0<=last) (hl1:last<=1000000) (hit:L[it]?=some (.cells [.ptr iv 0])) (hc:a6 L iv mn mi nb bn ck ci rs suf last l)
  {k:Int} {dn tn:List Rdn} {v:List Atr} (hdb:dnB dn) (htb:dnB tn) (hvl:v.length<=1100000) (hvz:∀ a∈v,a.2.length<=1100000) {K:Fw}
  (h:∀ L' nb' bn' ck' ci' rs',a6 L' iv mn mi nb' bn' ck' ci' rs' suf (doT suf l last k dn tn v).2 (doT suf l last k dn tn v).1->L'[it]?=some (.cells [.ptr iv 0])->aF (OfT iv mn mi nb l) L L'->K (.int .i64 (cW suf l k dn tn)) L') :
  Fv 14 [.ptr it 0,.agg [.int .i64 k,dnA dn,dnA tn,atR v]] L K:=by
 by_cases ha:cW suf l k dn tn=0;rotate_left
 ·unfold doT at h;rw [if_pos ha] at h;exact EO ht hln hit hc hdb htb ha (h L _ _ _ _ _ hc hit (aF.refl L))
 unfold doT at h;rw [if_neg (fun e=>e ha)] at h;rw [ha] at h;by_cases k1:k=1
 ·subst k1;rw [if_pos rfl] at h;exact ES ht n23 hln hl0 hl1 hit hc hdb htb hvl hvz ha h
 rw [if_neg k1] at h;have ha':=ha;unfold cW at ha';by_cases hk:k<1\/4<k
 ·rw [if_pos hk] at ha';exact absurd ha' (by decide)
 rw [if_neg hk,if_neg k1] at ha';cases hx:atE l dn with
 | none=>rw [hx] at ha';simp at ha'
 | some x =>
   rw [hx] at ha';simp only at ha';have hf:aH l dn=x.id:=by unfold aH;rw [hx]
   rw [hf] at h;by_cases k2:k=2
   ·subst k2;rw [if_pos rfl] at h;exact EP ht n23 hln hit hc hdb htb hx ha fun L' ci' rs'=>h L' _ _ _ _ _
   rw [if_neg k2] at h ha';by_cases k3:k=3
   ·subst k3;rw [if_pos rfl] at h;exact ER ht hln hit hc hdb htb hvl hvz hx fun L'=>h L' _ _ _ _ _
   rw [if_neg k3] at h ha';have k4:k=4:=by omega
   subst k4;exact EN ht n23 hln hit hc hdb htb hvl hvz hx ha' fun L' ci' rs'=>h L' _ _ _ _ _
end
end Go.Proofs.Ytobihfefmlgaoaa.Av
set_option maxRecDepth 100000
namespace Go.Proofs.Ytobihfefmlgaoaa.Av
open Go
def mI:LSO:=[Ai 2]
def mH:LSO:=[Ai 3]
def mG:LSO:=[Ad 4 0]
def mF:LSO:=[Aa 5 4,Am 6 5 1,Aa 7 0,Af 8 7,Ap 9 6 8]
def mE:List (af×Kd) :=
 [Ao 12 3,Ao 13 0,Ao 14 4,od 15 (.iaddr 1 (tm 13) (tm 14)) (.read 0 0),Aj 16 1 15 0 0,Ao 17 0,Ao 18 4,od 19 (.bin .add (tm 18) (iv 1)) .pure,
 od 20 (.iaddr 1 (tm 17) (tm 19)) (.read 0 0),Aj 21 1 20 0 0,od 22 (.build [(.str []),(.str [])] [(0,(1,(tm 16))),(1,(1,(tm 21)))]) .pure,
 od 23 (.bslice false 2 1 [(.str []),(.str [])] [(0,(2,(tm 22)))]) (.read 0 0),od 24 (.bslice false 1 1 [(.sl [] 0 (some 0))] [(0,(1,(tm 23)))]) (.read 0 0)]
def lM:List af :=
 [⟨(some 25),(.app 1 1 24 [(.sl [] 0 (some 0))] (tm 12) (tm 24)),none⟩,⟨(some 3),(.mv (tm 25)),none⟩]
def mD:LSO:=[Aa 10 4,Am 11 10 2,Aa 4 11]
def mC:LSO:=[Aa 26 3,Aa 2 26]
def lB:bJ:=⟨27,(.seq (.sreg mI [])
 (.seq (.sreg mH [])
 (.seq (.seq (.sreg mG [])
 (.block 0 (.loop (.seq (.seq (.sreg mF Bc)
 (.cond (tm 9) .skip
 (.exit 0)))
 (.seq (.block 1 (.dregM mE lM [true,false,false,false,false,false,false,false,false,false,false,false,false,false,false]))
 (.sreg mD AZ))))))
 (.seq (.sreg mC AY)
 .ret)))),[(.tmp 2)]⟩
attribute [push_cast] mI mH mG mF mE lM mD mC
theorem rV:ct Try.prog (fun _ _=>1) 18=some lB.raw:=by kernel_rfl
def lW:LSO:=[As 0]
def lV:LSO:=[o1 8 (.bslice false 1 2 [(.str []),(.str [])] [(0,(1,(.av (.str [100,99])))),(1,(1,(.av (.str [122]))))]),Ah 9 18 8,Ah 10 4 9,Aa 7 10,Ar 11 7,Au 12 7,
 Aa 1 11,Aa 2 12]
def lU:LSO:=[Aa 13 2,A1 14 13 0,Aa 15 14,.grp none 15 false
 [Ak 16 15 1,AL 17 15 16]
 18 (tm 17)]
def lT:LSO:=[As 0]
def lS:LSO:=[o1 19 (.bslice false 1 2 [(.str []),(.str [])] [(0,(1,(.av (.str [100,99])))),(1,(1,(.av (.str [122]))))]),Ah 20 18 19,
 o1 21 (.bslice false 1 4 [(.str []),(.str []),(.str []),(.str [])] [(0,(1,(.av (.str [111,117])))),(1,(1,(.av (.str [98])))),(2,(1,(.av (.str [100,99])))),(3,(1,(.av (.str [122]))))]),
 Ah 22 18 21,
 o1 23 (.bslice false 1 6 [(.str []),(.str []),(.str []),(.str []),(.str []),(.str [])] [(0,(1,(.av (.str [99,110])))),(1,(1,(.av (.str [97])))),(2,(1,(.av (.str [111,117])))),(3,(1,(.av (.str [98])))),(4,(1,(.av (.str [100,99])))),(5,(1,(.av (.str [122]))))]),
 Ah 24 18 23,
 o1 25 (.bslice false 1 4 [(.str []),(.str []),(.str []),(.str [])] [(0,(1,(.av (.str [111,117])))),(1,(1,(.av (.str [97])))),(2,(1,(.av (.str [100,99])))),(3,(1,(.av (.str [122]))))]),
 Ah 26 18 25,
 o1 27 (.bslice false 1 4 [(.sl [] 0 (some 0)),(.sl [] 0 (some 0)),(.sl [] 0 (some 0)),(.sl [] 0 (some 0))] [(0,(1,(tm 20))),(1,(1,(tm 22))),(2,(1,(tm 24))),(3,(1,(tm 26)))]),
 Af 28 27,Ad 29 0]
def lR:LSO:=[Ap 30 29 28]
def lQ:LSO:=[An 31 1 27 29,Ab 32 1 31,Aa 4 32]
def lP:LSO:=[Aa 33 1,Aa 34 4,o1 35 (.build [(.int .i64 0),(.sl [] 0 (some 0)),(.sl [] 0 (some 0)),(.sl [] 0 (some 0))] [(0,(1,(iv 1))),(1,(1,(tm 34)))]),
 Aw 36 14 33 35,A1 37 36 0]
def lO:LSO:=[As 0]
def lN:LSO:=[Am 38 29 1,Aa 29 38]
def kT:LSO:=[Aa 39 1,Ae 40 39,Ac 41 0 40,Ab 42 1 41,o1 43 (.call 11 [(tm 42),(iv 1),(iv 2)]),Aa 5 43]
def kR:LSO:=[Aa 44 1,
 o1 45 (.bslice false 1 4 [(.str []),(.str []),(.str []),(.str [])] [(0,(1,(.av (.str [79,85])))),(1,(1,(.av (.str [66])))),(2,(1,(.av (.str [100,99])))),(3,(1,(.av (.str [122]))))]),
 Ah 46 18 45,
 o1 47 (.bslice false 1 6 [(.str []),(.str []),(.str []),(.str []),(.str []),(.str [])] [(0,(1,(.av (.str [111,117])))),(1,(1,(.av (.str [120])))),(2,(1,(.av (.str [111,117])))),(3,(1,(.av (.str [97])))),(4,(1,(.av (.str [100,99])))),(5,(1,(.av (.str [122]))))]),
 Ah 48 18 47,o1 49 (.build [(.int .i64 0),(.sl [] 0 (some 0)),(.sl [] 0 (some 0)),(.sl [] 0 (some 0))] [(0,(1,(iv 4))),(1,(1,(tm 46))),(2,(1,(tm 48)))]),Aw 50 14 44 49,Aa 6 50]
def kQ:LSO:=[Aa 51 5,Af 52 51,Aq 53 52 4,Aa 54 53,.grp none 54 true
 [Ag 55 54 5,og 56 54 true (.iaddr 1 (tm 55) (iv 1)),AB 57 54 1 56,A0 58 54 57 4]
 59 (tm 58),Aa 60 59,.grp none 60 true
 [Ag 61 60 5,og 62 60 true (.iaddr 1 (tm 61) (iv 3)),AB 63 60 1 62,A0 64 60 63 3]
 65 (tm 64),Aa 66 65,.grp none 66 true
 [Ag 67 66 6,A0 68 66 67 0]
 69 (tm 68),Aa 70 69,.grp none 70 true
 [Ag 71 70 1,og 72 70 true (.nilchk (tm 71)),og 73 70 true (.faddr 0 (tm 72)),AB 74 70 1 73,
 og 75 70 true (.bslice false 1 8 [(.str []),(.str []),(.str []),(.str []),(.str []),(.str []),(.str []),(.str [])] [(0,(1,(.av (.str [99,110])))),(1,(1,(.av (.str [97])))),(2,(1,(.av (.str [111,117])))),(3,(1,(.av (.str [120])))),(4,(1,(.av (.str [111,117])))),(5,(1,(.av (.str [97])))),(6,(1,(.av (.str [100,99])))),(7,(1,(.av (.str [122]))))]),
 og 76 70 true (.call 18 [(tm 75)]),AI 77 70 8 74 76,A0 78 70 77 3]
 79 (tm 78),Aa 0 79]
def kr:bJ:=⟨80,(.seq (.sreg lW [])
 (.seq (.sreg lV [true,true,false,false,false,false,false,false])
 (.seq (.seq (.sreg lU Ba)
 (.cond (tm 18) (.seq (.sreg lT [])
 .ret)
 .skip))
 (.seq (.seq (.sreg lS [true,true,true,false,false,false,false,false,false,false,false])
 (.block 0 (.loop (.seq (.sreg lR [])
 (.seq (.cond (tm 30) .skip
 (.exit 0))
 (.seq (.block 1 (.seq (.sreg lQ AZ)
 (.seq (.sreg lP Bc)
 (.cond (tm 37) (.seq (.sreg lO [])
 .ret)
 .skip))))
 (.sreg lN AY)))))))
 (.seq (.sreg kT Bd)
 (.seq (.sreg kR Be)
 (.seq (.sdreg kQ [.pure,(.read 0 0),.pure,.pure,.pure,(.read 0 0),(.read 0 0),.pure,.pure,.pure,.pure,(.read 0 0),(.read 0 0),.pure,.pure,.pure,.pure,.pure,.pure,.pure,.pure,(.read 0 0),.pure,(.read 0 0),(.read 0 0),(.read 0 0)] Bq)
 .ret))))))),[(.tmp 0)]⟩
attribute [push_cast] lW lV lU lT lS lR lQ lP lO lN kT kR kQ
theorem qS:ct Try.prog (fun _ _=>1) 6=some kr.raw:=by kernel_rfl
attribute [push_cast] lB kr
variable {L:List Blk} {K:Fw}
set_option maxHeartbeats 8000000
set_option maxRecDepth 100000
def ar (ps:List Ava):List Rdn:=ps.map fun p=>[p]
theorem zo {ps:List Ava} {j:Nat} (h:j<ps.length):(bE ps).getD (j * 2) .undef=.str (ps.getD j ([],[])).1/\(bE ps).getD (j * 2+1) .undef=.str (ps.getD j ([],[])).2:=by
 have h5:=jq h;have h6:j * 2+2<=(bE ps).length:=by rw [dS];omega
 have h7:∀ i,i<2->(((bE ps).drop (j * 2)).take 2).getD i .undef=(bE ps).getD (j * 2+i) .undef:=fun i hi=>by
  rw [F4,F4,Gk hi,Gq]
 refine ⟨?_,?_⟩
 ·have:=h7 0 (by omega);rw [h5] at this;rw [GJ] at this;rw [<- this];rfl
 ·have:=h7 1 (by omega);rw [h5] at this;rw [<- this];rfl
theorem oL {ps:List Ava} (hp:ps.length<=1000) {n:Nat} (hn:n=ps.length * 2) {cap:Option Nat} {A:List AV} (hA:A=bE ps) (h:K (dnA (ar ps)) L) :
  Fv 18 [.sl A n cap] L K:=by
 subst hA;have hel:=dS ps;rw [<- hn] at hel;replace hn:=hid hn;replace h:=hid h;refine Fu rV ?_;refine iD (l:=[]) (n:=0) 3 1 rfl (GP 1).symm ?_;refine aM (fun m T' L'=>∃ (j i:Nat) (C:List AV) (X:List Blk),m=ps.length - j/\j<=ps.length/\Hid (i=j * 2)/\Hid (AV.frzL C=(ar (ps.take j)).map aI)/\T'=[(4,.int .i64 (i:Int)),(3,.gsl C j L.length 1),(0,.sl (bE ps) n cap)]/\L'=L++(.spare j 1::X)) (CutS (b:=by simp)) ⟨0,0,[],[],rfl,FW _,hid rfl,hid rfl,rfl,by simp⟩ ?_;rintro _ _ _ ⟨j,i,C,X,rfl,hj,hi,hC,rfl,rfl⟩;have hn0:=hn.out;have hi0:=hi.out;by_cases hjl:j<ps.length
 ·have j0:(i:Int)<(n:Int):=by omega
  have j1:(i:Int)+1<(n:Int):=by omega
  have j2:=Ft i (by omega);have j3:IntKind.i64.wrap ((i:Int)+2)=((i+2:Nat):Int):=by rw [aw (by omega) (by omega)];omega
  obtain ⟨e1,e2⟩:=zo hjl;rw [<- hi0] at e1 e2;have j4:((i:Int)+1).toNat=i+1:=by omega
  obtain ⟨⟨ty,va⟩,ha⟩:∃ a,ps.getD j ([],[])=a:=⟨_,rfl⟩;rw [ha] at e1 e2;have hstep:Hid (AV.frzL (C++[.sl [.str ty,.str va] 1 none])=(ar (ps.take (j+1))).map aI):=hid (by
   have:ps[j]=(ty,va):=by rw [<- ha];simp [hjl]
   rw [Gc hjl,this];unfold ar at hC ⊢;rw [FZ,FZ,<- hC.out,AV.frzL_eq,AV.frzL_eq,FZ];rfl)
  have i2:Hid (i+2=(j+1) * 2):=hid (by omega);clear hi0 hn0 ha hC;refine wk ?_;exact aJ _ _ _ (by omega) (CutL (b:=by simp)) ⟨j+1,i+2,_,_,rfl,hjl,i2,hstep,rfl,rfl⟩
 ·have hje:j=ps.length:=by omega
  have j1:¬ (i:Int)+1<(n:Int):=by omega
  have j2:=Ft i (by omega);subst hje;have hC2:=hC.out;rw [F5] at hC2;have hol:(ar ps).length=ps.length:=by simp [ar]
  clear hi0 hn0 hC;refine wk ?_;refine cQ ?_;simp only [AV.frz,hC2];refine ah ?_ ?_
  ·simp only [AV.refs,iH]
  ·have:=h.out;unfold dnA at this;rw [hol] at this;exact this
def aw1:List Ava:=[([100,99],[122])]
def aw2:List Ava:=[([111,117],[98]),([100,99],[122])]
def aw3:List Ava:=[([99,110],[97]),([111,117],[98]),([100,99],[122])]
def aw4:List Ava:=[([111,117],[97]),([100,99],[122])]
def aw5:List Ava:=[([79,85],[66]),([100,99],[122])]
def aw6:List Ava:=[([111,117],[120]),([111,117],[97]),([100,99],[122])]
def aw7:List Ava:=[([99,110],[97]),([111,117],[120]),([111,117],[97]),([100,99],[122])]
def awL (n:Nat):List aA:=([⟨1,ar aw1,[]⟩,⟨2,ar aw2,[]⟩,⟨3,ar aw3,[]⟩,⟨4,ar aw4,[]⟩]:List aA).take n
theorem Ce:(prS (ar aw1)).2=0:=by kernel_rfl
theorem DM:cW (ar aw1) (awL 0) 1 (ar aw1) []=0:=by kernel_rfl
theorem DL:cW (ar aw1) (awL 1) 1 (ar aw2) []=0:=by kernel_rfl
theorem DK:cW (ar aw1) (awL 2) 1 (ar aw3) []=0:=by kernel_rfl
theorem DJ:cW (ar aw1) (awL 3) 1 (ar aw4) []=0:=by kernel_rfl
theorem E4:cW (ar aw1) (awL 4) 4 (ar aw5) (ar aw6)=0:=by kernel_rfl
theorem vj {k:Int} (l:List aA) (last:Int) (d:List Rdn) (h:cW (ar aw1) l 1 d []=0):doT (ar aw1) l last 1 d [] ([]:List Atr)=(l++[⟨last+1,d,[]⟩],last+1):=by
 unfold doT;rw [if_neg (fun e=>e h),if_pos rfl];rfl
theorem DI:doT (ar aw1) (awL 0) 0 1 (ar aw1) [] ([]:List Atr)=(awL 1,1):=vj (k:=0) _ _ _ DM
theorem DH:doT (ar aw1) (awL 1) 1 1 (ar aw2) [] ([]:List Atr)=(awL 2,2):=vj (k:=0) _ _ _ DL
theorem DG:doT (ar aw1) (awL 2) 2 1 (ar aw3) [] ([]:List Atr)=(awL 3,3):=vj (k:=0) _ _ _ DK
theorem DF:doT (ar aw1) (awL 3) 3 1 (ar aw4) [] ([]:List Atr)=(awL 4,4):=vj (k:=0) _ _ _ DJ
theorem DE:TOk (ar aw1) 0 (awL 0):=TOk.nil Ce (by decide)
theorem DD:TOk (ar aw1) 1 (awL 1):=by have:=(DE.done (HH 0) 1 (ar aw1) [] ([]:List Atr)).1;rwa [DI] at this
theorem DC:TOk (ar aw1) 2 (awL 2):=by have:=(DD.done (by decide) 1 (ar aw2) [] ([]:List Atr)).1;rwa [DH] at this
theorem DB:TOk (ar aw1) 3 (awL 3):=by have:=(DC.done (by decide) 1 (ar aw3) [] ([]:List Atr)).1;rwa [DG] at this
theorem ye:TOk (ar aw1) 4 (awL 4):=by have:=(DB.done (by decide) 1 (ar aw4) [] ([]:List Atr)).1;rwa [DF] at this
theorem EZ:qz (awL 4) 1=some ⟨1,ar aw1,[]⟩:=by kernel_rfl
theorem Fm:(xa [] ((awL 4).filter (dE ⟨1,ar aw1,[]⟩ 2))).map (·.id)=[1,4,2,3]:=by kernel_rfl
theorem Fl:scT (awL 4) 1 2=[1,4,2,3]:=by
 unfold scT;rw [EZ];dsimp only;rw [if_neg (by decide),<- ye.ins];exact Fm
theorem Fn:aH (doT (ar aw1) (awL 4) 4 4 (ar aw5) (ar aw6) ([]:List Atr)).1 (ar aw7)=3:=by kernel_rfl
theorem m8 (ps:List Ava) (h:(decide (ps.length<=1000) && ps.all fun p=>decide (p.1.length<=1000))=true):dnM (ar ps):=by
 rw [FG,decide_eq_true_eq,FH] at h;refine ⟨by simp [ar];omega,fun r hr=>?_⟩;obtain ⟨p,hp,rfl⟩:=FF.1 hr;refine ⟨by simp,fun a ha=>?_⟩;rw [FM.1 ha];have:=h.2 p hp;rw [decide_eq_true_eq] at this;omega
theorem vr {P:Program} {f:FuncId} {b:Bool} (h:ae P f [] [] fun v _=>v=.bool b) (hk:K (.bool b) L):ae P f [] L K:=fun w0 S0 E w vs hR hv=>by
 have hR0:Rel w ⟨fun _=>False,0⟩ { mem:=E.mem,loc:=fun _=>none,tok:=fun _=>none } [] w:=by
  refine ⟨hR.mem,?_,fun _ _=>rfl,?_,?_,fun _ _=>rfl,?_,?_,?_,fun _ _ _=>rfl,Fz _,rfl,rfl,rfl,hR.glob,hR.gsz⟩
  all_goals intros;simp_all
 have key:∀ {E':Env} {L':List Blk} {w':World},Rel w ⟨fun _=>False,0⟩ E' L' w'->tY w w':=fun k=>⟨fun b hb=>k.frame b hb (fun x=>x),k.size,k.os,k.tape,k.output⟩
 have hv0:VRL { mem:=E.mem,loc:=fun _=>none,tok:=fun _=>none } [] vs:=by
  simpa only [VRL] using hv
 rcases h w _ _ w vs hR0 hv0 with ⟨h1,h2⟩|⟨E',v,av,L',w',h1,h2,h3,h4,h5⟩
 ·refine .inl ⟨h1,h2.mono fun e w' ⟨E',v,av,L',a,b,c,d,r⟩=>⟨E,v,_,L,a,.refl E,hk,?_,hR.grown (key r)⟩⟩;subst c;simpa only [VR] using d
 ·refine .inr ⟨E,v,_,L,w',h1,.refl E,hk,?_,hR.grown (key h5)⟩;subst h3;simpa only [VR] using h4
theorem a6.start (L:List Blk) (d:List Rdn):a6 (L++[.map [] 0,.map [] 0,.cells [dnA d,.lmap L.length,.lmap (L.length+1),.int .i64 0],.cells [.ptr (L.length+2) 0]]) (L.length+2) L.length (L.length+1) (fun _=>0) (fun _=>0) 0 0 [] d 0 []:=by
 refine ⟨?_,?_,?_,?_,?_,?_,?_,?_⟩
 ·rw [FJ (by omega)];simp
 ·rw [FJ (by omega)];simp
 ·rw [FJ (by omega)];simp
 ·simp
 ·simp
 ·simp
 ·simp
 ·simp
def awN (j:Nat):List Ava:=([aw1,aw2,aw3,aw4]:List (List Ava)).getD j []
theorem Fo:∀ (j:Nat),j<4->cW (ar aw1) (awL j) 1 (ar (awN j)) []=0/\doT (ar aw1) (awL j) j 1 (ar (awN j)) [] ([]:List Atr)=(awL (j+1),((j+1:Nat):Int))/\TOk (ar aw1) j (awL j)/\dnM (ar (awN j))
 | 0,_=>⟨DM,DI,DE,m8 aw1 (by decide)⟩
 | 1,_=>⟨DL,DH,DD,m8 aw2 (by decide)⟩
 | 2,_=>⟨DK,DG,DC,m8 aw3 (by decide)⟩
 | 3,_=>⟨DJ,DF,DB,m8 aw4 (by decide)⟩
 | n+4,h=>absurd h (by omega)
theorem vk (j:Nat):(awL j).length<=1000:=by unfold awL;rw [GC];simp;omega
theorem zI {suf:List Rdn} {last:Int} {l:List aA} {L:List Blk} {it iv mn mi:Nat} {nb bn:Int->Nat} {ck ci:Nat} {rs:List TKy} (ht:TOk suf last l) (n23:mn≠mi) (hln:l.length<=1000000) (hl0:0<=last) (hl1:last<=1000000) (hit:L[it]?=some (.cells [.ptr iv 0])) (hc:a6 L iv mn mi nb bn ck ci rs suf last l)
  {k:Int} {dn tn:List Rdn} (hdb:dnB dn) (htb:dnB tn) {a b:AV} (ha:a.frz=dnA tn) (hb:b.frz=atR []) {K:Fw}
  (h:∀ L' nb' bn' ck' ci' rs',a6 L' iv mn mi nb' bn' ck' ci' rs' suf (doT suf l last k dn tn ([]:List Atr)).2 (doT suf l last k dn tn ([]:List Atr)).1->L'[it]?=some (.cells [.ptr iv 0])->L.length<=L'.length->K (.int .i64 (cW suf l k dn tn)) L') :
  Fv 14 [.ptr it 0,.agg [.int .i64 k,dnA dn,a,b]] L K:=by
 refine nC ?_;have:=EC ht n23 hln hl0 hl1 hit hc (k:=k) hdb htb (v:=[]) (by simp) (by simp) (K:=K) (fun L' nb' bn' ck' ci' rs' q1 q2 q3=>h L' nb' bn' ck' ci' rs' q1 q2 q3.len);have e:AV.frzL [AV.ptr it 0,.agg [.int .i64 k,dnA dn,a,b]]=[AV.ptr it 0,.agg [.int .i64 k,dnA dn,dnA tn,atR []]]:=by
  simp only [AV.frzL,AV.frz,ha,hb];simp only [dnA,AV.frz,kz]
 rw [e];exact this
theorem Cd:Fv 6 [] [] fun v _=>v=.bool true:=by
 have kk1:Hid (∀ {c:Option Nat} {L:List Blk} {K:Fw},K (dnA (ar aw1)) L->Fv 18 [.sl [.str [100,99],.str [122]] 2 c] L K):=@hid _ (by intro c L K q;exact oL (ps:=aw1) (by decide) rfl rfl q);have kk2:Hid (∀ {c:Option Nat} {L:List Blk} {K:Fw},K (dnA (ar aw2)) L->Fv 18 [.sl [.str [111,117],.str [98],.str [100,99],.str [122]] 4 c] L K):=@hid _ (by intro c L K q;exact oL (ps:=aw2) (by decide) rfl rfl q);have kk3:Hid (∀ {c:Option Nat} {L:List Blk} {K:Fw},K (dnA (ar aw3)) L->Fv 18 [.sl [.str [99,110],.str [97],.str [111,117],.str [98],.str [100,99],.str [122]] 6 c] L K):=@hid _ (by intro c L K q;exact oL (ps:=aw3) (by decide) rfl rfl q);have kk4:Hid (∀ {c:Option Nat} {L:List Blk} {K:Fw},K (dnA (ar aw4)) L->Fv 18 [.sl [.str [111,117],.str [97],.str [100,99],.str [122]] 4 c] L K):=@hid _ (by intro c L K q;exact oL (ps:=aw4) (by decide) rfl rfl q);have kk5:Hid (∀ {c:Option Nat} {L:List Blk} {K:Fw},K (dnA (ar aw5)) L->Fv 18 [.sl [.str [79,85],.str [66],.str [100,99],.str [122]] 4 c] L K):=@hid _ (by intro c L K q;exact oL (ps:=aw5) (by decide) rfl rfl q);have kk6:Hid (∀ {c:Option Nat} {L:List Blk} {K:Fw},K (dnA (ar aw6)) L->Fv 18 [.sl [.str [111,117],.str [120],.str [111,117],.str [97],.str [100,99],.str [122]] 6 c] L K):=@hid _ (by intro c L K q;exact oL (ps:=aw6) (by decide) rfl rfl q);have kk7:Hid (∀ {c:Option Nat} {L:List Blk} {K:Fw},K (dnA (ar aw7)) L->Fv 18 [.sl [.str [99,110],.str [97],.str [111,117],.str [120],.str [111,117],.str [97],.str [100,99],.str [122]] 8 c] L K):=@hid _ (by intro c L K q;exact oL (ps:=aw7) (by decide) rfl rfl q);have m1:=(m8 aw1 (by decide)).b;have m5:=(m8 aw5 (by decide)).b;have m6:=(m8 aw6 (by decide)).b;have m7:=(m8 aw7 (by decide)).b;have kN:Hid (∀ {K:Fw},(∀ L',Hid (∃ nb bn ck ci rs,a6 L' 2 0 1 nb bn ck ci rs (ar aw1) ((0:Nat):Int) (awL 0))->L'[3]?=some (.cells [.ptr 2 0])->K (.tup [.ptr 3 0,.int .i64 0]) L')->Fv 4 [dnA (ar aw1)] [] K):=@hid _ (by
  intro K q;refine xO m1 (fun e=>absurd Ce e) (fun e=>absurd e (by decide)) fun _ _=>?_
  exact q _ (hid ⟨_,_,_,_,_,a6.start [] _⟩) rfl)
 have kD:Hid (∀ {j:Nat} {L':List Blk} {c1 c2:Option Nat} {d:AV} {K:Fw},j<4->d=dnA (ar (awN j))->Hid (∃ nb bn ck ci rs,a6 L' 2 0 1 nb bn ck ci rs (ar aw1) (j:Int) (awL j))->L'[3]?=some (.cells [.ptr 2 0])->(∀ L2,Hid (∃ nb bn ck ci rs,a6 L2 2 0 1 nb bn ck ci rs (ar aw1) ((j+1:Nat):Int) (awL (j+1)))->L2[3]?=some (.cells [.ptr 2 0])->L'.length<=L2.length->K (.int .i64 0) L2)->Fv 14 [.ptr 3 0,.agg [.int .i64 1,d,.sl [] 0 c1,.sl [] 0 c2]] L' K):=@hid _ (by
  rintro j L' c1 c2 _ K hj rfl ⟨nb,bn,ck,ci,rs,hc⟩ hit q;obtain ⟨q1,q2,q3,q4⟩:=Fo j hj;refine zI q3 (by decide) (by have:=vk j;omega) (by omega) (by omega) hit hc q4.b ⟨by simp,by simp⟩ (tn:=[]) rfl rfl fun L2 nb' bn' ck' ci' rs' r1 r2 r3=>?_
  rw [q2] at r1;rw [q1];exact q _ (hid ⟨_,_,_,_,_,r1⟩) r2 r3)
 refine Fu qS ?_;refine kN.out fun L1 hc1 hi1=>?_
 have kS:Hid (∀ {L':List Blk} {K:Fw},Hid (∃ nb bn ck ci rs,a6 L' 2 0 1 nb bn ck ci rs (ar aw1) ((4:Nat):Int) (awL 4))->K (.sl [.int .i64 1,.int .i64 4,.int .i64 2,.int .i64 3] 4 none) L'->Fv 11 [.ptr 2 0,.int .i64 1,.int .i64 2] L' K):=@hid _ (by
  rintro L' K ⟨nb,bn,ck,ci,rs,hc⟩ q;exact sh ye (by have:=vk 4;omega) hc (by rw [Fl];exact q))
 have kM:Hid (∀ {L':List Blk} {c2:Option Nat} {K:Fw},Hid (∃ nb bn ck ci rs,a6 L' 2 0 1 nb bn ck ci rs (ar aw1) ((4:Nat):Int) (awL 4))->L'[3]?=some (.cells [.ptr 2 0])->(∀ L2,Hid (∃ nb bn ck ci rs,a6 L2 2 0 1 nb bn ck ci rs (ar aw1) (doT (ar aw1) (awL 4) 4 4 (ar aw5) (ar aw6) ([]:List Atr)).2 (doT (ar aw1) (awL 4) 4 4 (ar aw5) (ar aw6) ([]:List Atr)).1)->L2[3]?=some (.cells [.ptr 2 0])->L'.length<=L2.length->K (.int .i64 0) L2)->Fv 14 [.ptr 3 0,.agg [.int .i64 4,dnA (ar aw5),dnA (ar aw6),.sl [] 0 c2]] L' K):=@hid _ (by
  rintro L' c2 K ⟨nb,bn,ck,ci,rs,hc⟩ hit q;refine zI ye (by decide) (by have:=vk 4;omega) (by omega) (by omega) hit hc m5 m6 (by simp only [dnA,AV.frz,kz]) rfl fun L2 nb' bn' ck' ci' rs' r1 r2 r3=>?_
  rw [E4];exact q _ (hid ⟨_,_,_,_,_,r1⟩) r2 r3)
 have kF:Hid (∀ {L':List Blk} {K:Fw},Hid (∃ nb bn ck ci rs,a6 L' 2 0 1 nb bn ck ci rs (ar aw1) (doT (ar aw1) (awL 4) 4 4 (ar aw5) (ar aw6) ([]:List Atr)).2 (doT (ar aw1) (awL 4) 4 4 (ar aw5) (ar aw6) ([]:List Atr)).1)->K (.int .i64 3) L'->Fv 8 [.ptr 2 0,dnA (ar aw7)] L' K):=@hid _ (by
  rintro L' K ⟨nb,bn,ck,ci,rs,hc⟩ q;exact mX m7 (ye.done (by decide) 4 _ _ _).1 hc (by rw [Fn];exact q))
 clear m1 m5 m6 m7;refine wk ?_;refine aM (fun m T' L'=>∃ j:Nat,m=4 - j/\j<=4/\Hid (∃ nb bn ck ci rs,a6 L' 2 0 1 nb bn ck ci rs (ar aw1) (j:Int) (awL j))/\L'[3]?=some (.cells [.ptr 2 0])/\Hid (L1.length<=L'.length)/\T'=[(29,.int .i64 (j:Int)),(28,.int .i64 4),(27,.sl [dnA (ar aw1),dnA (ar aw2),dnA (ar aw3),dnA (ar aw4)] 4 (some 4)),(1,.ptr 3 0)]) (CutS (b:=Fz _)) ⟨0,rfl,FW _,hc1,hi1,hid (Fz _),rfl⟩ ?_;rintro _ _ L' ⟨j,rfl,hj,hc,hi,hle,rfl⟩;by_cases hjl:j<4
 ·have j1:(j:Int)<4:=by omega
  have j2:=Ft j (by omega);have e1:([dnA (ar aw1),dnA (ar aw2),dnA (ar aw3),dnA (ar aw4)]:List AV).getD j .undef=dnA (ar (awN j)):=by
   match j,hjl with
   | 0,_=>rfl
   | 1,_=>rfl
   | 2,_=>rfl
   | 3,_=>rfl
  obtain ⟨NS,hNS⟩:=Fq (([dnA (ar aw1),dnA (ar aw2),dnA (ar aw3),dnA (ar aw4)]:List AV));have e2:NS.length=4:=by rw [<- hNS];rfl
  rw [hNS] at e1;rw [hNS];clear hNS;refine wk ?_;refine kD.out hjl rfl hc hi fun L2 hc2 hi2 hl2=>?_
  refine wk ?_;exact aJ _ _ _ (by omega) (CutL (b:=F3 hle.out hl2)) ⟨j+1,rfl,hjl,hc2,hi2,hid (F3 hle.out hl2),rfl⟩
 ·have hje:j=4:=by omega
  subst hje;have j1:¬ ((4:Nat):Int)<4:=by omega
  refine wk ?_;refine kS.out hc ?_;refine wk ?_;refine kM.out hc hi fun L2 hc2 hi2 hl2=>?_
  clear kk1 kk2 kk3 kk4;have kk1:Hid (∀ {K:Fw},K (.int .i64 3) L2->Fv 8 [.ptr 2 0,dnA (ar aw7)] L2 K):=@hid _ (fun {K} q=>kF.out hc2 q);clear kS kM kF kD kN;refine wk ?_;exact aq rfl
theorem Dm (h:K (.bool true) L):Fv 6 [] L K:=vr Cd h
theorem Db {uk:Int} {dn tn v:AV} (h1:dn.one=true) (h2:tn.one=true) (h3:v.one=true) (h:K (.int .i64 1) L) :
  Fv 14 [.nilptr,.agg [.int .i64 uk,dn,tn,v]] L K:=by
 replace h:=hid h;refine Fu bH ?_;exact ah rfl h.out
theorem zq {uk:Int} {dn tn v:AV} (h1:dn.one=true) (h2:tn.one=true) (h3:v.one=true) (h:K (.int .i64 1) L) :
  Fv 13 [.nilptr,.agg [.int .i64 uk,dn,tn,v]] L K:=by
 replace h:=hid h;refine Fu ay ?_;exact ah rfl h.out
theorem xw {id:Int} (h:K (.tup [.sl [] 0 none,.sl [] 0 none]) L) :
  Fv 5 [.nilptr,.int .i64 id] L K:=by
 replace h:=hid h;refine Fu nh ?_;exact cQ (aq h.out)
theorem BE (h:K (.int .i64 0) L) :
  Fv 7 [.nilptr] L K:=by
 replace h:=hid h;refine Fu oU ?_;exact aq h.out
theorem zh {d:AV} (h1:d.one=true) (h:K (.int .i64 0) L) :
  Fv 8 [.nilptr,d] L K:=by
 replace h:=hid h;refine Fu a8 ?_;exact aq h.out
theorem yP {id:Int} (h:K (.int .i64 0) L) :
  Fv 9 [.nilptr,.int .i64 id] L K:=by
 replace h:=hid h;refine Fu nF ?_;exact aq h.out
theorem wP {id sc:Int} (h:K (.sl [] 0 none) L) :
  Fv 11 [.nilptr,.int .i64 id,.int .i64 sc] L K:=by
 replace h:=hid h;refine Fu bD ?_;exact cQ (ah rfl h.out)
theorem zO (h:K (.sl [] 0 none) L) :
  Fv 12 [.nilptr] L K:=by
 replace h:=hid h;refine Fu l7 ?_;exact cQ (aq h.out)
theorem vc:dnB []:=by unfold dnB;simp
theorem BB {c:Option Nat} (h:K (.sl [] 0 none) L) :
  Fv 10 [.nilptr,.sl [] 0 c] L K:=by
 replace h:=hid h;obtain ⟨⟨s,e⟩,hse⟩:∃ q,prS []=q:=⟨_,rfl⟩;have kk1:Hid (Ctr Try.prog 15 [.sl [] 0 c] (.tup [.str s,.int .i64 e])):=@hid _ (by intro L K q;exact lm (d:=[]) vc.1 vc.2 (by rw [hse];exact q));clear hse;refine Fu ly ?_;exact cQ (aq h.out)
theorem Bw {c:Option Nat} (h:K (.tup [.nilptr,.int .i64 2]) L) :
  Fv 4 [.sl [] 0 c] L K :=
 xO (d:=[]) vc (fun e=>absurd (by unfold OkD;kernel_rfl) e) (fun _=>h) (fun _ e=>absurd rfl e)
theorem yz {K:Fw} (h:K (.bool true) []):Fv 3 [] [] K:=by
 replace h:=hid h;have kk1:Hid (Ctr Try.prog 6 [] (.bool true)):=hid fun q=>Dm q
 have kk2:Hid (∀ {L:List Blk} {K:Fw} {f:Nat} {args:List AV} (q:K (.int .i64 0) L) (hf:(f=7/\args=[.nilptr])\/(f=8/\args=[.nilptr,.sl [] 0 (some 0)])\/(f=9/\args=[.nilptr,.int .i64 1]):=by first|exact Or.inl ⟨rfl,rfl⟩|exact Or.inr (Or.inl ⟨rfl,rfl⟩)|exact Or.inr (Or.inr ⟨rfl,rfl⟩)),Fv f args L K):=by
  refine @hid _ ?_;rintro L K f args q (⟨rfl,rfl⟩|⟨rfl,rfl⟩|⟨rfl,rfl⟩)
  ·exact BE q
  ·exact zh rfl q
  ·exact yP q
 have kk3:Hid (∀ {L:List Blk} {K:Fw} {f:Nat} {args:List AV} (q:K (.sl [] 0 none) L) (hf:(f=12/\args=[.nilptr])\/(f=10/\args=[.nilptr,.sl [] 0 (some 0)])\/(f=11/\args=[.nilptr,.int .i64 1,.int .i64 2]):=by first|exact Or.inl ⟨rfl,rfl⟩|exact Or.inr (Or.inl ⟨rfl,rfl⟩)|exact Or.inr (Or.inr ⟨rfl,rfl⟩)),Fv f args L K):=by
  refine @hid _ ?_;rintro L K f args q (⟨rfl,rfl⟩|⟨rfl,rfl⟩|⟨rfl,rfl⟩)
  ·exact zO q
  ·exact BB q
  ·exact wP q
 have kk4:Hid (∀ {L:List Blk} {K:Fw} {f:Nat} {uk:Int} (q:K (.int .i64 1) L) (hf:f=13\/f=14:=by first|exact Or.inl rfl|exact Or.inr rfl),Fv f [.nilptr,.agg [.int .i64 uk,.sl [] 0 (some 0),.sl [] 0 (some 0),.sl [] 0 (some 0)]] L K):=by
  refine @hid _ ?_;rintro L K f uk q (rfl|rfl)
  ·exact zq rfl rfl rfl q
  ·exact Db rfl rfl rfl q
 refine Fu oW ?_;refine Bw ?_;refine sk ?_;refine wk ?_;refine xw ?_;refine sk ?_;refine wk ?_;exact aq h.out
end Go.Proofs.Ytobihfefmlgaoaa.Av
