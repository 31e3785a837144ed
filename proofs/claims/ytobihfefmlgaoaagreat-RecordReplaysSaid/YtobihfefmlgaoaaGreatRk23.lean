/- Joined texts of the walk, made small by a program. -/
import Derived.Test.YtobihfefmlgaoaaGreatRk21
import Derived.Test.YtobihfefmlgaoaaGreatRk20
import Derived.Test.YtobihfefmlgaoaaGreatRk22
import Derived.Test.YtobihfefmlgaoaaGreatRk4
import Derived.Test.YtobihfefmlgaoaaGreatRows
import Derived.KernelRfl
import Derived.Test.YtobihfefmlgaoaaGreatRk14
set_option linter.unusedSimpArgs false
set_option linter.unusedVariables false
namespace Go.Proofs.YtobihfefmlgaoaaGreat.Av
open Go
set_option maxHeartbeats 8000000
set_option maxRecDepth 100000
theorem ZQ {suf:List Rdn} {last:Int} {l:List aB} (ht:TOk suf last l) (hn:l.length<=1000000) {rt:Nat} {c:Option Nat} {b:AV} {L:List Blk} (hL:L[rt]?=some (.cells [dnA suf,.sl (aA l) l.length c,b]))
  {dn tn:List Rdn} {k:Int} {v:AV} (hdm:dnM dn) (htm:dnM tn) {K:afC} (h:K (.int .i64 (d8 suf l k dn tn)) L) :
  afB 45 [.ptr rt 0,.agg [.int .i64 k,dnA dn,dnA tn,v]] L K:=by
 have hsm:=ht.sok.m;have hrl:=(ahm.1 hL).1;have ar:∀ X:List Blk,(L++X)[rt]?=some (.cells [dnA suf,.sl (aA l) l.length c,b]):=fun X=>by rw [ahq hrl];exact hL
 have hel:=db l;obtain ⟨⟨ps,pe⟩,hp⟩:∃ q,prS dn=q:=⟨_,rfl⟩;have kk1:Hid (Ctr Tryz.prog 35 [dnA dn] (.tup [.str ps,.int .i64 pe])):=@hid _ (by intro L K q;exact jT hdm.1 hdm.2 (by rw [hp];exact q));have kk2:Hid (Ctr Tryz.prog 85 [dnA dn,dnA suf] (.bool (GT dn suf))):=@hid _ (by intro L K q;exact aaN hdm hsm q);have p1:OkD dn↔pe=0:=by unfold OkD;rw [hp]
 have kk3:Hid (∀ {X:List Blk} {K:afC},K (.int .i64 (atI l dn)) (L++X)->afB 46 [.ptr rt 0,dnA dn] (L++X) K):=@hid _ (by
  intro X K q;exact Vm ht.ok hdm (by omega) (ar X) q)
 unfold d8 at h;by_cases hk:k<1\/4<k
 ·rw [if_pos hk] at h;replace h:=hid h;clear hp p1;by_cases d1:k<1
  ·refine acg aD ?_;exact ab rfl h.out
  ·have d2:4<k:=by omega
   have d3:k > 4:=d2;refine acg aD ?_;exact ab rfl h.out
 rw [if_neg hk] at h;have d1:¬ k<1:=by omega
 have d2:¬ 4<k:=by omega
 have d3:¬ k > 4:=d2;by_cases k1:k=1
 ·subst k1;rw [if_pos rfl] at h;by_cases c1:pe=0;rotate_left
  ·rw [if_pos (fun c=>c1 (p1.1 c))] at h;replace h:=hid h;clear hp p1 hk;refine acg aD ?_;exact ab rfl h.out
  have hod:=p1.2 c1;subst c1;rw [if_neg (fun c=>c hod)] at h;rcases um l dn with ⟨q1,q2⟩|⟨n,hlt,q1,q2⟩
  rotate_left
  ·rw [if_pos (by rw [q2];simp)] at h;rw [q1] at kk3;have g0:(0:Int)<=(n:Int):=by omega
   have g1:(n:Int) ≥ 0:=g0;replace h:=hid h;clear hp p1 hk;refine acg aD ?_;exact ab rfl h.out
  rw [if_neg (fun c=>c q2)] at h;rw [q1] at kk3;have hdl:=hod.len;obtain ⟨sm,hsmm⟩:=aaR (GT dn suf);rw [hsmm] at h kk2;have hlast:∀ {h4:K (.int .i64 (if 4096<=l.length then 80 else 0)) L},(4096<=l.length/\K (.int .i64 80) L)\/(¬ 4096<=l.length/\K (.int .i64 0) L):=fun {h4}=>by
   by_cases c:4096<=l.length
   ·rw [if_pos c] at h4;exact .inl ⟨c,h4⟩
   ·rw [if_neg c] at h4;exact .inr ⟨c,h4⟩
  cases sm with
  | true =>
    rw [if_neg (fun c=>by cases c.1)] at h;rcases hlast (h4:=h) with ⟨c,h⟩|⟨c,h⟩
    ·have c':(4096:Int)<=(l.length:Int):=by omega
     have c'':(l.length:Int) ≥ 4096:=c';replace h:=hid h;clear hlast hp p1 hk;refine acg aD ?_;exact ab rfl h.out
    ·have c':¬ (4096:Int)<=(l.length:Int):=by omega
     have c'':¬ (l.length:Int) ≥ 4096:=c';replace h:=hid h;clear hlast hp p1 hk;refine acg aD ?_;exact ab rfl h.out
  | false =>
    by_cases c3:dn=[]
    ·rw [if_pos ⟨rfl,.inl c3⟩] at h;subst c3;replace h:=hid h;clear hlast hp p1 hk;refine acg aD ?_;exact ab rfl h.out
    have hl3:¬ (dn.length:Int)=0:=fun c=>c3 (ahX.1 (by omega))
    have hl4:(1:Int)<=(dn.length:Int):=by omega
    have htt:dn.tail.length=dn.length - 1:=ai1;have hdr:List.take (dn.length - 1) (List.drop 1 (dn.map aw))=dn.tail.map aw:=by rw [ajU,List.map_tail,ah0 (by simp)]
    have kk4:Hid (∀ {c:Option Nat} {X:List Blk} {K:afC},K (.int .i64 (atI l dn.tail)) (L++X)->afB 46 [.ptr rt 0,.sl (List.take (dn.length - 1) (List.drop 1 (dn.map aw))) (dn.length - 1) c] (L++X) K):=@hid _ (by
     intro c X K q;rw [hdr,<- htt];exact Vm ht.ok hod.tail.m (by omega) (ar X) q)
    rcases um l dn.tail with ⟨r1,r2⟩|⟨n,hlt,r1,r2⟩
    ·rw [if_pos ⟨rfl,.inr r2⟩] at h;rw [r1] at kk4;replace h:=hid h;clear hlast hp p1 hk hdr;refine acg aD ?_;exact ab rfl h.out
    rw [if_neg (fun c=>c.2.elim c3 fun c=>by rw [r2] at c;cases c)] at h;rw [r1] at kk4;have g0:¬ (n:Int)<0:=by omega
    rcases hlast (h4:=h) with ⟨c,h⟩|⟨c,h⟩
    ·have c':(4096:Int)<=(l.length:Int):=by omega
     have c'':(l.length:Int) ≥ 4096:=c';replace h:=hid h;clear hlast hp p1 hk hdr;refine acg aD ?_;exact ab rfl h.out
    ·have c':¬ (4096:Int)<=(l.length:Int):=by omega
     have c'':¬ (l.length:Int) ≥ 4096:=c';replace h:=hid h;clear hlast hp p1 hk hdr;refine acg aD ?_;exact ab rfl h.out
 rw [if_neg k1] at h;have hkk:k=2\/k=3\/k=4:=by omega
 rcases um l dn with ⟨q1,hx⟩|⟨n,hlt,q1,hx⟩
 ·rw [hx] at h;rw [q1] at kk3;simp only at h;replace h:=hid h;clear hp p1 hk;refine acg aD ?_;exact ab rfl h.out
 obtain ⟨x,hxe⟩:=aaR (l.getD n default);rw [hxe] at hx;rw [hx] at h;rw [q1] at kk3;simp only at h;obtain ⟨hod,hxl,hxn⟩:=cH hx;have g0:¬ (n:Int)<0:=by omega
 have g1:(0:Int)<=(n:Int):=by omega
 have g2:(n:Int)<(l.length:Int):=by omega
 obtain ⟨e5,_,_⟩:=kk hlt;rw [hxe] at e5;have e4:n * 3<(aA l).length:=by rw [hel];omega
 have kk4:Hid (∀ {X:List Blk} {K:afC},K (.int .i64 (aZ (dq l) (NK x.nm):Nat)) (L++X)->afB 32 [.ptr rt 0,.int .i64 x.id] (L++X) K):=@hid _ (by
  intro X K q;refine ZP ht (by omega) (ar X) ?_;rw [ht.kidsE hxl];exact q)
 obtain ⟨kn,hkn⟩:=aaR (aZ (dq l) (NK x.nm));rw [hkn] at kk4 h;by_cases k2:k=2
 ·subst k2;rw [if_pos rfl] at h;by_cases ck:kn=0
  ·rw [if_neg (fun e=>e ck)] at h;subst ck;replace h:=hid h;clear hp p1 hk hkk hkn;refine acg aD ?_
   all_goals exact ab rfl h.out
  ·rw [if_pos ck] at h;have c1:(0:Int)<(kn:Int):=by omega
   have c2:(kn:Int) > 0:=c1;replace h:=hid h;clear hp p1 hk hkk hkn;refine acg aD ?_;exact ab rfl h.out
 rw [if_neg k2] at h;by_cases k3:k=3
 ·subst k3;rw [if_pos rfl] at h;replace h:=hid h;clear hp p1 hk hkk hkn;refine acg aD ?_;exact ab rfl h.out
 rw [if_neg k3] at h;have k4:k=4:=by omega
 subst k4;clear hkk hk k1 k2 k3 kk4 hkn;unfold Wk at h;obtain ⟨⟨ts,te⟩,htp⟩:∃ q,prS tn=q:=⟨_,rfl⟩;have kk1:Hid (Ctr Tryz.prog 35 [dnA tn] (.tup [.str ts,.int .i64 te])):=@hid _ (by intro L K q;exact jT htm.1 htm.2 (by rw [htp];exact q));have pt:OkD tn↔te=0:=by unfold OkD;rw [htp]
 by_cases c1:GT dn suf=true
 ·rw [if_pos c1] at h;rw [c1] at kk2;replace h:=hid h;clear hp p1 htp pt;refine acg aD ?_;exact ab rfl h.out
 rw [if_neg c1] at h;rw [akg.2 c1] at kk2;by_cases c2:te=0;rotate_left
 ·rw [if_pos (.inl fun c=>c2 (pt.1 c))] at h;replace h:=hid h;clear hp p1 htp pt;refine acg aD ?_;exact ab rfl h.out
 have hto:=pt.2 c2;have ht32:=hto.len;subst c2;by_cases c3:tn=[]
 ·rw [if_pos (.inr c3)] at h;replace h:=hid h;subst c3;clear hp p1 htp pt;refine acg aD ?_;exact ab rfl h.out
 rw [if_neg (fun c=>c.elim (fun c=>c hto) c3)] at h;have hl3:¬ (tn.length:Int)=0:=fun c=>c3 (ahX.1 (by omega))
 have hl4:(1:Int)<=(tn.length:Int):=by omega
 have htt:tn.tail.length=tn.length - 1:=ai1;have hdr:List.take (tn.length - 1) (List.drop 1 (tn.map aw))=tn.tail.map aw:=by rw [ajU,List.map_tail,ah0 (by simp)]
 have hot:=hto.tail;have kk4:Hid (∀ {c:Option Nat} {L:List Blk} {K:afC},K (.bool (cu tn.tail dn)) L->afB 47 [.sl (List.take (tn.length - 1) (List.drop 1 (tn.map aw))) (tn.length - 1) c,dnA dn] L K):=@hid _ (by
  intro c L K q;rw [hdr,<- htt];exact uR hot.m hdm q)
 have kk5:Hid (∀ {c:Option Nat} {X:List Blk} {K:afC},K (.int .i64 (atI l tn.tail)) (L++X)->afB 46 [.ptr rt 0,.sl (List.take (tn.length - 1) (List.drop 1 (tn.map aw))) (tn.length - 1) c] (L++X) K):=@hid _ (by
  intro c X K q;rw [hdr,<- htt];exact Vm ht.ok hot.m (by omega) (ar X) q)
 by_cases c4:cu tn.tail dn=true
 ·rw [if_pos c4] at h;rw [c4] at kk4;replace h:=hid h;clear hp p1 htp pt hdr kk5;refine acg aD ?_;exact ab rfl h.out
 rw [if_neg c4] at h;rw [akg.2 c4] at kk4;rcases um l tn.tail with ⟨r1,r2⟩|⟨n2,hlt2,r1,r2⟩
 ·rw [if_pos r2] at h;rw [r1] at kk5;replace h:=hid h;clear hp p1 htp pt hdr;refine acg aD ?_;exact ab rfl h.out
 rw [if_neg (by rw [r2];simp)] at h;rw [r1] at kk5;have g3:¬ (n2:Int)<0:=by omega
 have kk6:Hid (∀ {X:List Blk} {K:afC},K (.int .i64 (atI l tn)) (L++X)->afB 46 [.ptr rt 0,dnA tn] (L++X) K):=@hid _ (by
  intro X K q;exact Vm ht.ok hto.m (by omega) (ar X) q)
 have hoth:YJ l x.id tn=(decide (0<=atI l tn) && decide (atI l tn≠(n:Int))):=by
  unfold YJ;rcases um l tn with ⟨s1,s2⟩|⟨n3,hlt3,s1,s2⟩
  ·rw [s1,s2];rfl
  ·rw [s1,s2];simp only;rw [decide_eq_true (by omega:(0:Int)<=(n3:Int)),aid]
   congr 1
   apply propext;have hm3:l.getD n3 default∈l:=by simp [hlt3]
   constructor
   ·intro e e2;have:n3=n:=by omega
    subst this;exact e (by rw [hxe])
   ·intro e e2;have:=ht.byI hm3 hxl e2;rw [<- hxe] at this;have hnd:=ht.nodup;rw [ahE,ahE,ahB hlt3,ahB hlt] at this;simp only [ah9] at this;rcases ajF n3 n with q|q|q
    ·exact aiL.1 hnd n3 n hlt3 hlt q this
    ·exact e (by omega)
    ·exact aiL.1 hnd n n3 hlt hlt3 q this.symm
 rw [hoth] at h;obtain ⟨w,hw⟩:=aaR (atI l tn);rw [hw] at kk6 h;by_cases c6:0<=w/\w≠(n:Int)
 ·obtain ⟨c6,c7⟩:=c6;have c6':w ≥ 0:=c6;rw [if_pos (by rw [decide_eq_true c6,decide_eq_true c7];rfl)] at h;replace h:=hid h;clear hp p1 htp pt hdr hoth hw;refine acg aD ?_;exact ab rfl h.out
 rw [if_neg (by
  intro c;rw [aht,decide_eq_true_eq,decide_eq_true_eq] at c;exact c6 c)] at h
 have c9:(¬ 0<=w/\¬ w ≥ 0)\/(0<=w/\w ≥ 0/\w=(n:Int)):=by omega
 have kU:Hid (∀ y∈l,∀ {L:List Blk} {K:afC},K (.bool (cu y.nm dn)) L->afB 47 [dnA y.nm,dnA dn] L K):=@hid _ (by intro y hy L K q;exact uR (ht.ok y hy).m hdm q);replace h:=hid h;replace ht:=hid ht;clear hp p1 htp pt hdr hoth hw c6;rcases c9 with ⟨c9,c9'⟩|⟨c9,c9',rfl⟩
 all_goals
  refine acg aD ?_;clear kk1 kk2 kk3 kk4 kk5 kk6;refine ah (fun m T' L'=>∃ j:Nat,m=l.length - j/\j<=l.length/\Hid (∀ i,i<j->(cu (l.getD i default).nm dn && !decide (OkD (gx (l.getD i default).nm dn.length tn)))=false)/\Hid (∃ Z,L'=L++(.cells [.int .i64 4,dnA dn,dnA tn,v]::Z))/\T'=[(139,.int .i64 (j:Int)),(138,.int .i64 l.length),(137,.sl (aA l) l.length c),(3,.ptr L.length 0),(0,.ptr rt 0)]) (CutS (b:=by simp)) ⟨0,rfl,ahp _,hid (fun i hi=>absurd hi (aja _)),hid ⟨[],rfl⟩,rfl⟩ ?_;rintro _ _ L1 ⟨j,rfl,hj,hI,hZ,rfl⟩;have hb1:∀ X:List Blk,(L1++X)[L.length]?=some (.cells [.int .i64 4,dnA dn,dnA tn,v]):=fun X=>by
   obtain ⟨Z,rfl⟩:=hZ.out;rw [ahz,ahu (ahn _)];simp
  have hgt:∀ (b:Blk) (X:List Blk),(L1++b::X)[L1.length]?=some b:=fun b X=>by rw [ahu (ahn _)];simp
  have hL1l:L.length+1<=L1.length:=by obtain ⟨Z,rfl⟩:=hZ.out;simp
  have hZ1:∀ X,Hid (∃ Z,L1++X=L++(.cells [.int .i64 4,dnA dn,dnA tn,v]::Z)):=fun X=>by
   obtain ⟨Z,rfl⟩:=hZ.out;exact hid ⟨Z++X,by simp⟩
  by_cases hjl:j<l.length
  ·have j1:(j:Int)<(l.length:Int):=by omega
   have j2:=ace j (by omega);have e6:=gQ hjl;have e7:j * 3+3<=(aA l).length:=by rw [hel];omega
   have hym:l.getD j default∈l:=by simp [hjl]
   obtain ⟨y,hy⟩:=aaR (l.getD j default);rw [hy] at e6 hym;unfold rW atR at e6;have hoy:=ht.out.ok y hym;have kk1:=@hid _ (fun {L:List Blk} {K:afC}=>kU.out y hym (L:=L) (K:=K));obtain ⟨u,hu⟩:=aaR (cu y.nm dn);rw [hu] at kk1;have hnext:(u && !decide (OkD (gx y.nm dn.length tn)))=false->Hid (∀ i,i<j+1->(cu (l.getD i default).nm dn && !decide (OkD (gx (l.getD i default).nm dn.length tn)))=false):=fun hb=>hid fun i hi=>by
    by_cases e:i=j
    ·subst e;rw [hy,hu];exact hb
    ·exact hI.out i (by omega)
   obtain ⟨yi,hyi⟩:=aaR (y.id);obtain ⟨ya,hya⟩:=aaR (aU y.av);obtain ⟨yk,hyk⟩:=aaR (y.av.length);rw [hyi,hya,hyk] at e6;cases u with
   | false =>
     have hn2:=hnext rfl;clear hnext hI hZ hyi hya hyk hoy hy kU;refine wk ?_;exact aq _ _ _ (by omega) (CutL (b:=by simp;omega)) ⟨j+1,rfl,hjl,hn2,hZ1 _,rfl⟩
   | true =>
     have hyle:dn.length<=y.nm.length:=by
      have:=(cK.1 hu).2.2.length_le
      rwa [be,be] at this
     have hy32:=hoy.len;obtain ⟨Z,hZe⟩:=aaR (gx y.nm dn.length tn);have hZm:dnM Z:=by
      rw [<- hZe];unfold gx;refine ⟨by simp;omega,fun r hr=>?_⟩;rcases ahr.1 hr with hr|hr
      ·exact hoy.m.2 r (ajA hr)
      ·exact htm.2 r hr
     have kk2:Hid (Ctr Tryz.prog 48 [dnA y.nm,.int .i64 (dn.length:Int),dnA tn] (dnA Z)):=@hid _ (by
      intro L K q;exact Wj (by omega) (by omega) hyle (by rw [hZe];exact q))
     obtain ⟨⟨zs,ze⟩,hzp⟩:∃ u,prS Z=u:=⟨_,rfl⟩;have kk3:Hid (Ctr Tryz.prog 35 [dnA Z] (.tup [.str zs,.int .i64 ze])):=@hid _ (by intro L K u;exact jT hZm.1 hZm.2 (by rw [hzp];exact u));have pz:OkD Z↔ze=0:=by unfold OkD;rw [hzp]
     by_cases hz0:ze=0
     ·have hn2:=hnext (by rw [hZe,decide_eq_true (pz.2 hz0)];rfl);subst hz0;clear hnext hI hZ hyi hya hyk hoy hy kU hZe hZm hzp pz hyle;refine wk ?_;exact aq _ _ _ (by omega) (CutL (b:=by simp;omega)) ⟨j+1,rfl,hjl,hn2,hZ1 _,rfl⟩
     ·have hbad:Zm l dn tn=true:=aiY.2 ⟨y,hym,by rw [hu,hZe,decide_eq_false (fun c=>hz0 (pz.1 c))];rfl⟩;have h':=h.out;rw [if_pos hbad] at h';replace h':=hid h';have hZ2:=hZ1;clear hnext hI hyi hya hyk hoy hy kU hZe hZm hzp pz hyle hbad hZ1;refine wk ?_;obtain ⟨Z2,rfl⟩:=hZ.out;rw [ahz];exact ab rfl h'.out
  ·have hje:j=l.length:=by omega
   subst hje;have j1:¬ (l.length:Int)<(l.length:Int):=by omega
   have hgood:¬ Zm l dn tn=true:=fun cc=>by
    obtain ⟨y,hy,hb⟩:=aiY.1 cc;obtain ⟨i,hi,rfl⟩:=aiv.1 hy;have:=hI.out i hi;rw [show l.getD i default=l[i] by simp [hi]] at this;rw [this] at hb;cases hb
   have h':=h.out;rw [if_neg hgood] at h';replace h':=hid h';clear hI hgood kU;refine wk ?_;obtain ⟨Z2,rfl⟩:=hZ.out;exact ab rfl h'.out
theorem QP {L0 L:List Blk} {r:AV} {Q:AV->List Blk->Prop} (i:Nat) {c:List AV} (hL:L[i]?=some (.cells c)) (h:Fin L0 r (L.set i (.cells (AV.frzL c))) Q):Fin L0 r L Q:=fun w0 S0 E0 E w v h0 hn hw hR hv=>h w0 S0 E0 E w v h0 hn hw (hR.frzB hL) hv
def doE (k:Int) (xid:Int) (dn tn:List Rdn) (v:List Atr) (y:aB):List aB :=
 let y':=if k=4/\cu y.nm dn=true then { y with nm:=gx y.nm dn.length tn } else y
 let y2:=if y.id=xid/\(k=3\/k=4) then { y' with av:=v } else y'
 if y.id=xid/\k=2 then [] else [y2]
theorem agU (l:List aB) (xid:Int) (dn tn:List Rdn) (v:List Atr):l.flatMap (doE 1 xid dn tn v)=l:=by
 induction l with
 | nil=>rfl
 | cons y l ih=>rw [ahY,ih];simp [doE]
theorem agT (l:List aB) (xid:Int) (dn tn:List Rdn) (v:List Atr):l.flatMap (doE 2 xid dn tn v)=QH l xid:=by
 unfold QH
 induction l with
 | nil=>rfl
 | cons y l ih =>
   rw [ahY,ih];by_cases c:y.id=xid<;>simp [doE,c]
theorem agS (l:List aB) (xid:Int) (dn tn:List Rdn) (v:List Atr):l.flatMap (doE 3 xid dn tn v)=rK l xid v:=by
 unfold rK
 induction l with
 | nil=>rfl
 | cons y l ih =>
   rw [ahY,ih];by_cases c:y.id=xid<;>simp [doE,c]
theorem agR (l:List aB) (xid:Int) (dn tn:List Rdn) (v:List Atr):l.flatMap (doE 4 xid dn tn v)=rK (mV l dn tn) xid v:=by
 unfold rK mV
 induction l with
 | nil=>rfl
 | cons y l ih =>
   rw [ahY,ih];by_cases c:y.id=xid<;>by_cases u:cu y.nm dn=true<;>simp [doE,c,u]
theorem S8 (l:List aB) (k xid:Int) (dn tn:List Rdn) (v:List Atr):(l.flatMap (doE k xid dn tn v)).length<=l.length:=by
 induction l with
 | nil=>simp
 | cons y l ih =>
   rw [ahY,ahy];have:(doE k xid dn tn v y).length<=1:=by unfold doE;dsimp only;split<;>simp
   simp only [ahD];omega
theorem afI {suf:List Rdn} {last:Int} {l:List aB} (ht:TOk suf last l) (hn:l.length<=900000) (hl0:0<=last) (hl1:last<=1000000) {rt:Nat} {c:Option Nat} {L:List Blk} (hL:L[rt]?=some (.cells [dnA suf,.sl (aA l) l.length c,.int .i64 last]))
  {dn tn:List Rdn} {k:Int} {v:List Atr} (hdm:dnM dn) (htm:dnM tn) (hvl:v.length<=1100000) (hvz:∀ a∈v,a.2.length<=1100000) (ha:d8 suf l k dn tn=0) {K:afC}
  (h:∀ L' c',L'[rt]?=some (.cells [dnA suf,.sl (aA (doT suf l last k dn tn v).1) (doT suf l last k dn tn v).1.length c',.int .i64 (doT suf l last k dn tn v).2])->aK (fun i=>i=rt) L L'->K (.int .i64 0) L') :
  afB 21 [.ptr rt 0,.agg [.int .i64 k,dnA dn,dnA tn,atR v]] L K:=by
 have hrl:=(ahm.1 hL).1;have ar:∀ X:List Blk,(L++X)[rt]?=some (.cells [dnA suf,.sl (aA l) l.length c,.int .i64 last]):=fun X=>by rw [ahq hrl];exact hL
 have sr:∀ (X:List Blk) b,(L++X).set rt b=L.set rt b++X:=fun X b=>aiK _ _ hrl
 have ar2:∀ (X:List Blk) b,(L.set rt b++X)[rt]?=some b:=fun X b=>by rw [ahq (by simpa using hrl)];simp [hrl]
 have sr2:∀ (X:List Blk) b b',(L.set rt b++X).set rt b'=L.set rt b'++X:=fun X b b'=>by rw [aiK _ _ (by simpa using hrl),List.set_set]
 have ab2:∀ (X:List Blk) (b b':Blk),(L.set rt b++b'::X)[L.length]?=some b':=fun X b b'=>by rw [ahu (by simp)];simp
 have hel:=db l;have kk1:Hid (∀ {X:List Blk} {K:afC},K (.int .i64 0) (L++X)->afB 45 [.ptr rt 0,.agg [.int .i64 k,dnA dn,dnA tn,.sl (aU v) v.length none]] (L++X) K):=@hid _ (by
  intro X K q;exact ZQ ht (by omega) (ar X) hdm htm (by rw [ha];exact q))
 have kk2:Hid (∀ {X:List Blk} {K:afC},K (.int .i64 (atI l dn)) (L++X)->afB 46 [.ptr rt 0,dnA dn] (L++X) K):=@hid _ (by
  intro X K q;exact Vm ht.ok hdm (by omega) (ar X) q)
 have kk3:Hid (Ctr Tryz.prog 49 [.sl (aU v) v.length none] (.sl (aU v) v.length none)):=@hid _ (by intro L K q;exact aeg hvl hvz q);have fv:=dp v;have hfd:AV.frzL (dn.map aw)=dn.map aw:=aO _;unfold atR;unfold doT at h;rw [if_neg (fun e=>e ha)] at h;have hable:=ha;unfold d8 at ha;have hk14:¬ (k<1\/4<k):=fun e=>by rw [if_pos e] at ha;exact absurd ha (by decide)
 rw [if_neg hk14] at ha;have kU:Hid (∀ y∈l,∀ {L:List Blk} {K:afC},K (.bool (cu y.nm dn)) L->afB 47 [dnA y.nm,dnA dn] L K):=@hid _ (by intro y hy L K q;exact uR (ht.ok y hy).m hdm q);have hL0:=hid hL;have hok:=hid ht.ok;have hnd:=hid ht.nodup;by_cases k1:k=1
 ·subst k1;rw [if_pos rfl] at ha h;have hfa:atI l dn=-1:=by
   rcases um l dn with ⟨q1,q2⟩|⟨n,hlt,q1,q2⟩
   ·exact q1
   ·exfalso;by_cases o:OkD dn
    ·rw [if_neg (fun e=>e o),if_pos (by rw [q2];simp)] at ha;exact absurd ha (by decide)
    ·rw [if_pos o] at ha;exact absurd ha (by decide)
  rw [hfa] at kk2;replace h:=hid h;clear ha hable hL hk14;refine acg d7 ?_;refine bi (l:=[]) (n:=0) 7 3 rfl (ahQ 3).symm ?_;simp only [ahy,ahD,ahZ,aiU,ahz,aig,ah3];refine ah (fun m T' L'=>∃ (j cnt:Nat) (C:List AV) (X:List Blk),m=l.length - j/\j<=l.length/\Hid (C=aA ((l.take j).flatMap (doE 1 0 dn tn v)))/\Hid (cnt=((l.take j).flatMap (doE 1 0 dn tn v)).length)/\T'=[(25,.int .i64 (j:Int)),(24,.int .i64 l.length),(23,.sl (aA l) l.length c),(7,.gsl C cnt (L.length+1) 3),(6,.int .i64 (-1)),(3,.ptr L.length 0),(0,.ptr rt 0)]/\L'=L++(.cells [.int .i64 1,dnA dn,dnA tn,.sl (aU v) v.length none] :: .spare cnt 3::X)) (CutS (b:=by simp)) ⟨0,0,[],[],rfl,ahp _,hid rfl,hid rfl,rfl,by simp⟩ ?_;rintro _ _ _ ⟨j,cnt,C,X,rfl,hj,hC,hcnt,rfl,rfl⟩;have hgX:∀ (a s b:Blk) (Y:List Blk),(L++a::s::(X++b::Y))[L.length+(X.length+1+1)]?=some b:=fun a s b Y=>by
   rw [ahu (by omega),show L.length+(X.length+1+1) - L.length=X.length+1+1 by omega,aii,aii,ahu (ahn _)];simp
  have hsX:∀ (a s b b':Blk) (Y:List Blk),(L++a::s::(X++b::Y)).set (L.length+(X.length+1+1)) b'=L++a::s::(X++b'::Y):=fun a s b b' Y=>by
   rw [ahP _ _ (by omega),show L.length+(X.length+1+1) - L.length=X.length+1+1 by omega,aiB,aiB,ahP _ _ (ahn _)];simp
  have hcb:cnt<=l.length:=by
   rw [hcnt.out];exact ahV (S8 _ _ _ _ _ _) (by simp;omega)
  by_cases hjl:j<l.length
  ·have j1:(j:Int)<(l.length:Int):=by omega
   have j2:=ace j (by omega);have e6:=gQ hjl;have e7:j * 3+3<=(aA l).length:=by rw [hel];omega
   have hym:l.getD j default∈l:=by simp [hjl]
   have hjn:(j:Int) ≠ -1:=by omega
   have htk:l.take (j+1)=l.take j++[l.getD j default]:=by rw [ahK hjl];simp [hjl]
   obtain ⟨y,hy⟩:=aaR (l.getD j default);rw [hy] at e6 hym htk
   try rw [hy] at hjn
   unfold rW atR at e6;have hoy:=hok.out y hym;have kk4:=@hid _ (fun {L:List Blk} {K:afC}=>kU.out y hym (L:=L) (K:=K));obtain ⟨u,hu⟩:=aaR (cu y.nm dn);rw [hu] at kk4;have hstep:∀ {r:List aB},doE 1 0 dn tn v y=r->Hid (C++aA r=aA ((l.take (j+1)).flatMap (doE 1 0 dn tn v)))/\Hid (cnt+r.length=((l.take (j+1)).flatMap (doE 1 0 dn tn v)).length):=fun {r} e=>by
    rw [htk,akh,ahY,ajB,ahO,e,kl,ahy,<- hC.out,<- hcnt.out];exact ⟨hid rfl,hid rfl⟩
   have fy1:AV.frzL (y.nm.map aw)=y.nm.map aw:=aO _;have fy2:=dp y.av;obtain ⟨yi,hyi⟩:=aaR (y.id);obtain ⟨ya,hya⟩:=aaR (aU y.av);obtain ⟨yk,hyk⟩:=aaR (y.av.length);obtain ⟨yn,hyn⟩:=aaR (y.nm);rw [hyi,hya,hyk,hyn] at e6;rw [hya] at fy2;rw [hyn] at fy1 kk4;have hst:=hstep (r:=[y]) (by simp [doE]);have s3:aA [y]=[.int .i64 yi,dnA yn,.sl ya yk none]:=by rw [<- hyi,<- hya,<- hyk,<- hyn];rfl
   have s1:=hst.1;have s2:=hst.2;rw [s3] at s1;have s1:=hid s1.out;have s2:=hid s2.out;clear hst s3 hstep hC hcnt hy hym htk hoy hu kU hyi hya hyk hyn hok hnd;refine wk ?_;exact aq _ _ _ (by omega) (CutL (b:=by simp)) ⟨j+1,_,_,_,rfl,hjl,s1,s2,rfl,rfl⟩
  ·have hje:j=l.length:=by omega
   subst hje;have j1:¬ (l.length:Int)<(l.length:Int):=by omega
   rw [ahA] at hC hcnt;have fs:AV.frzL (suf.map aw)=suf.map aw:=aO _;have j3:IntKind.i64.wrap (last+1)=last+1:=ac (by omega) (by omega);have hdb:=hdm.b;have kk7:Hid (Ctr Tryz.prog 36 [dnA dn] (dnA dn)):=@hid _ (by intro L K q;exact ZD hdb.1 hdb.2 q);clear hnd hok kU kk1 kk2 ht;have ab1:∀ (X:List Blk) (b b' b2:Blk),(L.set rt b++b'::b2::X)[L.length+1]?=some b2:=fun X b b' b2=>by rw [ahu (by simp)];simp
   have as1:∀ (X:List Blk) (b b' b2 b3:Blk),(L.set rt b++b'::b2::X).set (L.length+1) b3=L.set rt b++b'::b3::X:=fun X b b' b2 b3=>by
    rw [ahP _ _ (by simp)];simp
   refine wk ?_;refine QP rt (ar2 _ _) ?_;rw [sr2];refine af ?_;have e1:=hC.out;have e2:=hcnt.out;rw [agU] at e1 e2;refine h.out _ none ?_ ((aK.set (B:=fun i=>i=rt) L rfl _).trans (aK.app _ _));rw [ar2];have e3:aA (rR l last dn v)=aA l++[.int .i64 (last+1),.sl (dn.map aw) dn.length none,.sl (aU v) v.length none]:=by unfold rR;rw [kl];rfl
   have e4:AV.frzL (C++[.int .i64 (last+1),.sl (dn.map aw) dn.length none,.sl (aU v) v.length none])=aA (rR l last dn v):=by
    rw [e1,<- e3,fQ]
   have e5:(rR l last dn v).length=cnt+1:=by rw [e2];simp [rR]
   simp only [AV.frzL,AV.frz,dnA,fs,e4,e5]
 rw [if_neg k1] at ha h;rcases um l dn with ⟨q1,hx⟩|⟨n,hlt,q1,hx⟩
 ·rw [hx] at ha;simp at ha
 obtain ⟨x,hxe⟩:=aaR (l.getD n default);rw [hxe] at hx;obtain ⟨hod,hxl,hxn⟩:=cH hx;have hfx:aY l dn=x.id:=by unfold aY;rw [hx]
 rw [hfx] at h;rw [q1] at kk2;have hxu:cu x.nm dn=true:=cK.2 ⟨ht.ok x hxl,hod,by rw [hxn];exact ajk _⟩;rw [hx] at ha;dsimp only at ha;by_cases k2:k=2
 ·subst k2;rw [if_pos rfl] at h;replace h:=hid h;clear ha hable hL hk14;refine acg d7 ?_;refine bi (l:=[]) (n:=0) 7 3 rfl (ahQ 3).symm ?_;simp only [ahy,ahD,ahZ,aiU,ahz,aig,ah3];refine ah (fun m T' L'=>∃ (j cnt:Nat) (C:List AV) (X:List Blk),m=l.length - j/\j<=l.length/\Hid (C=aA ((l.take j).flatMap (doE 2 x.id dn tn v)))/\Hid (cnt=((l.take j).flatMap (doE 2 x.id dn tn v)).length)/\T'=[(25,.int .i64 (j:Int)),(24,.int .i64 l.length),(23,.sl (aA l) l.length c),(7,.gsl C cnt (L.length+1) 3),(6,.int .i64 (n:Int)),(3,.ptr L.length 0),(0,.ptr rt 0)]/\L'=L++(.cells [.int .i64 2,dnA dn,dnA tn,.sl (aU v) v.length none] :: .spare cnt 3::X)) (CutS (b:=by simp)) ⟨0,0,[],[],rfl,ahp _,hid rfl,hid rfl,rfl,by simp⟩ ?_;rintro _ _ _ ⟨j,cnt,C,X,rfl,hj,hC,hcnt,rfl,rfl⟩;have hgX:∀ (a s b:Blk) (Y:List Blk),(L++a::s::(X++b::Y))[L.length+(X.length+1+1)]?=some b:=fun a s b Y=>by
   rw [ahu (by omega),show L.length+(X.length+1+1) - L.length=X.length+1+1 by omega,aii,aii,ahu (ahn _)];simp
  have hsX:∀ (a s b b':Blk) (Y:List Blk),(L++a::s::(X++b::Y)).set (L.length+(X.length+1+1)) b'=L++a::s::(X++b'::Y):=fun a s b b' Y=>by
   rw [ahP _ _ (by omega),show L.length+(X.length+1+1) - L.length=X.length+1+1 by omega,aiB,aiB,ahP _ _ (ahn _)];simp
  have hcb:cnt<=l.length:=by
   rw [hcnt.out];exact ahV (S8 _ _ _ _ _ _) (by simp;omega)
  by_cases hjl:j<l.length
  ·have j1:(j:Int)<(l.length:Int):=by omega
   have j2:=ace j (by omega);have e6:=gQ hjl;have e7:j * 3+3<=(aA l).length:=by rw [hel];omega
   have hym:l.getD j default∈l:=by simp [hjl]
   have hjn:j=n↔(l.getD j default).id=x.id:=by
    rw [<- hxe];constructor
    ·intro e;rw [e]
    ·intro e;have e2:=ht.byI hym (by simp [hlt]:l.getD n default∈l) e;rw [ahE,ahE,ahB hjl,ahB hlt] at e2;simp only [ah9] at e2;rcases ajF j n with q|q|q
     ·exact absurd e2 (aiL.1 hnd.out j n hjl hlt q)
     ·exact q
     ·exact absurd e2.symm (aiL.1 hnd.out n j hlt hjl q)
   have htk:l.take (j+1)=l.take j++[l.getD j default]:=by rw [ahK hjl];simp [hjl]
   obtain ⟨y,hy⟩:=aaR (l.getD j default);rw [hy] at e6 hym htk
   try rw [hy] at hjn
   unfold rW atR at e6;have hoy:=hok.out y hym;have kk4:=@hid _ (fun {L:List Blk} {K:afC}=>kU.out y hym (L:=L) (K:=K));obtain ⟨u,hu⟩:=aaR (cu y.nm dn);rw [hu] at kk4;have hstep:∀ {r:List aB},doE 2 x.id dn tn v y=r->Hid (C++aA r=aA ((l.take (j+1)).flatMap (doE 2 x.id dn tn v)))/\Hid (cnt+r.length=((l.take (j+1)).flatMap (doE 2 x.id dn tn v)).length):=fun {r} e=>by
    rw [htk,akh,ahY,ajB,ahO,e,kl,ahy,<- hC.out,<- hcnt.out];exact ⟨hid rfl,hid rfl⟩
   have fy1:AV.frzL (y.nm.map aw)=y.nm.map aw:=aO _;have fy2:=dp y.av;by_cases hjn2:j=n
   ·have hyx:=hjn.1 hjn2;subst hjn2;have hst:=hstep (r:=[]) (by simp [doE,hyx]);have s1:=hst.1.out;have s2:=hst.2.out;rw [show aA ([]:List aB)=[] from rfl,ahO] at s1;rw [ahZ,aiH] at s2;replace s1:=hid s1;replace s2:=hid s2;obtain ⟨yi,hyi⟩:=aaR (y.id);obtain ⟨ya,hya⟩:=aaR (aU y.av);obtain ⟨yk,hyk⟩:=aaR (y.av.length);obtain ⟨yn,hyn⟩:=aaR (y.nm);rw [hyi,hya,hyk,hyn] at e6;rw [hya] at fy2;rw [hyn] at fy1 kk4;clear hst hstep hC hcnt hy hym htk hoy hu kU hyi hya hyk hyn hok hnd hjn hyx;refine wk ?_;exact aq _ _ _ (by omega) (CutL (b:=by simp)) ⟨j+1,_,_,_,rfl,hjl,s1,s2,rfl,rfl⟩
   ·have hyx:¬ y.id=x.id:=fun e=>hjn2 (hjn.2 e)
    have hjn3:¬ (j:Int)=(n:Int):=by omega
    obtain ⟨yi,hyi⟩:=aaR (y.id);obtain ⟨ya,hya⟩:=aaR (aU y.av);obtain ⟨yk,hyk⟩:=aaR (y.av.length);obtain ⟨yn,hyn⟩:=aaR (y.nm);rw [hyi,hya,hyk,hyn] at e6;rw [hya] at fy2;rw [hyn] at fy1 kk4;have hst:=hstep (r:=[y]) (by simp [doE,hyx]);have s3:aA [y]=[.int .i64 yi,dnA yn,.sl ya yk none]:=by rw [<- hyi,<- hya,<- hyk,<- hyn];rfl
    have s1:=hst.1;have s2:=hst.2;rw [s3] at s1;have s1:=hid s1.out;have s2:=hid s2.out;clear hst s3 hstep hC hcnt hy hym htk hoy hu kU hyi hya hyk hyn hok hnd;refine wk ?_;exact aq _ _ _ (by omega) (CutL (b:=by simp)) ⟨j+1,_,_,_,rfl,hjl,s1,s2,rfl,rfl⟩
  ·have hje:j=l.length:=by omega
   subst hje;have j1:¬ (l.length:Int)<(l.length:Int):=by omega
   rw [ahA] at hC hcnt;have fs:AV.frzL (suf.map aw)=suf.map aw:=aO _;refine wk ?_;refine QP rt (ar2 _ _) ?_;rw [sr2];refine af ?_;have e1:=hC.out;have e2:=hcnt.out;rw [agT] at e1 e2;refine h.out _ none ?_ ((aK.set (B:=fun i=>i=rt) L rfl _).trans (aK.app _ _));rw [ar2];simp only [AV.frzL,AV.frz,dnA,fs,e1,e2,fQ]
 rw [if_neg k2] at h ha;by_cases k3:k=3
 ·subst k3;rw [if_pos rfl] at h;replace h:=hid h;clear ha hable hL hk14;refine acg d7 ?_;refine bi (l:=[]) (n:=0) 7 3 rfl (ahQ 3).symm ?_;simp only [ahy,ahD,ahZ,aiU,ahz,aig,ah3];refine ah (fun m T' L'=>∃ (j cnt:Nat) (C:List AV) (X:List Blk),m=l.length - j/\j<=l.length/\Hid (C=aA ((l.take j).flatMap (doE 3 x.id dn tn v)))/\Hid (cnt=((l.take j).flatMap (doE 3 x.id dn tn v)).length)/\T'=[(25,.int .i64 (j:Int)),(24,.int .i64 l.length),(23,.sl (aA l) l.length c),(7,.gsl C cnt (L.length+1) 3),(6,.int .i64 (n:Int)),(3,.ptr L.length 0),(0,.ptr rt 0)]/\L'=L++(.cells [.int .i64 3,dnA dn,dnA tn,.sl (aU v) v.length none] :: .spare cnt 3::X)) (CutS (b:=by simp)) ⟨0,0,[],[],rfl,ahp _,hid rfl,hid rfl,rfl,by simp⟩ ?_;rintro _ _ _ ⟨j,cnt,C,X,rfl,hj,hC,hcnt,rfl,rfl⟩;have hgX:∀ (a s b:Blk) (Y:List Blk),(L++a::s::(X++b::Y))[L.length+(X.length+1+1)]?=some b:=fun a s b Y=>by
   rw [ahu (by omega),show L.length+(X.length+1+1) - L.length=X.length+1+1 by omega,aii,aii,ahu (ahn _)];simp
  have hsX:∀ (a s b b':Blk) (Y:List Blk),(L++a::s::(X++b::Y)).set (L.length+(X.length+1+1)) b'=L++a::s::(X++b'::Y):=fun a s b b' Y=>by
   rw [ahP _ _ (by omega),show L.length+(X.length+1+1) - L.length=X.length+1+1 by omega,aiB,aiB,ahP _ _ (ahn _)];simp
  have hcb:cnt<=l.length:=by
   rw [hcnt.out];exact ahV (S8 _ _ _ _ _ _) (by simp;omega)
  by_cases hjl:j<l.length
  ·have j1:(j:Int)<(l.length:Int):=by omega
   have j2:=ace j (by omega);have e6:=gQ hjl;have e7:j * 3+3<=(aA l).length:=by rw [hel];omega
   have hym:l.getD j default∈l:=by simp [hjl]
   have hjn:j=n↔(l.getD j default).id=x.id:=by
    rw [<- hxe];constructor
    ·intro e;rw [e]
    ·intro e;have e2:=ht.byI hym (by simp [hlt]:l.getD n default∈l) e;rw [ahE,ahE,ahB hjl,ahB hlt] at e2;simp only [ah9] at e2;rcases ajF j n with q|q|q
     ·exact absurd e2 (aiL.1 hnd.out j n hjl hlt q)
     ·exact q
     ·exact absurd e2.symm (aiL.1 hnd.out n j hlt hjl q)
   have htk:l.take (j+1)=l.take j++[l.getD j default]:=by rw [ahK hjl];simp [hjl]
   obtain ⟨y,hy⟩:=aaR (l.getD j default);rw [hy] at e6 hym htk
   try rw [hy] at hjn
   unfold rW atR at e6;have hoy:=hok.out y hym;have kk4:=@hid _ (fun {L:List Blk} {K:afC}=>kU.out y hym (L:=L) (K:=K));obtain ⟨u,hu⟩:=aaR (cu y.nm dn);rw [hu] at kk4;have hstep:∀ {r:List aB},doE 3 x.id dn tn v y=r->Hid (C++aA r=aA ((l.take (j+1)).flatMap (doE 3 x.id dn tn v)))/\Hid (cnt+r.length=((l.take (j+1)).flatMap (doE 3 x.id dn tn v)).length):=fun {r} e=>by
    rw [htk,akh,ahY,ajB,ahO,e,kl,ahy,<- hC.out,<- hcnt.out];exact ⟨hid rfl,hid rfl⟩
   have fy1:AV.frzL (y.nm.map aw)=y.nm.map aw:=aO _;have fy2:=dp y.av;by_cases hjn2:j=n
   ·have hyx:=hjn.1 hjn2;subst hjn2;obtain ⟨yi,hyi⟩:=aaR (y.id);obtain ⟨ya,hya⟩:=aaR (aU y.av);obtain ⟨yk,hyk⟩:=aaR (y.av.length);obtain ⟨yn,hyn⟩:=aaR (y.nm);rw [hyi,hya,hyk,hyn] at e6;rw [hya] at fy2;rw [hyn] at fy1 kk4;have hst:=hstep (r:=[{ y with av:=v }]) (by simp [doE,hyx]);have s3:aA [{ y with av:=v }]=[.int .i64 yi,dnA yn,.sl (aU v) v.length none]:=by rw [<- hyi,<- hyn];rfl
    have s1:=hst.1;have s2:=hst.2;rw [s3] at s1;have s1:=hid s1.out;have s2:=hid s2.out;clear hst s3 hstep hC hcnt hy hym htk hoy hu kU hyi hya hyk hyn hok hnd;refine wk ?_;exact aq _ _ _ (by omega) (CutL (b:=by simp)) ⟨j+1,_,_,_,rfl,hjl,s1,s2,rfl,rfl⟩
   ·have hyx:¬ y.id=x.id:=fun e=>hjn2 (hjn.2 e)
    have hjn3:¬ (j:Int)=(n:Int):=by omega
    obtain ⟨yi,hyi⟩:=aaR (y.id);obtain ⟨ya,hya⟩:=aaR (aU y.av);obtain ⟨yk,hyk⟩:=aaR (y.av.length);obtain ⟨yn,hyn⟩:=aaR (y.nm);rw [hyi,hya,hyk,hyn] at e6;rw [hya] at fy2;rw [hyn] at fy1 kk4;have hst:=hstep (r:=[y]) (by simp [doE,hyx]);have s3:aA [y]=[.int .i64 yi,dnA yn,.sl ya yk none]:=by rw [<- hyi,<- hya,<- hyk,<- hyn];rfl
    have s1:=hst.1;have s2:=hst.2;rw [s3] at s1;have s1:=hid s1.out;have s2:=hid s2.out;clear hst s3 hstep hC hcnt hy hym htk hoy hu kU hyi hya hyk hyn hok hnd;refine wk ?_;exact aq _ _ _ (by omega) (CutL (b:=by simp)) ⟨j+1,_,_,_,rfl,hjl,s1,s2,rfl,rfl⟩
  ·have hje:j=l.length:=by omega
   subst hje;have j1:¬ (l.length:Int)<(l.length:Int):=by omega
   rw [ahA] at hC hcnt;have fs:AV.frzL (suf.map aw)=suf.map aw:=aO _;refine wk ?_;refine QP rt (ar2 _ _) ?_;rw [sr2];refine af ?_;have e1:=hC.out;have e2:=hcnt.out;rw [agS] at e1 e2;refine h.out _ none ?_ ((aK.set (B:=fun i=>i=rt) L rfl _).trans (aK.app _ _));rw [ar2];simp only [AV.frzL,AV.frz,dnA,fs,e1,e2,fQ]
 rw [if_neg k3] at h ha;by_cases k4:k=4
 ·subst k4;have htl:tn.length<=32:=(ht.canM hx ha).tok.len;replace h:=hid h;clear ha hable hL hk14;refine acg d7 ?_;refine bi (l:=[]) (n:=0) 7 3 rfl (ahQ 3).symm ?_;simp only [ahy,ahD,ahZ,aiU,ahz,aig,ah3];refine ah (fun m T' L'=>∃ (j cnt:Nat) (C:List AV) (X:List Blk),m=l.length - j/\j<=l.length/\Hid (C=aA ((l.take j).flatMap (doE 4 x.id dn tn v)))/\Hid (cnt=((l.take j).flatMap (doE 4 x.id dn tn v)).length)/\T'=[(25,.int .i64 (j:Int)),(24,.int .i64 l.length),(23,.sl (aA l) l.length c),(7,.gsl C cnt (L.length+1) 3),(6,.int .i64 (n:Int)),(3,.ptr L.length 0),(0,.ptr rt 0)]/\L'=L++(.cells [.int .i64 4,dnA dn,dnA tn,.sl (aU v) v.length none] :: .spare cnt 3::X)) (CutS (b:=by simp)) ⟨0,0,[],[],rfl,ahp _,hid rfl,hid rfl,rfl,by simp⟩ ?_;rintro _ _ _ ⟨j,cnt,C,X,rfl,hj,hC,hcnt,rfl,rfl⟩;have hgX:∀ (a s b:Blk) (Y:List Blk),(L++a::s::(X++b::Y))[L.length+(X.length+1+1)]?=some b:=fun a s b Y=>by
   rw [ahu (by omega),show L.length+(X.length+1+1) - L.length=X.length+1+1 by omega,aii,aii,ahu (ahn _)];simp
  have hsX:∀ (a s b b':Blk) (Y:List Blk),(L++a::s::(X++b::Y)).set (L.length+(X.length+1+1)) b'=L++a::s::(X++b'::Y):=fun a s b b' Y=>by
   rw [ahP _ _ (by omega),show L.length+(X.length+1+1) - L.length=X.length+1+1 by omega,aiB,aiB,ahP _ _ (ahn _)];simp
  have hcb:cnt<=l.length:=by
   rw [hcnt.out];exact ahV (S8 _ _ _ _ _ _) (by simp;omega)
  by_cases hjl:j<l.length
  ·have j1:(j:Int)<(l.length:Int):=by omega
   have j2:=ace j (by omega);have e6:=gQ hjl;have e7:j * 3+3<=(aA l).length:=by rw [hel];omega
   have hym:l.getD j default∈l:=by simp [hjl]
   have hjn:j=n↔(l.getD j default).id=x.id:=by
    rw [<- hxe];constructor
    ·intro e;rw [e]
    ·intro e;have e2:=ht.byI hym (by simp [hlt]:l.getD n default∈l) e;rw [ahE,ahE,ahB hjl,ahB hlt] at e2;simp only [ah9] at e2;rcases ajF j n with q|q|q
     ·exact absurd e2 (aiL.1 hnd.out j n hjl hlt q)
     ·exact q
     ·exact absurd e2.symm (aiL.1 hnd.out n j hlt hjl q)
   have htk:l.take (j+1)=l.take j++[l.getD j default]:=by rw [ahK hjl];simp [hjl]
   obtain ⟨y,hy⟩:=aaR (l.getD j default);rw [hy] at e6 hym htk
   try rw [hy] at hjn
   unfold rW atR at e6;have hoy:=hok.out y hym;have kk4:=@hid _ (fun {L:List Blk} {K:afC}=>kU.out y hym (L:=L) (K:=K));obtain ⟨u,hu⟩:=aaR (cu y.nm dn);rw [hu] at kk4;have hstep:∀ {r:List aB},doE 4 x.id dn tn v y=r->Hid (C++aA r=aA ((l.take (j+1)).flatMap (doE 4 x.id dn tn v)))/\Hid (cnt+r.length=((l.take (j+1)).flatMap (doE 4 x.id dn tn v)).length):=fun {r} e=>by
    rw [htk,akh,ahY,ajB,ahO,e,kl,ahy,<- hC.out,<- hcnt.out];exact ⟨hid rfl,hid rfl⟩
   have fy1:AV.frzL (y.nm.map aw)=y.nm.map aw:=aO _;have fy2:=dp y.av;by_cases hjn2:j=n
   ·have hyx:=hjn.1 hjn2;subst hjn2;cases u with
    | true =>
      have hyle:dn.length<=y.nm.length:=by
       have:=(cK.1 hu).2.2.length_le
       rwa [be,be] at this
      have hy32:=hoy.len;have hdl:=hod.len;obtain ⟨Z,hZe⟩:=aaR (gx y.nm dn.length tn);have hZl:Z.length<=1100000/\∀ r∈Z,r.length<=1100000:=by
       rw [<- hZe];unfold gx;refine ⟨by simp;omega,fun r hr=>?_⟩;rcases ahr.1 hr with hr|hr
       ·exact (hoy.m.b.2 r (ajA hr))
       ·exact htm.b.2 r hr
      have kk5:Hid (Ctr Tryz.prog 48 [dnA y.nm,.int .i64 (dn.length:Int),dnA tn] (dnA Z)):=@hid _ (by
       intro L K q;exact Wj (by omega) (by omega) hyle (by rw [hZe];exact q))
      have kk6:Hid (Ctr Tryz.prog 36 [dnA Z] (dnA Z)):=@hid _ (by intro L K q;exact ZD hZl.1 hZl.2 q);have fZ:AV.frzL (Z.map aw)=Z.map aw:=aO _;obtain ⟨yi,hyi⟩:=aaR (y.id);obtain ⟨ya,hya⟩:=aaR (aU y.av);obtain ⟨yk,hyk⟩:=aaR (y.av.length);obtain ⟨yn,hyn⟩:=aaR (y.nm);rw [hyi,hya,hyk,hyn] at e6;rw [hya] at fy2;rw [hyn] at fy1 kk4 kk5;have hst:=hstep (r:=[{ y with nm:=Z,av:=v }]) (by simp [doE,hyx,hu,hZe]);have s3:aA [{ y with nm:=Z,av:=v }]=[.int .i64 yi,dnA Z,.sl (aU v) v.length none]:=by rw [<- hyi];rfl
      have s1:=hst.1;have s2:=hst.2;rw [s3] at s1;have s1:=hid s1.out;have s2:=hid s2.out;clear hZe hZl hyle hst s3 hstep hC hcnt hy hym htk hoy hu kU hyi hya hyk hyn hok hnd;refine wk ?_;exact aq _ _ _ (by omega) (CutL (b:=by simp)) ⟨j+1,_,_,_,rfl,hjl,s1,s2,rfl,rfl⟩
    | false =>
      have:=ht.byI hym hxl hyx;subst this;rw [hxu] at hu;cases hu
   ·have hyx:¬ y.id=x.id:=fun e=>hjn2 (hjn.2 e)
    have hjn3:¬ (j:Int)=(n:Int):=by omega
    cases u with
    | true =>
      have hyle:dn.length<=y.nm.length:=by
       have:=(cK.1 hu).2.2.length_le
       rwa [be,be] at this
      have hy32:=hoy.len;have hdl:=hod.len;obtain ⟨Z,hZe⟩:=aaR (gx y.nm dn.length tn);have hZl:Z.length<=1100000/\∀ r∈Z,r.length<=1100000:=by
       rw [<- hZe];unfold gx;refine ⟨by simp;omega,fun r hr=>?_⟩;rcases ahr.1 hr with hr|hr
       ·exact (hoy.m.b.2 r (ajA hr))
       ·exact htm.b.2 r hr
      have kk5:Hid (Ctr Tryz.prog 48 [dnA y.nm,.int .i64 (dn.length:Int),dnA tn] (dnA Z)):=@hid _ (by
       intro L K q;exact Wj (by omega) (by omega) hyle (by rw [hZe];exact q))
      have kk6:Hid (Ctr Tryz.prog 36 [dnA Z] (dnA Z)):=@hid _ (by intro L K q;exact ZD hZl.1 hZl.2 q);have fZ:AV.frzL (Z.map aw)=Z.map aw:=aO _;obtain ⟨yi,hyi⟩:=aaR (y.id);obtain ⟨ya,hya⟩:=aaR (aU y.av);obtain ⟨yk,hyk⟩:=aaR (y.av.length);obtain ⟨yn,hyn⟩:=aaR (y.nm);rw [hyi,hya,hyk,hyn] at e6;rw [hya] at fy2;rw [hyn] at fy1 kk4 kk5;have hst:=hstep (r:=[{ y with nm:=Z }]) (by simp [doE,hyx,hu,hZe]);have s3:aA [{ y with nm:=Z }]=[.int .i64 yi,dnA Z,.sl ya yk none]:=by rw [<- hyi,<- hya,<- hyk];rfl
      have s1:=hst.1;have s2:=hst.2;rw [s3] at s1;have s1:=hid s1.out;have s2:=hid s2.out;clear hZe hZl hyle hst s3 hstep hC hcnt hy hym htk hoy hu kU hyi hya hyk hyn hok hnd;refine wk ?_;exact aq _ _ _ (by omega) (CutL (b:=by simp)) ⟨j+1,_,_,_,rfl,hjl,s1,s2,rfl,rfl⟩
    | false =>
      obtain ⟨yi,hyi⟩:=aaR (y.id);obtain ⟨ya,hya⟩:=aaR (aU y.av);obtain ⟨yk,hyk⟩:=aaR (y.av.length);obtain ⟨yn,hyn⟩:=aaR (y.nm);rw [hyi,hya,hyk,hyn] at e6;rw [hya] at fy2;rw [hyn] at fy1 kk4;have hst:=hstep (r:=[y]) (by simp [doE,hyx,hu]);have s3:aA [y]=[.int .i64 yi,dnA yn,.sl ya yk none]:=by rw [<- hyi,<- hya,<- hyk,<- hyn];rfl
      have s1:=hst.1;have s2:=hst.2;rw [s3] at s1;have s1:=hid s1.out;have s2:=hid s2.out;clear hst s3 hstep hC hcnt hy hym htk hoy hu kU hyi hya hyk hyn hok hnd;refine wk ?_;exact aq _ _ _ (by omega) (CutL (b:=by simp)) ⟨j+1,_,_,_,rfl,hjl,s1,s2,rfl,rfl⟩
  ·have hje:j=l.length:=by omega
   subst hje;have j1:¬ (l.length:Int)<(l.length:Int):=by omega
   rw [ahA] at hC hcnt;have fs:AV.frzL (suf.map aw)=suf.map aw:=aO _;refine wk ?_;refine QP rt (ar2 _ _) ?_;rw [sr2];refine af ?_;have e1:=hC.out;have e2:=hcnt.out;rw [agR] at e1 e2;refine h.out _ none ?_ ((aK.set (B:=fun i=>i=rt) L rfl _).trans (aK.app _ _));rw [ar2];simp only [AV.frzL,AV.frz,dnA,fs,e1,e2,fQ]
 exact absurd (by omega:k<1\/4<k) hk14
theorem agD {suf:List Rdn} {last:Int} {l:List aB} (ht:TOk suf last l) (hn:l.length<=900000) (hl0:0<=last) (hl1:last<=1000000) {rt:Nat} {c:Option Nat} {L:List Blk} (hL:L[rt]?=some (.cells [dnA suf,.sl (aA l) l.length c,.int .i64 last]))
  {dn tn:List Rdn} {k:Int} {v:List Atr} (hdm:dnM dn) (htm:dnM tn) (hvl:v.length<=1100000) (hvz:∀ a∈v,a.2.length<=1100000) {K:afC}
  (h:∀ L' c',L'[rt]?=some (.cells [dnA suf,.sl (aA (doT suf l last k dn tn v).1) (doT suf l last k dn tn v).1.length c',.int .i64 (doT suf l last k dn tn v).2])->aK (fun i=>i=rt) L L'->K (.int .i64 (d8 suf l k dn tn)) L') :
  afB 21 [.ptr rt 0,.agg [.int .i64 k,dnA dn,dnA tn,atR v]] L K:=by
 by_cases ha:d8 suf l k dn tn=0
 ·exact afI ht hn hl0 hl1 hL hdm htm hvl hvz ha (by rw [ha] at h;exact h)
 have hrl:=(ahm.1 hL).1;have ar:∀ X:List Blk,(L++X)[rt]?=some (.cells [dnA suf,.sl (aA l) l.length c,.int .i64 last]):=fun X=>by rw [ahq hrl];exact hL
 have kk1:Hid (∀ {X:List Blk} {K:afC},K (.int .i64 (d8 suf l k dn tn)) (L++X)->afB 45 [.ptr rt 0,.agg [.int .i64 k,dnA dn,dnA tn,.sl (aU v) v.length none]] (L++X) K):=@hid _ (by
  intro X K q;exact ZQ ht (by omega) (ar X) hdm htm q)
 unfold doT at h;rw [if_pos ha] at h;obtain ⟨z,hz⟩:=aaR (d8 suf l k dn tn);rw [hz] at kk1 h ha;have j1:¬ z=0:=ha;have h2:Hid (K (.int .i64 z) (L++[.cells [.int .i64 k,dnA dn,dnA tn,.sl (aU v) v.length none]])):=hid (h _ c (ar _) (aK.app _ _));clear h ht hL hz;unfold atR;refine acg d7 ?_;exact af h2.out
end Go.Proofs.YtobihfefmlgaoaaGreat.Av
set_option maxRecDepth 100000
namespace Go.Proofs.YtobihfefmlgaoaaGreat.Av
open Go
def Ki:LSO:=[An 4]
def Kh:LSO:=[Aa 9 0,Aj 10 28 9,Aa 11 1,Am 12 11,Ad 13 1 12,Ab 14 1 13,Ae 15 14,AM 16 10 15,Aa 17 16,.grp none 17 false
 [Ag 18 17 0,Bx 19 17 9 18,Ag 20 17 1,BG 21 17 20,A3 22 17 0 21,A1 23 17 1 22,Bw 24 17 29 19 23,AY 25 17 24]
 26 (tm 25)]
def Kg:LSO:=[An 4]
def Kf:LSO:=[Aa 27 1,Am 28 27,Ad 29 1 28,Ab 30 1 29,Ae 31 30,Ac 32 0]
def Ke:LSO:=[Ak 33 32 31]
def Kc:LSO:=[Al 34 3 30 32,As 35 3 34,BA 6,Af 3 6 35]
def Kb:LSO:=[Aa 37 0,Ad 38 0 6,Ab 39 1 38,Ay 40 7 37 39,Aa 36 40,Aq 41 36,Ar 42 36,Aa 7 41,Aa 8 42]
def Ka:LSO:=[Aa 43 0,Ad 44 1 6,Ab 45 1 44,Ay 46 24 43 45,Ad 47 0 6,Ab 48 1 47,AM 49 46 48,Aa 50 49,.grp none 50 false
 [Ag 51 50 7,A3 52 50 1 6,A1 53 50 1 52,Bw 54 50 29 51 53,AY 55 50 54]
 56 (tm 55),Aa 57 56,.grp none 57 false
 [Ag 58 57 8,A3 59 57 2 6,A1 60 57 1 59,Bw 61 57 30 58 60,AY 62 57 61]
 63 (tm 62),Aa 64 63,.grp none 64 false
 [Ag 65 64 0,A3 66 64 0 6,A1 67 64 1 66,Bw 68 64 31 65 67,Ag 69 64 1,A3 70 64 0 6,A1 71 64 1 70,Bw 72 64 32 69 71,BF 73 64 68 72]
 74 (tm 73)]
def J9:LSO:=[An 4]
def J8:LSO:=[Ah 75 32 1,Aa 32 75]
def GE:LSO:=[AC 4]
def zr:aS:=⟨76,(.seq (.sreg Ki [])
 (.seq (.seq (.sdreg Kh [.pure,(.read 0 0),.pure,(.read 0 0),.pure,(.read 0 0),(.read 0 0),.pure,.pure,.pure,(.read 0 0),.pure,(.read 0 0),.pure,(.read 0 0)] Cy)
 (.cond (tm 26) (.seq (.sreg Kg [])
 .ret)
 .skip))
 (.seq (.seq (.sreg Kf CB)
 (.block 0 (.loop (.seq (.sreg Ke [])
 (.seq (.cond (tm 33) .skip
 (.exit 0))
 (.seq (.block 1 (.seq (.sreg Kc Cq)
 (.seq (.sreg Kb C5)
 (.seq (.sdreg Ka [.pure,.pure,(.read 0 0),(.read 0 0),.pure,(.read 0 0),.pure,.pure,.pure,.pure,(.read 0 0),(.read 0 0),.pure,.pure,.pure,.pure,.pure,(.read 0 0),(.read 0 0),.pure,.pure,.pure,.pure,.pure,(.read 0 0),(.read 0 0),.pure,.pure,(.read 0 0)] CK)
 (.cond (tm 74) (.seq (.sreg J9 [])
 .ret)
 .skip)))))
 (.sreg J8 Cp)))))))
 (.seq (.sreg GE [])
 .ret)))),[(.tmp 4)]⟩
attribute [push_cast] Ki Kh Kg Kf Ke Kc Kb Ka J9 J8 GE
theorem SP:aT Tryz.prog (fun _ _=>1) 10=some zr.raw:=by kernel_rfl
attribute [push_cast] zr
set_option maxHeartbeats 8000000
set_option maxRecDepth 100000
theorem Tn {l:List aB} {x:aB} (h:ux l x.id=some x):scT l x.id 2=(scL l x 2).map (·.id):=by
 unfold scT;rw [h];exact if_neg (by omega)
theorem SU {suf:List Rdn} {last:Int} {l:List aB} (ht:TOk suf last l) {x y:aB} {dn:List Rdn} (hx:atE l dn=some x):y∈scL l x 2↔y∈l/\cu y.nm dn=true:=by
 obtain ⟨hd,hxl,e⟩:=cH hx;unfold scL;rw [List.Perm.mem_iff (aiZ _ _),ah5];refine and_congr_right fun hy=>?_
 unfold eK;rw [decide_eq_true (rfl:(2:Int)=2),Bool.true_or,ajd,cK,cK,e];exact ⟨fun ⟨a,_,c⟩=>⟨a,hd,c⟩,fun ⟨a,_,c⟩=>⟨a,ht.ok x hxl,c⟩⟩
theorem V5 (l:List aB) (x:aB) (s:Int):(scL l x s).length<=l.length:=by
 unfold scL;rw [aku];exact ai5 _ _
theorem aeY {suf:List Rdn} {last:Int} {l:List aB} (ht:TOk suf last l) {x:aB} {dn tn:List Rdn} (hx:atE l dn=some x):Zm l dn tn=(scL l x 2).any fun y => !decide (OkD (gx y.nm dn.length tn)):=by
 rw [Bool.eq_iff_iff,Zm,aiY,aiY];constructor
 ·rintro ⟨y,hy,h⟩;rw [aht] at h;exact ⟨y,(SU ht hx).2 ⟨hy,h.1⟩,h.2⟩
 ·rintro ⟨y,hy,h⟩;obtain ⟨h1,h2⟩:=(SU ht hx).1 hy;exact ⟨y,h1,by rw [aht];exact ⟨h2,h⟩⟩
theorem afz {suf:List Rdn} {last:Int} {l:List aB} (ht:TOk suf last l) (hln:l.length<=1100000) {L:List Blk} {iv mn mi:Nat} {nb bn:Int->Nat} {ck ci:Nat} {rs:List TKy} (hc:bu L iv mn mi nb bn ck ci rs suf last l)
  {dn tn:List Rdn} {k:Int} {v:AV} {x:aB} (hx:atE l dn=some x) (htb:dnB tn) {K:afC} (h:K (.int .i64 (Wk suf l x.id dn tn)) L) :
  afB 80 [.ptr iv 0,.int .i64 x.id,.agg [.int .i64 k,dnA dn,dnA tn,v]] L K:=by
 obtain ⟨hd,hxl,hxe⟩:=cH hx;have hsb:=ht.sok.m.b;have hdb:=hd.m.b;have hv:=hc.v;have hivl:iv<L.length:=(ahm.1 hv).1;have av:∀ X:List Blk,(L++X)[iv]?=some (.cells [dnA suf,.lmap mn,.lmap mi,.int .i64 last]):=fun X=>by rw [ahq hivl];exact hv
 obtain ⟨⟨ps,pe⟩,hp⟩:∃ q,prS tn=q:=⟨_,rfl⟩;have kk1:Hid (Ctr Tryz.prog 27 [dnA tn] (.tup [.str ps,.int .i64 pe])):=@hid _ (by intro L K q;exact uf htb.1 htb.2 (by rw [hp];exact q));have kk2:Hid (∀ {v:Nat} {L:List Blk} {K:afC},K (.bool (GT dn suf)) L->afB 79 [.ptr v 0,dnA dn,dnA suf] L K):=@hid _ (by intro v L K q;exact Zz hdb hsb q);have p1:OkD tn↔pe=0:=by unfold OkD;rw [hp]
 unfold Wk at h;by_cases c1:GT dn suf=true
 ·rw [if_pos c1] at h;rw [c1] at kk2;replace h:=hid h;clear hc hp p1 hdb hsb;refine acg bH ?_;exact ab rfl h.out
 rw [if_neg c1] at h;rw [akg.2 c1] at kk2;by_cases c2:pe=0;rotate_left
 ·rw [if_pos (.inl fun c=>c2 (p1.1 c))] at h;replace h:=hid h;clear hc hp p1 hdb hsb;refine acg bH ?_;exact ab rfl h.out
 have hto:=p1.2 c2;have ht32:=hto.len;subst c2;by_cases c3:tn=[]
 ·rw [if_pos (.inr c3)] at h;replace h:=hid h;subst c3;clear hc hp p1 hdb hsb;refine acg bH ?_;exact ab rfl h.out
 rw [if_neg (fun c=>c.elim (fun c=>c hto) c3)] at h;have hl3:¬ (tn.length:Int)=0:=fun c=>c3 (ahX.1 (by omega))
 have hl4:(1:Int)<=(tn.length:Int):=by omega
 have htt:tn.tail.length=tn.length - 1:=ai1;have hdr:List.take (tn.length - 1) (List.drop 1 (tn.map aw))=tn.tail.map aw:=by rw [ajU,List.map_tail,ah0 (by simp)]
 have hot:=hto.tail;have kk3:Hid (∀ {c:Option Nat} {L:List Blk} {K:afC},K (.bool (cu tn.tail dn)) L->afB 110 [.sl (List.take (tn.length - 1) (List.drop 1 (tn.map aw))) (tn.length - 1) c,dnA dn] L K):=@hid _ (by
  intro c L K q;rw [hdr,<- htt];exact ZB hot.m.b hdb q)
 have kf:Hid (∀ {c:Option Nat} {L':List Blk} {K:afC} (d:List Rdn) (X:List Blk),dnB d->K (.int .i64 (aY l d)) (L++X)->afB 24 [.ptr iv 0,.sl (d.map aw) d.length c] (L++X) K):=@hid _ (by
  intro c L' K d X hdd q;exact yY hdd ht (hc.app X) q)
 have kk4:Hid (∀ {c:Option Nat} {X:List Blk} {K:afC},K (.int .i64 (aY l tn.tail)) (L++X)->afB 24 [.ptr iv 0,.sl (List.take (tn.length - 1) (List.drop 1 (tn.map aw))) (tn.length - 1) c] (L++X) K):=@hid _ (by
  intro c X K q;rw [hdr,<- htt];exact kf.out (L':=L) _ X hot.m.b q)
 by_cases c4:cu tn.tail dn=true
 ·rw [if_pos c4] at h;rw [c4] at kk3;replace h:=hid h;clear hc hp p1 hdb hsb kf kk4 hdr;refine acg bH ?_;exact ab rfl h.out
 rw [if_neg c4] at h;rw [akg.2 c4] at kk3;by_cases c5:atE l tn.tail=none
 ·rw [if_pos c5] at h;rw [ht.find0.2 c5] at kk4;replace h:=hid h;clear hc hp p1 hdb hsb kf hdr;refine acg bH ?_;exact ab rfl h.out
 rw [if_neg c5] at h;have c5':¬ aY l tn.tail=0:=fun c=>c5 (ht.find0.1 c)
 have kk5:Hid (∀ {X:List Blk} {K:afC},K (.int .i64 (aY l tn)) (L++X)->afB 24 [.ptr iv 0,dnA tn] (L++X) K):=@hid _ (by
  intro X K q;exact kf.out (L':=L) _ X hto.m.b q)
 obtain ⟨z,hz⟩:=aaR (aY l tn.tail);rw [hz] at kk4 c5';have hoth:YJ l x.id tn=(decide (0<aY l tn) && decide (aY l tn≠x.id)):=by
  unfold YJ aY;cases hq:atE l tn with
  | none=>simp
  | some y =>
    have:=(ht.ids y (cH hq).2.1).1;simp only;rw [decide_eq_true (by omega:0<y.id),aid]
 rw [hoth] at h;obtain ⟨w,hw⟩:=aaR (aY l tn);rw [hw] at kk5 h;obtain ⟨xi,hxi⟩:=aaR (x.id);rw [hxi] at h ⊢;by_cases c6:0<w/\w≠xi
 ·obtain ⟨c6,c7⟩:=c6;have c6':w > 0:=c6;rw [if_pos (by rw [decide_eq_true c6,decide_eq_true c7];rfl)] at h;replace h:=hid h;clear hc hp p1 hdb hsb kf hdr;refine acg bH ?_;exact ab rfl h.out
 rw [if_neg (by
  intro c;rw [aht,decide_eq_true_eq,decide_eq_true_eq] at c;exact c6 c)] at h
 have c8:w<=0\/w=xi:=by omega
 rw [aeY ht hx] at h;have hsc:scT l xi 2=(scL l x 2).map (·.id):=by rw [<- hxi];exact Tn (ht.ent hxl)
 have kk6:Hid (∀ {X:List Blk} {K:afC},K (.sl (((scL l x 2).map (·.id)).map (AV.int .i64)) (scL l x 2).length none) (L++X)->afB 23 [.ptr iv 0,.int .i64 xi,.int .i64 2] (L++X) K):=@hid _ (by
  intro X K q;refine Td ht hln (hc.app X) ?_;rw [hsc,ahF];exact q)
 obtain ⟨sc,hsce⟩:=aaR (scL l x 2);have hscl:=V5 l x 2;have hscm:=fun y=>(SU (y:=y) ht hx).1
 rw [hsce] at kk6 h hscl hscm;replace hscm:=hid hscm;replace h:=hid h;replace hc:=hid hc;replace ht:=hid ht;clear hp p1 hdb hsb kf hdr hsc hsce hoth hw hz hxi;have c9:(¬ 0<w/\¬ w > 0)\/(0<w/\w > 0/\xi=w):=by omega
 clear c8 c6;have hdl:=hd.len;rcases c9 with ⟨c9,c9'⟩|⟨c9,c9',rfl⟩
 all_goals
  refine acg bH ?_;refine ah (fun m T' L'=>∃ j:Nat,m=sc.length - j/\j<=sc.length/\Hid (∀ i,i<j->OkD (gx (sc.getD i default).nm dn.length tn))/\T'=[(68,.int .i64 (j:Int)),(67,.int .i64 sc.length),(66,.sl ((sc.map (·.id)).map (AV.int .i64)) sc.length none),(5,.ptr L.length 0),(0,.ptr iv 0)]/\L'=L++[.cells [.int .i64 k,dnA dn,dnA tn,v]]) (CutS (b:=by simp)) ⟨0,rfl,ahp _,hid (fun i hi=>absurd hi (aja _)),rfl,rfl⟩ ?_;rintro _ _ _ ⟨j,rfl,hj,hI,rfl,rfl⟩;by_cases hlt:j<sc.length
  ·have g1:(j:Int)<(sc.length:Int):=by omega
   have g2:=ace j (by omega);obtain ⟨y,hy⟩:=aaR (sc.getD j default);have hym:y∈sc:=by rw [<- hy];simp [hlt]
   obtain ⟨hyl,hyu⟩:=hscm.out y hym;have e1:((sc.map (·.id)).map (AV.int .i64)).getD j .undef=.int .i64 y.id:=by rw [<- hy];simp [hlt]
   have e2:j<((sc.map (·.id)).map (AV.int .i64)).length:=by simpa using hlt
   rcases (hc.out.app [.cells [.int .i64 k,dnA dn,dnA tn,v]]).node y.id with ⟨f1,_⟩|⟨x',n,f1,_,_,f2,f3⟩
   ·rw [ht.out.ent hyl] at f1;cases f1
   rw [ht.out.ent hyl] at f1;cases f1;unfold lv at f3;have hoy:=ht.out.ok y hyl;have hyle:dn.length<=y.nm.length:=by
    have:=(cK.1 hyu).2.2.length_le
    rwa [be,be] at this
   have hy32:=hoy.len;have an:=(hc.out.app [.cells [.int .i64 k,dnA dn,dnA tn,v]]).n;obtain ⟨yi,hyi⟩:=aaR (y.id);obtain ⟨yn,hyn⟩:=aaR (y.nm);rw [hyi] at e1 f2 f3;rw [hyn] at f3 hyle hy32 hoy;obtain ⟨q,hq⟩:=aaR (yn.length - dn.length);have w1:IntKind.i64.wrap ((yn.length:Int) - (dn.length:Int))=(q:Int):=by rw [ac (by omega) (by omega)];omega
   have w2:(q:Int)<=(yn.length:Int):=by omega
   have hkf:bg .int (.int .i64 yi)=true:=rfl;obtain ⟨Z,hZ⟩:=aaR (gx yn dn.length tn);have hZe:yn.take q++tn=Z:=by rw [<- hZ,<- hq];rfl
   have hZb:dnB Z:=by
    rw [<- hZe];refine ⟨by simp;omega,fun r hr=>?_⟩;rcases ahr.1 hr with hr|hr
    ·exact hoy.m.b.2 r (ajA hr)
    ·exact htb.2 r hr
   have kk7:Hid (∀ {c:Option Nat} {L:List Blk} {K:afC},K (dnA Z) L->afB 25 [dnA tn,.sl (List.take q (yn.map aw)) q c] L K):=@hid _ (by
    intro c L K u;rw [<- ajV];exact Z6 hZe (by rw [ail];omega) rfl hZb.1 hZb.2 u)
   obtain ⟨⟨zs,ze⟩,hzp⟩:∃ u,prS Z=u:=⟨_,rfl⟩;have kk1:Hid (Ctr Tryz.prog 27 [dnA Z] (.tup [.str zs,.int .i64 ze])):=@hid _ (by intro L K u;exact uf hZb.1 hZb.2 (by rw [hzp];exact u));have pz:OkD Z↔ze=0:=by unfold OkD;rw [hzp]
   by_cases hz0:ze=0
   ·have hI':=hid (fun i (hi:i<j+1)=>show OkD (gx (sc.getD i default).nm dn.length tn) from by
     by_cases e:i=j
     ·subst e;rw [hy,hyn,hZ];exact pz.2 hz0
     ·exact hI.out i (by omega))
    subst hz0;clear hI hy hym hyl hyu hoy hyle hyi hyn hq hZ hZe hZb hzp pz kk2 kk3 kk4 kk5 kk6;refine wk ?_;exact aq _ _ _ (by omega) (CutL (b:=by simp)) ⟨j+1,rfl,hlt,hI',rfl,rfl⟩
   ·have hbad:(sc.any fun y => !decide (OkD (gx y.nm dn.length tn)))=true:=aiY.2 ⟨y,hym,by rw [hyn,hZ,decide_eq_false (fun c=>hz0 (pz.1 c))];rfl⟩;have h':=h.out;rw [if_pos hbad] at h';replace h':=hid h';clear hI hy hym hyl hyu hoy hyle hyi hyn hq hZ hZe hZb hzp pz kk2 kk3 kk4 kk5 kk6 hbad;refine wk ?_;exact ab rfl h'.out
  ·have hje:j=sc.length:=by omega
   subst hje;have g1:¬ (sc.length:Int)<(sc.length:Int):=by omega
   have hgood:¬ (sc.any fun y => !decide (OkD (gx y.nm dn.length tn)))=true:=fun c=>by
    obtain ⟨y,hy,hb⟩:=aiY.1 c;obtain ⟨i,hi,rfl⟩:=aiv.1 hy;have:=hI.out i hi;rw [show sc.getD i default=sc[i] by simp [hi]] at this;rw [decide_eq_true this] at hb;cases hb
   have h':=h.out;rw [if_neg hgood] at h';replace h':=hid h';clear hI hgood;refine wk ?_;exact ab rfl h'.out
theorem OH {suf:List Rdn} {last:Int} {l:List aB} (ht:TOk suf last l) (hln:l.length<=1100000) {L:List Blk} {iv mn mi:Nat} {nb bn:Int->Nat} {ck ci:Nat} {rs:List TKy} (hc:bu L iv mn mi nb bn ck ci rs suf last l)
  {dn tn:List Rdn} {k:Int} {v:AV} (hdb:dnB dn) (htb:dnB tn) {K:afC} (h:K (.int .i64 (d8 suf l k dn tn)) L) :
  afB 41 [.ptr iv 0,.agg [.int .i64 k,dnA dn,dnA tn,v]] L K:=by
 have hsb:=ht.sok.m.b;have hv:=hc.v;have hn:=hc.n;have hivl:iv<L.length:=(ahm.1 hv).1;have hmnl:mn<L.length:=(ahm.1 hn).1;have av:∀ X:List Blk,(L++X)[iv]?=some (.cells [dnA suf,.lmap mn,.lmap mi,.int .i64 last]):=fun X=>by rw [ahq hivl];exact hv
 have an:∀ X:List Blk,(L++X)[mn]?=some (.map (l.map (fz nb bn)) ck):=fun X=>by rw [ahq hmnl];exact hn
 have hnl:(l.map (fz nb bn)).length=l.length:=ahF _;obtain ⟨⟨ps,pe⟩,hp⟩:∃ q,prS dn=q:=⟨_,rfl⟩;have kk1:Hid (Ctr Tryz.prog 27 [dnA dn] (.tup [.str ps,.int .i64 pe])):=@hid _ (by intro L K q;exact uf hdb.1 hdb.2 (by rw [hp];exact q));have kk2:Hid (∀ {v:Nat} {L:List Blk} {K:afC},K (.bool (GT dn suf)) L->afB 79 [.ptr v 0,dnA dn,dnA suf] L K):=@hid _ (by intro v L K q;exact Zz hdb hsb q);have p1:OkD dn↔pe=0:=by unfold OkD;rw [hp]
 have kk3:Hid (∀ {X:List Blk} {K:afC},K (.int .i64 (aY l dn)) (L++X)->afB 24 [.ptr iv 0,dnA dn] (L++X) K):=@hid _ (by
  intro X K q;exact yY hdb ht (hc.app X) q)
 obtain ⟨z,hz⟩:=aaR (aY l dn);have hz0:=ht.find0 (d:=dn);rw [hz] at hz0 kk3;unfold d8 at h;by_cases hk:k<1\/4<k
 ·rw [if_pos hk] at h;have d1:¬ k=1:=by omega
  have d2:¬ k=2:=by omega
  have d3:¬ k=3:=by omega
  have d4:¬ k=4:=by omega
  replace h:=hid h;clear hc hp p1 hdb hsb hz0 hz;refine acg aM ?_;exact ab rfl h.out
 rw [if_neg hk] at h;by_cases k1:k=1
 ·subst k1;rw [if_pos rfl] at h;by_cases c1:pe=0;rotate_left
  ·rw [if_pos (fun c=>c1 (p1.1 c))] at h;replace h:=hid h;clear hc hp p1 hdb hsb hz0 hz hk;refine acg aM ?_;exact ab rfl h.out
  have hod:=p1.2 c1;subst c1;rw [if_neg (fun c=>c hod)] at h;by_cases c2:z=0;rotate_left
  ·rw [if_pos (fun c=>c2 (hz0.2 c))] at h;have hzp:0<z:=by
    cases hq:atE l dn with
    | none=>exact absurd (hz0.2 hq) c2
    | some y =>
      have:=(ht.ids y (cH hq).2.1).1;rw [<- hz];unfold aY;rw [hq];simp only;omega
   have hzp':z > 0:=hzp;replace h:=hid h;clear hc hp p1 hdb hsb hz0 hz hk;refine acg aM ?_;exact ab rfl h.out
  subst c2;rw [if_neg (fun c=>c (hz0.1 rfl))] at h;have hdl:=hod.len;obtain ⟨sm,hsm⟩:=aaR (GT dn suf);rw [hsm] at h kk2;have hlast:∀ {h4:K (.int .i64 (if 4096<=l.length then 80 else 0)) L},(4096<=l.length/\K (.int .i64 80) L)\/(¬ 4096<=l.length/\K (.int .i64 0) L):=fun {h4}=>by
   by_cases c:4096<=l.length
   ·rw [if_pos c] at h4;exact .inl ⟨c,h4⟩
   ·rw [if_neg c] at h4;exact .inr ⟨c,h4⟩
  cases sm with
  | true =>
    rw [if_neg (fun c=>by cases c.1)] at h;rcases hlast (h4:=h) with ⟨c,h⟩|⟨c,h⟩
    ·have c':(4096:Int)<=(l.length:Int):=by omega
     have c'':(l.length:Int) ≥ 4096:=c';replace h:=hid h;clear hlast hc hp p1 hdb hsb hz0 hz hk;refine acg aM ?_;exact ab rfl h.out
    ·have c':¬ (4096:Int)<=(l.length:Int):=by omega
     have c'':¬ (l.length:Int) ≥ 4096:=c';replace h:=hid h;clear hlast hc hp p1 hdb hsb hz0 hz hk;refine acg aM ?_;exact ab rfl h.out
  | false =>
    by_cases c3:dn=[]
    ·rw [if_pos ⟨rfl,.inl c3⟩] at h;subst c3;replace h:=hid h;clear hlast hc hp p1 hdb hsb hz0 hz hk;refine acg aM ?_;exact ab rfl h.out
    have hl3:¬ (dn.length:Int)=0:=fun c=>c3 (ahX.1 (by omega))
    have hl4:(1:Int)<=(dn.length:Int):=by omega
    have htt:dn.tail.length=dn.length - 1:=ai1;have hdr:List.take (dn.length - 1) (List.drop 1 (dn.map aw))=dn.tail.map aw:=by rw [ajU,List.map_tail,ah0 (by simp)]
    have kk4:Hid (∀ {c:Option Nat} {X:List Blk} {K:afC},K (.int .i64 (aY l dn.tail)) (L++X)->afB 24 [.ptr iv 0,.sl (List.take (dn.length - 1) (List.drop 1 (dn.map aw))) (dn.length - 1) c] (L++X) K):=@hid _ (by
     intro c X K q;rw [hdr,<- htt];exact yY hod.tail.m.b ht (hc.app X) q)
    have hq0:=ht.find0 (d:=dn.tail);obtain ⟨q,hq⟩:=aaR (aY l dn.tail);rw [hq] at hq0 kk4;by_cases c4:q=0
    ·rw [if_pos ⟨rfl,.inr (hq0.1 c4)⟩] at h;subst c4;replace h:=hid h;clear hlast hc hp p1 hdb hsb hz0 hz hk hdr hq0 hq;refine acg aM ?_;exact ab rfl h.out
    rw [if_neg (fun c=>c.2.elim c3 fun c=>c4 (hq0.2 c))] at h;rcases hlast (h4:=h) with ⟨c,h⟩|⟨c,h⟩
    ·have c':(4096:Int)<=(l.length:Int):=by omega
     have c'':(l.length:Int) ≥ 4096:=c';replace h:=hid h;clear hlast hc hp p1 hdb hsb hz0 hz hk hdr hq0 hq;refine acg aM ?_;exact ab rfl h.out
    ·have c':¬ (4096:Int)<=(l.length:Int):=by omega
     have c'':¬ (l.length:Int) ≥ 4096:=c';replace h:=hid h;clear hlast hc hp p1 hdb hsb hz0 hz hk hdr hq0 hq;refine acg aM ?_;exact ab rfl h.out
 rw [if_neg k1] at h;have hkk:k=2\/k=3\/k=4:=by omega
 cases hx:atE l dn with
 | none =>
   rw [hx] at h;simp only at h;have c2:z=0:=hz0.2 hx;subst c2;replace h:=hid h;clear hc hp p1 hdb hsb hz0 hz hk k1;rcases hkk with rfl|rfl|rfl
   all_goals
    refine acg aM ?_;exact ab rfl h.out
 | some x =>
   rw [hx] at h;simp only at h;obtain ⟨hd,hxl,hxe⟩:=cH hx;have hzx:z=x.id:=by rw [<- hz];unfold aY;rw [hx]
   have hxp:=(ht.ids x hxl).1;have kk5:Hid (∀ {X:List Blk} {K:afC},K (.int .i64 (Wk suf l x.id dn tn)) (L++X)->afB 80 [.ptr iv 0,.int .i64 x.id,.agg [.int .i64 k,dnA dn,dnA tn,v]] (L++X) K):=@hid _ (by
    intro X K q;exact afz ht hln (hc.app X) hx htb q)
   have hkf:bg .int (.int .i64 x.id)=true:=rfl;rcases hc.node x.id with ⟨f1,_⟩|⟨x',n,f1,_,_,f2,f3⟩
   ·rw [ht.ent hxl] at f1;cases f1
   rw [ht.ent hxl] at f1;cases f1;unfold lv at f3;have hnbl:nb x.id<L.length:=(ahm.1 f3).1;have ad:∀ X:List Blk,(L++X)[nb x.id]?=some (.cells [dnA x.nm,.sl (aF (pth x)) x.nm.length none,atR x.av,.int .i64 (aZ (dq l) (NK x.nm):Nat)]):=fun X=>by rw [ahq hnbl];exact f3
   subst hzx;obtain ⟨xi,hxi⟩:=aaR (x.id);obtain ⟨kn,hkn⟩:=aaR (aZ (dq l) (NK x.nm));rw [hxi] at kk3 kk5 hkf f2 ad hxp h;rw [hkn] at ad h;obtain ⟨mv,hmv⟩:=aaR (Wk suf l xi dn tn);rw [hmv] at kk5 h;have g0:¬ xi=0:=by omega
   have hsplit:(kn≠0/\k=2/\K (.int .i64 66) L)\/(kn=0/\k=2/\K (.int .i64 0) L)\/(k=3/\K (.int .i64 0) L)\/(k=4/\K (.int .i64 mv) L):=by
    rcases hkk with rfl|rfl|rfl
    ·by_cases c:kn=0
     ·rw [if_pos rfl,if_neg (fun e=>e c)] at h;exact .inr (.inl ⟨c,rfl,h⟩)
     ·rw [if_pos rfl,if_pos c] at h;exact .inl ⟨c,rfl,h⟩
    ·rw [if_neg (by decide),if_pos rfl] at h;exact .inr (.inr (.inl ⟨rfl,h⟩))
    ·rw [if_neg (by decide),if_neg (by decide)] at h;exact .inr (.inr (.inr ⟨rfl,h⟩))
   clear h hc hp p1 hdb hsb hz0 hz hk k1 hkk hxl hxe hxi hkn hmv hx f3;rcases hsplit with ⟨c,rfl,h⟩|⟨c,rfl,h⟩|⟨rfl,h⟩|⟨rfl,h⟩
   ·have c1:(0:Int)<(kn:Int):=by omega
    have c2:(kn:Int) > 0:=c1;replace h:=hid h;refine acg aM ?_;exact ab rfl h.out
   ·subst c;replace h:=hid h;refine acg aM ?_
    all_goals exact ab rfl h.out
   ·replace h:=hid h;refine acg aM ?_;exact ab rfl h.out
   ·replace h:=hid h;refine acg aM ?_;exact ab rfl h.out
end Go.Proofs.YtobihfefmlgaoaaGreat.Av
