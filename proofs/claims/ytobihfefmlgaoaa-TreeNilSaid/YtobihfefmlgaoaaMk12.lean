/- Joined texts of the walk, made small by a program. -/
import Derived.Test.YtobihfefmlgaoaaMk11
import Derived.Test.YtobihfefmlgaoaaMk10
import Derived.Test.YtobihfefmlgaoaaMk8
import Derived.Test.YtobihfefmlgaoaaMk7
import Derived.Test.YtobihfefmlgaoaaMk5
import Derived.Test.YtobihfefmlgaoaaMk4
import Derived.Test.YtobihfefmlgaoaaRows
import Derived.KernelRfl
set_option linter.unusedSimpArgs false
set_option linter.unusedVariables false
namespace Go.Proofs.Ytobihfefmlgaoaa.Av
open Go
set_option maxHeartbeats 8000000
set_option maxRecDepth 100000
theorem vz {l:List aA} {x:aA} (h:qz l x.id=some x):scT l x.id 2=(scL l x 2).map (·.id):=by
 unfold scT;rw [h];exact if_neg (by omega)
theorem rZ {suf:List Rdn} {last:Int} {l:List aA} (ht:TOk suf last l) {x y:aA} {dn:List Rdn} (hx:atE l dn=some x):y∈scL l x 2↔y∈l/\dJ y.nm dn=true:=by
 obtain ⟨hd,hxl,e⟩:=bF hx;unfold scL;rw [List.Perm.mem_iff (G0 _ _),F9];refine and_congr_right fun hy=>?_
 unfold dE;rw [decide_eq_true (rfl:(2:Int)=2),Bool.true_or,Hi,cc,cc,e];exact ⟨fun ⟨a,_,c⟩=>⟨a,hd,c⟩,fun ⟨a,_,c⟩=>⟨a,ht.ok x hxl,c⟩⟩
theorem xS (l:List aA) (x:aA) (s:Int):(scL l x s).length<=l.length:=by
 unfold scL;rw [Ib];exact Hr _ _
theorem Dj {suf:List Rdn} {last:Int} {l:List aA} (ht:TOk suf last l) {x:aA} {dn tn:List Rdn} (hx:atE l dn=some x):Cc l dn tn=(scL l x 2).any fun y => !decide (OkD (gq y.nm dn.length tn)):=by
 rw [Bool.eq_iff_iff,Cc,Ha,Ha];constructor
 ·rintro ⟨y,hy,h⟩;rw [FG] at h;exact ⟨y,(rZ ht hx).2 ⟨hy,h.1⟩,h.2⟩
 ·rintro ⟨y,hy,h⟩;obtain ⟨h1,h2⟩:=(rZ ht hx).1 hy;exact ⟨y,h1,by rw [FG];exact ⟨h2,h⟩⟩
theorem DW {suf:List Rdn} {last:Int} {l:List aA} (ht:TOk suf last l) (hln:l.length<=1100000) {L:List Blk} {iv mn mi:Nat} {nb bn:Int->Nat} {ck ci:Nat} {rs:List TKy} (hc:a6 L iv mn mi nb bn ck ci rs suf last l)
  {dn tn:List Rdn} {k:Int} {v:AV} {x:aA} (hx:atE l dn=some x) (htb:dnB tn) {K:Fw} (h:K (.int .i64 (vO suf l x.id dn tn)) L) :
  Fv 25 [.ptr iv 0,.int .i64 x.id,.agg [.int .i64 k,dnA dn,dnA tn,v]] L K:=by
 obtain ⟨hd,hxl,hxe⟩:=bF hx;have hsb:=ht.sok.m.b;have hdb:=hd.m.b;have hv:=hc.v;have hivl:iv<L.length:=(Fx.1 hv).1;have av:∀ X:List Blk,(L++X)[iv]?=some (.cells [dnA suf,.lmap mn,.lmap mi,.int .i64 last]):=fun X=>by rw [FC hivl];exact hv
 obtain ⟨⟨ps,pe⟩,hp⟩:∃ q,prS tn=q:=⟨_,rfl⟩;have kk1:Hid (Ctr Try.prog 15 [dnA tn] (.tup [.str ps,.int .i64 pe])):=@hid _ (by intro L K q;exact lm htb.1 htb.2 (by rw [hp];exact q));have kk2:Hid (∀ {v:Nat} {L:List Blk} {K:Fw},K (.bool (qI dn suf)) L->Fv 24 [.ptr v 0,dnA dn,dnA suf] L K):=@hid _ (by intro v L K q;exact xK hdb hsb q);have p1:OkD tn↔pe=0:=by unfold OkD;rw [hp]
 unfold vO at h;by_cases c1:qI dn suf=true
 ·rw [if_pos c1] at h;rw [c1] at kk2;replace h:=hid h;clear hc hp p1 hdb hsb;refine Fu aU ?_;exact ah rfl h.out
 rw [if_neg c1] at h;rw [Bool.eq_false_iff.2 c1] at kk2;by_cases c2:pe=0;rotate_left
 ·rw [if_pos (.inl fun c=>c2 (p1.1 c))] at h;replace h:=hid h;clear hc hp p1 hdb hsb;refine Fu aU ?_;exact ah rfl h.out
 have hto:=p1.2 c2;have ht32:=hto.len;subst c2;by_cases c3:tn=[]
 ·rw [if_pos (.inr c3)] at h;replace h:=hid h;subst c3;clear hc hp p1 hdb hsb;refine Fu aU ?_;exact ah rfl h.out
 rw [if_neg (fun c=>c.elim (fun c=>c hto) c3)] at h;have hl3:¬ (tn.length:Int)=0:=fun c=>c3 (F8.1 (by omega))
 have hl4:(1:Int)<=(tn.length:Int):=by omega
 have htt:tn.tail.length=tn.length - 1:=G6;have hdr:List.take (tn.length - 1) (List.drop 1 (tn.map aI))=tn.tail.map aI:=by rw [List.drop_one,List.map_tail,Gd (by simp)]
 have hot:=hto.tail;have kk3:Hid (∀ {c:Option Nat} {L:List Blk} {K:Fw},K (.bool (dJ tn.tail dn)) L->Fv 35 [.sl (List.take (tn.length - 1) (List.drop 1 (tn.map aI))) (tn.length - 1) c,dnA dn] L K):=@hid _ (by
  intro c L K q;rw [hdr,<- htt];exact xM hot.m.b hdb q)
 have kf:Hid (∀ {c:Option Nat} {L':List Blk} {K:Fw} (d:List Rdn) (X:List Blk),dnB d->K (.int .i64 (aH l d)) (L++X)->Fv 8 [.ptr iv 0,.sl (d.map aI) d.length c] (L++X) K):=@hid _ (by
  intro c L' K d X hdd q;exact mX hdd ht (hc.app X) q)
 have kk4:Hid (∀ {c:Option Nat} {X:List Blk} {K:Fw},K (.int .i64 (aH l tn.tail)) (L++X)->Fv 8 [.ptr iv 0,.sl (List.take (tn.length - 1) (List.drop 1 (tn.map aI))) (tn.length - 1) c] (L++X) K):=@hid _ (by
  intro c X K q;rw [hdr,<- htt];exact kf.out (L':=L) _ X hot.m.b q)
 by_cases c4:dJ tn.tail dn=true
 ·rw [if_pos c4] at h;rw [c4] at kk3;replace h:=hid h;clear hc hp p1 hdb hsb kf kk4 hdr;refine Fu aU ?_;exact ah rfl h.out
 rw [if_neg c4] at h;rw [Bool.eq_false_iff.2 c4] at kk3;by_cases c5:atE l tn.tail=none
 ·rw [if_pos c5] at h;rw [ht.find0.2 c5] at kk4;replace h:=hid h;clear hc hp p1 hdb hsb kf hdr;refine Fu aU ?_;exact ah rfl h.out
 rw [if_neg c5] at h;have c5':¬ aH l tn.tail=0:=fun c=>c5 (ht.find0.1 c)
 have kk5:Hid (∀ {X:List Blk} {K:Fw},K (.int .i64 (aH l tn)) (L++X)->Fv 8 [.ptr iv 0,dnA tn] (L++X) K):=@hid _ (by
  intro X K q;exact kf.out (L':=L) _ X hto.m.b q)
 obtain ⟨z,hz⟩:=Fq (aH l tn.tail);rw [hz] at kk4 c5';have hoth:Bu l x.id tn=(decide (0<aH l tn) && decide (aH l tn≠x.id)):=by
  unfold Bu aH;cases hq:atE l tn with
  | none=>simp
  | some y =>
    have:=(ht.ids y (bF hq).2.1).1;simp only;rw [decide_eq_true (by omega:0<y.id),GY]
 rw [hoth] at h;obtain ⟨w,hw⟩:=Fq (aH l tn);rw [hw] at kk5 h;obtain ⟨xi,hxi⟩:=Fq (x.id);rw [hxi] at h ⊢;by_cases c6:0<w/\w≠xi
 ·obtain ⟨c6,c7⟩:=c6;have c6':w > 0:=c6;rw [if_pos (by rw [decide_eq_true c6,decide_eq_true c7];rfl)] at h;replace h:=hid h;clear hc hp p1 hdb hsb kf hdr;refine Fu aU ?_;exact ah rfl h.out
 rw [if_neg (by
  intro c;rw [FG,decide_eq_true_eq,decide_eq_true_eq] at c;exact c6 c)] at h
 have c8:w<=0\/w=xi:=by omega
 rw [Dj ht hx] at h;have hsc:scT l xi 2=(scL l x 2).map (·.id):=by rw [<- hxi];exact vz (ht.ent hxl)
 have kk6:Hid (∀ {X:List Blk} {K:Fw},K (.sl (((scL l x 2).map (·.id)).map (AV.int .i64)) (scL l x 2).length none) (L++X)->Fv 11 [.ptr iv 0,.int .i64 xi,.int .i64 2] (L++X) K):=@hid _ (by
  intro X K q;refine sh ht hln (hc.app X) ?_;rw [hsc,FS];exact q)
 obtain ⟨sc,hsce⟩:=Fq (scL l x 2);have hscl:=xS l x 2;have hscm:=fun y=>(rZ (y:=y) ht hx).1
 rw [hsce] at kk6 h hscl hscm;replace hscm:=hid hscm;replace h:=hid h;replace hc:=hid hc;replace ht:=hid ht;clear hp p1 hdb hsb kf hdr hsc hsce hoth hw hz hxi;have c9:(¬ 0<w/\¬ w > 0)\/(0<w/\w > 0/\xi=w):=by omega
 clear c8 c6;have hdl:=hd.len;rcases c9 with ⟨c9,c9'⟩|⟨c9,c9',rfl⟩
 all_goals
  refine Fu aU ?_;refine aM (fun m T' L'=>∃ j:Nat,m=sc.length - j/\j<=sc.length/\Hid (∀ i,i<j->OkD (gq (sc.getD i default).nm dn.length tn))/\T'=[(68,.int .i64 (j:Int)),(67,.int .i64 sc.length),(66,.sl ((sc.map (·.id)).map (AV.int .i64)) sc.length none),(5,.ptr L.length 0),(0,.ptr iv 0)]/\L'=L++[.cells [.int .i64 k,dnA dn,dnA tn,v]]) (CutS (b:=by simp)) ⟨0,rfl,FW _,hid (fun i hi=>absurd hi (HO _)),rfl,rfl⟩ ?_;rintro _ _ _ ⟨j,rfl,hj,hI,rfl,rfl⟩;by_cases hlt:j<sc.length
  ·have g1:(j:Int)<(sc.length:Int):=by omega
   have g2:=Ft j (by omega);obtain ⟨y,hy⟩:=Fq (sc.getD j default);have hym:y∈sc:=by rw [<- hy];simp [hlt]
   obtain ⟨hyl,hyu⟩:=hscm.out y hym;have e1:((sc.map (·.id)).map (AV.int .i64)).getD j .undef=.int .i64 y.id:=by rw [<- hy];simp [hlt]
   have e2:j<((sc.map (·.id)).map (AV.int .i64)).length:=by simpa using hlt
   rcases (hc.out.app [.cells [.int .i64 k,dnA dn,dnA tn,v]]).node y.id with ⟨f1,_⟩|⟨x',n,f1,_,_,f2,f3⟩
   ·rw [ht.out.ent hyl] at f1;cases f1
   rw [ht.out.ent hyl] at f1;cases f1;unfold jo at f3;have hoy:=ht.out.ok y hyl;have hyle:dn.length<=y.nm.length:=by
    have:=(cc.1 hyu).2.2.length_le
    rwa [aZ,aZ] at this
   have hy32:=hoy.len;have an:=(hc.out.app [.cells [.int .i64 k,dnA dn,dnA tn,v]]).n;obtain ⟨yi,hyi⟩:=Fq (y.id);obtain ⟨yn,hyn⟩:=Fq (y.nm);rw [hyi] at e1 f2 f3;rw [hyn] at f3 hyle hy32 hoy;obtain ⟨q,hq⟩:=Fq (yn.length - dn.length);have w1:IntKind.i64.wrap ((yn.length:Int) - (dn.length:Int))=(q:Int):=by rw [aw (by omega) (by omega)];omega
   have w2:(q:Int)<=(yn.length:Int):=by omega
   have hkf:aN .int (.int .i64 yi)=true:=rfl;obtain ⟨Z,hZ⟩:=Fq (gq yn dn.length tn);have hZe:yn.take q++tn=Z:=by rw [<- hZ,<- hq];rfl
   have hZb:dnB Z:=by
    rw [<- hZe];refine ⟨by simp;omega,fun r hr=>?_⟩;rcases FE.1 hr with hr|hr
    ·exact hoy.m.b.2 r (List.mem_of_mem_take hr)
    ·exact htb.2 r hr
   have kk7:Hid (∀ {c:Option Nat} {L:List Blk} {K:Fw},K (dnA Z) L->Fv 16 [dnA tn,.sl (List.take q (yn.map aI)) q c] L K):=@hid _ (by
    intro c L K u;rw [<- List.map_take];exact x8 hZe (by rw [GC];omega) rfl hZb.1 hZb.2 u)
   obtain ⟨⟨zs,ze⟩,hzp⟩:∃ u,prS Z=u:=⟨_,rfl⟩;have kk1:Hid (Ctr Try.prog 15 [dnA Z] (.tup [.str zs,.int .i64 ze])):=@hid _ (by intro L K u;exact lm hZb.1 hZb.2 (by rw [hzp];exact u));have pz:OkD Z↔ze=0:=by unfold OkD;rw [hzp]
   by_cases hz0:ze=0
   ·have hI':=hid (fun i (hi:i<j+1)=>show OkD (gq (sc.getD i default).nm dn.length tn) from by
     by_cases e:i=j
     ·subst e;rw [hy,hyn,hZ];exact pz.2 hz0
     ·exact hI.out i (by omega))
    subst hz0;clear hI hy hym hyl hyu hoy hyle hyi hyn hq hZ hZe hZb hzp pz kk2 kk3 kk4 kk5 kk6;refine wk ?_;exact aJ _ _ _ (by omega) (CutL (b:=by simp)) ⟨j+1,rfl,hlt,hI',rfl,rfl⟩
   ·have hbad:(sc.any fun y => !decide (OkD (gq y.nm dn.length tn)))=true:=Ha.2 ⟨y,hym,by rw [hyn,hZ,decide_eq_false (fun c=>hz0 (pz.1 c))];rfl⟩;have h':=h.out;rw [if_pos hbad] at h';replace h':=hid h';clear hI hy hym hyl hyu hoy hyle hyi hyn hq hZ hZe hZb hzp pz kk2 kk3 kk4 kk5 kk6 hbad;refine wk ?_;exact ah rfl h'.out
  ·have hje:j=sc.length:=by omega
   subst hje;have g1:¬ (sc.length:Int)<(sc.length:Int):=by omega
   have hgood:¬ (sc.any fun y => !decide (OkD (gq y.nm dn.length tn)))=true:=fun c=>by
    obtain ⟨y,hy,hb⟩:=Ha.1 c;obtain ⟨i,hi,rfl⟩:=GM.1 hy;have:=hI.out i hi;rw [show sc.getD i default=sc[i] by simp [hi]] at this;rw [decide_eq_true this] at hb;cases hb
   have h':=h.out;rw [if_neg hgood] at h';replace h':=hid h';clear hI hgood;refine wk ?_;exact ah rfl h'.out
theorem o6 {suf:List Rdn} {last:Int} {l:List aA} (ht:TOk suf last l) (hln:l.length<=1100000) {L:List Blk} {iv mn mi:Nat} {nb bn:Int->Nat} {ck ci:Nat} {rs:List TKy} (hc:a6 L iv mn mi nb bn ck ci rs suf last l)
  {dn tn:List Rdn} {k:Int} {v:AV} (hdb:dnB dn) (htb:dnB tn) {K:Fw} (h:K (.int .i64 (cW suf l k dn tn)) L) :
  Fv 13 [.ptr iv 0,.agg [.int .i64 k,dnA dn,dnA tn,v]] L K:=by
 have hsb:=ht.sok.m.b;have hv:=hc.v;have hn:=hc.n;have hivl:iv<L.length:=(Fx.1 hv).1;have hmnl:mn<L.length:=(Fx.1 hn).1;have av:∀ X:List Blk,(L++X)[iv]?=some (.cells [dnA suf,.lmap mn,.lmap mi,.int .i64 last]):=fun X=>by rw [FC hivl];exact hv
 have an:∀ X:List Blk,(L++X)[mn]?=some (.map (l.map (dp nb bn)) ck):=fun X=>by rw [FC hmnl];exact hn
 have hnl:(l.map (dp nb bn)).length=l.length:=FS _;obtain ⟨⟨ps,pe⟩,hp⟩:∃ q,prS dn=q:=⟨_,rfl⟩;have kk1:Hid (Ctr Try.prog 15 [dnA dn] (.tup [.str ps,.int .i64 pe])):=@hid _ (by intro L K q;exact lm hdb.1 hdb.2 (by rw [hp];exact q));have kk2:Hid (∀ {v:Nat} {L:List Blk} {K:Fw},K (.bool (qI dn suf)) L->Fv 24 [.ptr v 0,dnA dn,dnA suf] L K):=@hid _ (by intro v L K q;exact xK hdb hsb q);have p1:OkD dn↔pe=0:=by unfold OkD;rw [hp]
 have kk3:Hid (∀ {X:List Blk} {K:Fw},K (.int .i64 (aH l dn)) (L++X)->Fv 8 [.ptr iv 0,dnA dn] (L++X) K):=@hid _ (by
  intro X K q;exact mX hdb ht (hc.app X) q)
 obtain ⟨z,hz⟩:=Fq (aH l dn);have hz0:=ht.find0 (d:=dn);rw [hz] at hz0 kk3;unfold cW at h;by_cases hk:k<1\/4<k
 ·rw [if_pos hk] at h;have d1:¬ k=1:=by omega
  have d2:¬ k=2:=by omega
  have d3:¬ k=3:=by omega
  have d4:¬ k=4:=by omega
  replace h:=hid h;clear hc hp p1 hdb hsb hz0 hz;refine Fu ay ?_;exact ah rfl h.out
 rw [if_neg hk] at h;by_cases k1:k=1
 ·subst k1;rw [if_pos rfl] at h;by_cases c1:pe=0;rotate_left
  ·rw [if_pos (fun c=>c1 (p1.1 c))] at h;replace h:=hid h;clear hc hp p1 hdb hsb hz0 hz hk;refine Fu ay ?_;exact ah rfl h.out
  have hod:=p1.2 c1;subst c1;rw [if_neg (fun c=>c hod)] at h;by_cases c2:z=0;rotate_left
  ·rw [if_pos (fun c=>c2 (hz0.2 c))] at h;have hzp:0<z:=by
    cases hq:atE l dn with
    | none=>exact absurd (hz0.2 hq) c2
    | some y =>
      have:=(ht.ids y (bF hq).2.1).1;rw [<- hz];unfold aH;rw [hq];simp only;omega
   have hzp':z > 0:=hzp;replace h:=hid h;clear hc hp p1 hdb hsb hz0 hz hk;refine Fu ay ?_;exact ah rfl h.out
  subst c2;rw [if_neg (fun c=>c (hz0.1 rfl))] at h;have hdl:=hod.len;obtain ⟨sm,hsm⟩:=Fq (qI dn suf);rw [hsm] at h kk2;have hlast:∀ {h4:K (.int .i64 (if 4096<=l.length then 80 else 0)) L},(4096<=l.length/\K (.int .i64 80) L)\/(¬ 4096<=l.length/\K (.int .i64 0) L):=fun {h4}=>by
   by_cases c:4096<=l.length
   ·rw [if_pos c] at h4;exact .inl ⟨c,h4⟩
   ·rw [if_neg c] at h4;exact .inr ⟨c,h4⟩
  cases sm with
  | true =>
    rw [if_neg (fun c=>by cases c.1)] at h;rcases hlast (h4:=h) with ⟨c,h⟩|⟨c,h⟩
    ·have c':(4096:Int)<=(l.length:Int):=by omega
     have c'':(l.length:Int) ≥ 4096:=c';replace h:=hid h;clear hlast hc hp p1 hdb hsb hz0 hz hk;refine Fu ay ?_;exact ah rfl h.out
    ·have c':¬ (4096:Int)<=(l.length:Int):=by omega
     have c'':¬ (l.length:Int) ≥ 4096:=c';replace h:=hid h;clear hlast hc hp p1 hdb hsb hz0 hz hk;refine Fu ay ?_;exact ah rfl h.out
  | false =>
    by_cases c3:dn=[]
    ·rw [if_pos ⟨rfl,.inl c3⟩] at h;subst c3;replace h:=hid h;clear hlast hc hp p1 hdb hsb hz0 hz hk;refine Fu ay ?_;exact ah rfl h.out
    have hl3:¬ (dn.length:Int)=0:=fun c=>c3 (F8.1 (by omega))
    have hl4:(1:Int)<=(dn.length:Int):=by omega
    have htt:dn.tail.length=dn.length - 1:=G6;have hdr:List.take (dn.length - 1) (List.drop 1 (dn.map aI))=dn.tail.map aI:=by rw [List.drop_one,List.map_tail,Gd (by simp)]
    have kk4:Hid (∀ {c:Option Nat} {X:List Blk} {K:Fw},K (.int .i64 (aH l dn.tail)) (L++X)->Fv 8 [.ptr iv 0,.sl (List.take (dn.length - 1) (List.drop 1 (dn.map aI))) (dn.length - 1) c] (L++X) K):=@hid _ (by
     intro c X K q;rw [hdr,<- htt];exact mX hod.tail.m.b ht (hc.app X) q)
    have hq0:=ht.find0 (d:=dn.tail);obtain ⟨q,hq⟩:=Fq (aH l dn.tail);rw [hq] at hq0 kk4;by_cases c4:q=0
    ·rw [if_pos ⟨rfl,.inr (hq0.1 c4)⟩] at h;subst c4;replace h:=hid h;clear hlast hc hp p1 hdb hsb hz0 hz hk hdr hq0 hq;refine Fu ay ?_;exact ah rfl h.out
    rw [if_neg (fun c=>c.2.elim c3 fun c=>c4 (hq0.2 c))] at h;rcases hlast (h4:=h) with ⟨c,h⟩|⟨c,h⟩
    ·have c':(4096:Int)<=(l.length:Int):=by omega
     have c'':(l.length:Int) ≥ 4096:=c';replace h:=hid h;clear hlast hc hp p1 hdb hsb hz0 hz hk hdr hq0 hq;refine Fu ay ?_;exact ah rfl h.out
    ·have c':¬ (4096:Int)<=(l.length:Int):=by omega
     have c'':¬ (l.length:Int) ≥ 4096:=c';replace h:=hid h;clear hlast hc hp p1 hdb hsb hz0 hz hk hdr hq0 hq;refine Fu ay ?_;exact ah rfl h.out
 rw [if_neg k1] at h;have hkk:k=2\/k=3\/k=4:=by omega
 cases hx:atE l dn with
 | none =>
   rw [hx] at h;simp only at h;have c2:z=0:=hz0.2 hx;subst c2;replace h:=hid h;clear hc hp p1 hdb hsb hz0 hz hk k1;rcases hkk with rfl|rfl|rfl
   all_goals
    refine Fu ay ?_;exact ah rfl h.out
 | some x =>
   rw [hx] at h;simp only at h;obtain ⟨hd,hxl,hxe⟩:=bF hx;have hzx:z=x.id:=by rw [<- hz];unfold aH;rw [hx]
   have hxp:=(ht.ids x hxl).1;have kk5:Hid (∀ {X:List Blk} {K:Fw},K (.int .i64 (vO suf l x.id dn tn)) (L++X)->Fv 25 [.ptr iv 0,.int .i64 x.id,.agg [.int .i64 k,dnA dn,dnA tn,v]] (L++X) K):=@hid _ (by
    intro X K q;exact DW ht hln (hc.app X) hx htb q)
   have hkf:aN .int (.int .i64 x.id)=true:=rfl;rcases hc.node x.id with ⟨f1,_⟩|⟨x',n,f1,_,_,f2,f3⟩
   ·rw [ht.ent hxl] at f1;cases f1
   rw [ht.ent hxl] at f1;cases f1;unfold jo at f3;have hnbl:nb x.id<L.length:=(Fx.1 f3).1;have ad:∀ X:List Blk,(L++X)[nb x.id]?=some (.cells [dnA x.nm,.sl (am (pth x)) x.nm.length none,atR x.av,.int .i64 (aG (b9 l) (NK x.nm):Nat)]):=fun X=>by rw [FC hnbl];exact f3
   subst hzx;obtain ⟨xi,hxi⟩:=Fq (x.id);obtain ⟨kn,hkn⟩:=Fq (aG (b9 l) (NK x.nm));rw [hxi] at kk3 kk5 hkf f2 ad hxp h;rw [hkn] at ad h;obtain ⟨mv,hmv⟩:=Fq (vO suf l xi dn tn);rw [hmv] at kk5 h;have g0:¬ xi=0:=by omega
   have hsplit:(kn≠0/\k=2/\K (.int .i64 66) L)\/(kn=0/\k=2/\K (.int .i64 0) L)\/(k=3/\K (.int .i64 0) L)\/(k=4/\K (.int .i64 mv) L):=by
    rcases hkk with rfl|rfl|rfl
    ·by_cases c:kn=0
     ·rw [if_pos rfl,if_neg (fun e=>e c)] at h;exact .inr (.inl ⟨c,rfl,h⟩)
     ·rw [if_pos rfl,if_pos c] at h;exact .inl ⟨c,rfl,h⟩
    ·rw [if_neg (by decide),if_pos rfl] at h;exact .inr (.inr (.inl ⟨rfl,h⟩))
    ·rw [if_neg (by decide),if_neg (by decide)] at h;exact .inr (.inr (.inr ⟨rfl,h⟩))
   clear h hc hp p1 hdb hsb hz0 hz hk k1 hkk hxl hxe hxi hkn hmv hx f3;rcases hsplit with ⟨c,rfl,h⟩|⟨c,rfl,h⟩|⟨rfl,h⟩|⟨rfl,h⟩
   ·have c1:(0:Int)<(kn:Int):=by omega
    have c2:(kn:Int) > 0:=c1;replace h:=hid h;refine Fu ay ?_;exact ah rfl h.out
   ·subst c;replace h:=hid h;refine Fu ay ?_
    all_goals exact ah rfl h.out
   ·replace h:=hid h;refine Fu ay ?_;exact ah rfl h.out
   ·replace h:=hid h;refine Fu ay ?_;exact ah rfl h.out
section
variable {L:List Blk} {iv mn mi it:Nat} {nb bn:Int->Nat} {ck ci:Nat} {rs:List TKy} {suf:List Rdn} {last:Int} {l lk:List aA} {kd:Int->Int}
theorem aT.kds (h:aT L iv mn mi nb bn ck ci rs suf last l lk kd) {kd':Int->Int} (e:∀ x∈l,kd' x.id=kd x.id):aT L iv mn mi nb bn ck ci rs suf last l lk kd' :=
 ⟨h.v,h.n,h.i,fun x hx=>by rw [h.nd x hx];unfold bv;rw [e x hx],h.inj,h.keys,h.mem,h.bnd,h.blt⟩
theorem aT.noIt (h:aT L iv mn mi nb bn ck ci rs suf last l lk kd) (hit:L[it]?=some (.cells [.ptr iv 0])):¬ OfT iv mn mi nb l it:=by
 rintro (e|e|e|⟨x,hx,e⟩)
 ·rw [e,h.v] at hit;simp at hit
 ·rw [e,h.n] at hit;simp at hit
 ·rw [e,h.i] at hit;simp at hit
 ·rw [e,h.nd x hx] at hit;simp [bv] at hit
theorem nu {d:List Rdn} {cap:Option Nat} {b:Int} (hd:dnB d) (hne:d≠[]) (ht:TOk suf last lk) (hsub:∀ x∈lk,∃ y∈l,y.id=x.id) (hpos:∀ x∈l,1<=x.id) (hit:L[it]?=some (.cells [.ptr iv 0])) (hc:aT L iv mn mi nb bn ck ci rs suf last l lk kd) (hb : -1<=b/\b<=1) (hkd:∀ i,-10000000<=kd i/\kd i<=10000000) {K:Fw}
  (h:∀ L',aT L' iv mn mi nb bn ck ci rs suf last l lk (fun i=>if i=aH lk d.tail then kd i+b else kd i)->aF (OfT iv mn mi nb l) L L'->K (.tup []) L') :
  Fv 27 [.ptr it 0,.sl (d.map aI) d.length cap,.int .i64 b] L K:=by
 refine At hd hne ht hsub hit hc hb hkd (fun h0=>?_) (fun x hx e=>?_)
 ·refine h L (hc.kds fun x hx=>?_) (aF.refl L);rw [h0,if_neg (by have:=hpos x hx;omega)]
 ·refine h _ ?_ (aF.set L (.inr (.inr (.inr ⟨x,hx,rfl⟩))) _);rw [<- e];exact hc.kid hx b
theorem a6.added (hc:a6 L iv mn mi nb bn ck ci rs suf last l) (ht:TOk suf last l) (n23:mn≠mi) (hit:L[it]?=some (.cells [.ptr iv 0])) {dn:List Rdn} (hod:OkD dn) (hno:∀ x∈l,NK x.nm≠NK dn) (v:List Atr) (box a0 X:Blk) (A B:List Blk)
  (hA:A=(L.set iv (.cells [dnA suf,.lmap mn,.lmap mi,.int .i64 (last+1)])).set mn (.map ((l.map (dp nb bn))++[(.int .i64 (last+1),.ptr (L.length+1) 0,ck)]) (ck+1)))
  (hB:B=((A++[box,a0]).set (L.length+1) (.cells [dnA dn,.sl (am (NK dn).reverse) dn.length none,atR v,.int .i64 0])).set mi (.map ((rs++[(aE true dn,last+1,ci)]).map kyA) (ci+1))++[X]) :
  aT B iv mn mi (fun i=>if i=last+1 then L.length+1 else nb i) (fun i=>if i=last+1 then ck else bn i) (ck+1) (ci+1) (rs++[(aE true dn,last+1,ci)]) suf (last+1) (l8 l last dn v) (l8 l last dn v) (fun i=>if i=last+1 then 0 else (dY l i:Nat))/\aF (OfT iv mn mi nb l) L B /\
  (A++[box,a0])[it]?=some (.cells [.ptr iv 0])/\(A++[box,a0])[iv]?=some (.cells [dnA suf,.lmap mn,.lmap mi,.int .i64 (last+1)])/\(A++[box,a0])[mn]?=some (.map ((l.map (dp nb bn))++[(.int .i64 (last+1),.ptr (L.length+1) 0,ck)]) (ck+1))/\(A++[box,a0])[mi]?=some (.map (rs.map kyA) ci)/\(A++[box,a0])[L.length+1]?=some a0 /\
  bt (.int .i64 (last+1)) ((l.map (dp nb bn))++[(.int .i64 (last+1),.ptr (L.length+1) 0,ck)]) 0=some (some (l.length,.ptr (L.length+1) 0))/\bt (.str (aE true dn)) (rs.map kyA) 0=some none/\bt (.int .i64 (last+1)) (l.map (dp nb bn)) 0=some none:=by
 have hK:=hc.toK ht;have h1:=(Fx.1 hc.v).1;have h2:=(Fx.1 hc.n).1;have h3:=(Fx.1 hc.i).1;have h4:=(Fx.1 hit).1;have n12:iv≠mn:=fun e=>by have:=hc.v;rw [e,hc.n] at this;simp at this
 have n13:iv≠mi:=fun e=>by have:=hc.v;rw [e,hc.i] at this;simp at this
 have hAl:A.length=L.length:=by rw [hA];simp
 have gA:∀ i,i≠iv->i≠mn->A[i]?=L[i]?:=fun i a b=>by rw [hA,FL (Ne.symm b),FL (Ne.symm a)]
 have gv:A[iv]?=some (.cells [dnA suf,.lmap mn,.lmap mi,.int .i64 (last+1)]):=by rw [hA,FL (Ne.symm n12)];simp [h1]
 have gn:A[mn]?=some (.map ((l.map (dp nb bn))++[(.int .i64 (last+1),.ptr (L.length+1) 0,ck)]) (ck+1)):=by rw [hA];simp [h2]
 have gY:∀ i,i<L.length->(A++[box,a0])[i]?=A[i]?:=fun i hi=>FC (by omega)
 have gB:∀ i,i<L.length->i≠mi->B[i]?=A[i]?:=fun i hi hm=>by
  rw [hB,FC (by simp;omega),FL (Ne.symm hm),FL (by omega),gY i hi]
 have gBi:B[mi]?=some (.map ((rs++[(aE true dn,last+1,ci)]).map kyA) (ci+1)):=by
  rw [hB,FC (by simp;omega),G7 (by simp;omega)]
 have gBn:B[L.length+1]?=some (.cells [dnA dn,.sl (am (NK dn).reverse) dn.length none,atR v,.int .i64 0]):=by
  rw [hB,FC (by simp;omega),FL (by omega),G7 (by simp;omega)]
 have hidn:∀ x∈l,x.id≠last+1:=fun x hx e=>by have:=(ht.ids x hx).2;omega
 have hnbl:∀ x∈l,nb x.id<L.length:=fun x hx=>(Fx.1 (hc.nd x hx)).1
 have hno':∀ x∈l,aE true x.nm≠aE true dn:=fun x hx e=>hno x hx ((fP (ht.ok x hx) hod).1 e)
 have hkn:∀ r∈rs,r.1≠aE true dn:=fun r hr e=>by
  obtain ⟨x,hx,e1,_⟩:=(hc.mem r.1 r.2.1).1 ⟨r.2.2,hr⟩;exact hno' x hx (e1.trans e)
 have hmap:(l8 l last dn v).map (dp (fun i=>if i=last+1 then L.length+1 else nb i) (fun i=>if i=last+1 then ck else bn i))=l.map (dp nb bn)++[(.int .i64 (last+1),.ptr (L.length+1) 0,ck)]:=by
  unfold l8;rw [FZ]
  congr 1
  ·refine Gp fun x hx=>?_
   simp only [dp,if_neg (hidn x hx)]
  ·simp [dp]
 refine ⟨⟨by rw [gB iv h1 n13];exact gv,by rw [gB mn h2 n23,gn,hmap],gBi,fun x hx=>?_,fun x hx y hy e=>?_,?_,fun k id=>?_,?_,fun x hx=>?_⟩,⟨by rw [hB];simp;omega,fun i hi hn=>?_⟩,?_,by rw [gY iv h1];exact gv,by rw [gY mn h2];exact gn,by rw [gY mi h3,gA mi (Ne.symm n13) (Ne.symm n23)];exact hc.i,?_,?_,?_,?_⟩
 ·rcases FE.1 hx with hx|hx
  ·have hk:=hK.nd x hx;have hne:=hidn x hx;have m1:nb x.id≠iv:=fun e=>by rw [e,hc.v] at hk;simp [bv] at hk
   have m2:nb x.id≠mn:=fun e=>by rw [e,hc.n] at hk;simp at hk
   have m3:nb x.id≠mi:=fun e=>by rw [e,hc.i] at hk;simp at hk
   simp only [if_neg hne];rw [gB _ (hnbl x hx) m3,gA _ m1 m2,hk];unfold bv;simp only [if_neg hne]
  ·rw [FM.1 hx];simp only [if_true];rw [gBn];simp only [bv,pth,if_true]
 ·rcases FE.1 hx with hx|hx<;>rcases FE.1 hy with hy|hy
  ·simp only [if_neg (hidn x hx),if_neg (hidn y hy)] at e;exact hK.inj x hx y hy e
  ·rw [FM.1 hy] at e ⊢;simp only [if_neg (hidn x hx),if_true] at e;have:=hnbl x hx;omega
  ·rw [FM.1 hx] at e ⊢;simp only [if_neg (hidn y hy),if_true] at e;have:=hnbl y hy;omega
  ·rw [FM.1 hx,FM.1 hy]
 ·rw [FZ,Hq];refine ⟨hc.keys,by simp,fun a ha b hb e=>?_⟩;obtain ⟨r,hr,rfl⟩:=FF.1 ha;simp only [FQ,GD,FM] at hb;exact hkn r hr (e.trans hb)
 ·constructor
  ·rintro ⟨b,hb⟩;rcases FE.1 hb with hb|hb
   ·obtain ⟨x,hx,e⟩:=(hc.mem k id).1 ⟨b,hb⟩;exact ⟨x,Gt _ hx,e⟩
   ·simp only [FM,FD] at hb;exact ⟨_,GX _ (FM.2 rfl),hb.1.symm,hb.2.1.symm⟩
  ·rintro ⟨x,hx,e1,e2⟩;rcases FE.1 hx with hx|hx
   ·obtain ⟨b,hb⟩:=(hc.mem k id).2 ⟨x,hx,e1,e2⟩;exact ⟨b,Gt _ hb⟩
   ·rw [FM.1 hx] at e1 e2;exact ⟨ci,GX _ (by rw [<- e1,<- e2];simp)⟩
 ·unfold l8;rw [FZ,Hq];refine ⟨?_,by simp,fun a ha b hb e=>?_⟩
  ·rw [Gp (g:=fun x=>bn x.id) fun x hx=>by simp only [if_neg (hidn x hx)]];exact hc.bnd
  ·obtain ⟨x,hx,rfl⟩:=FF.1 ha;simp only [FQ,GD,FM,if_true] at hb;simp only [if_neg (hidn x hx)] at e;have:=hc.blt x hx;omega
 ·rcases FE.1 hx with hx|hx
  ·simp only [if_neg (hidn x hx)];have:=hc.blt x hx;omega
  ·rw [FM.1 hx];simp only [if_true];omega
 ·have b1:i≠iv:=fun e=>hn (.inl e)
  have b2:i≠mn:=fun e=>hn (.inr (.inl e))
  have b3:i≠mi:=fun e=>hn (.inr (.inr (.inl e)))
  rw [gB i hi b3,gA i b1 b2]
 ·have b1:it≠iv:=fun e=>by rw [e,hc.v] at hit;simp at hit
  have b2:it≠mn:=fun e=>by rw [e,hc.n] at hit;simp at hit
  rw [gY it h4,gA it b1 b2];exact hit
 ·rw [FJ (by omega),hAl];simp
 ·rw [<- hmap,kV];have:(l8 l last dn v).findIdx? (fun x=>decide (x.id=last+1))=some l.length:=by
   unfold l8;rw [List.findIdx?_append,H5.2 fun x hx=>by simpa using hidn x hx];simp [G2]
  rw [this];simp
 ·rw [kW];rw [H5.2 fun r hr=>by simpa using hkn r hr];rfl
 ·rw [kV];rw [H5.2 fun x hx=>by simpa using hidn x hx];rfl
end
set_option maxHeartbeats 8000000
set_option maxRecDepth 100000
section
variable {L:List Blk} {iv mn mi it:Nat} {nb bn:Int->Nat} {ck ci:Nat} {rs:List TKy} {suf:List Rdn} {last:Int} {l:List aA}
theorem ES (ht:TOk suf last l) (n23:mn≠mi) (hln:l.length<=1000000) (hl0:0<=last) (hl1:last<=1000000) (hit:L[it]?=some (.cells [.ptr iv 0])) (hc:a6 L iv mn mi nb bn ck ci rs suf last l)
  {dn tn:List Rdn} {v:List Atr} (hdb:dnB dn) (htb:dnB tn) (hvl:v.length<=1100000) (hvz:∀ a∈v,a.2.length<=1100000) (ha:cW suf l 1 dn tn=0) {K:Fw}
  (h:∀ L' nb' bn' ck' ci' rs',a6 L' iv mn mi nb' bn' ck' ci' rs' suf (last+1) (l8 l last dn v)->L'[it]?=some (.cells [.ptr iv 0])->aF (OfT iv mn mi nb l) L L'->K (.int .i64 0) L') :
  Fv 14 [.ptr it 0,.agg [.int .i64 1,dnA dn,dnA tn,atR v]] L K:=by
 obtain ⟨hca,_⟩:=ht.canA ha;have hod:=hca.ok;have hf0:aH l dn=0:=ht.find0.2 (k9.2 fun _ x hx=>hca.no x hx);have hvw:=hc.v;have hnn:=hc.n;have hivl:iv<L.length:=(Fx.1 hvw).1;have hmnl:mn<L.length:=(Fx.1 hnn).1;have hitl:it<L.length:=(Fx.1 hit).1;have n12:iv≠mn:=fun e=>by have:=hc.v;rw [e,hc.n] at this;simp at this
 have n1t:iv≠it:=fun e=>by have:=hc.v;rw [e,hit] at this;simp at this
 have av:∀ X:List Blk,(L++X)[iv]?=some (.cells [dnA suf,.lmap mn,.lmap mi,.int .i64 last]):=fun X=>by rw [FC hivl];exact hvw
 have at':∀ X:List Blk,(L++X)[it]?=some (.cells [.ptr iv 0]):=fun X=>by rw [FC hitl];exact hit
 have sv:∀ (X:List Blk) b,(L++X).set iv b=L.set iv b++X:=fun X b=>Hs _ _ hivl
 have av2:∀ (X:List Blk) b,(L.set iv b++X)[iv]?=some b:=fun X b=>by rw [FC (by simpa using hivl)];simp [hivl]
 have at2:∀ (X:List Blk) b,(L.set iv b++X)[it]?=some (.cells [.ptr iv 0]):=fun X b=>by rw [FC (by simpa using hitl),FL n1t];exact hit
 have an2:∀ (X:List Blk) b,(L.set iv b++X)[mn]?=some (.map (l.map (dp nb bn)) ck):=fun X b=>by rw [FC (by simpa using hmnl),FL n12];exact hnn
 have sn2:∀ (X:List Blk) b c,(L.set iv b++X).set mn c=(L.set iv b).set mn c++X:=fun X b c=>Hs _ _ (by simpa using hmnl)
 have ab2:∀ (X:List Blk) (b c:Blk),(L.set iv b++c::X)[L.length]?=some c:=fun X b c=>by rw [FJ (by simp)];simp
 have ab3:∀ (X:List Blk) (b c d:Blk),((L.set iv b).set mn d++c::X)[L.length]?=some c:=fun X b c d=>by rw [FJ (by simp)];simp
 have kk1:Hid (∀ {X:List Blk} {K:Fw},K (.int .i64 0) (L++X)->Fv 13 [.ptr iv 0,.agg [.int .i64 1,dnA dn,dnA tn,atR v]] (L++X) K):=@hid _ (by
  intro X K q;exact o6 ht (by omega) (hc.app X) hdb htb (by rw [ha];exact q))
 have kk2:Hid (∀ {X:List Blk} {K:Fw},K (.int .i64 0) (L++X)->Fv 8 [.ptr iv 0,dnA dn] (L++X) K):=@hid _ (by
  intro X K q;exact mX hdb ht (hc.app X) (by rw [hf0];exact q))
 have kk3:Hid (Ctr Try.prog 17 [atR v] (atR v)):=@hid _ (by intro L K q;exact uJ hvl hvz q);have w1:IntKind.i64.wrap (last+1)=last+1:=aw (by omega) (by omega);have hkf:aN .int (.int .i64 (last+1))=true:=rfl;have hll:∀ b,(L.set iv b).length=L.length:=fun b=>List.length_set
 obtain ⟨box,hbox⟩:∃ box:Blk,box=.cells [.int .i64 1,dnA dn,dnA tn,atR v]:=⟨_,rfl⟩;obtain ⟨A,hA⟩:=Fq ((L.set iv (.cells [dnA suf,.lmap mn,.lmap mi,.int .i64 (last+1)])).set mn (.map ((l.map (dp nb bn))++[(.int .i64 (last+1),.ptr (L.length+1) 0,ck)]) (ck+1)));obtain ⟨B,hB⟩:=Fq (((A++[box,.cells [.sl [] 0 (some 0),.sl [] 0 (some 0),atR v,.int .i64 0]]).set (L.length+1) (.cells [dnA dn,.sl (am (NK dn).reverse) dn.length none,atR v,.int .i64 0])).set mi (.map ((rs++[(aE true dn,last+1,ci)]).map kyA) (ci+1))++[.cells [.sl (am (NK dn).reverse) dn.length none]]);have hAl:A.length=L.length:=by rw [<- hA];simp
 have hmil:mi<L.length:=(Fx.1 hc.i).1;obtain ⟨hfin,hbes,p1,p2,p3,p4,p5,p6,p7,p8⟩:=hc.added ht n23 hit hod hca.no v box (.cells [.sl [] 0 (some 0),.sl [] 0 (some 0),atR v,.int .i64 0]) (.cells [.sl (am (NK dn).reverse) dn.length none]) A B hA.symm hB.symm;have pb:B[L.length]?=some box:=by
  rw [<- hB,FC (by simp;omega),FL (by omega),FL (by omega),FJ (by omega),hAl];simp
 have pa0:(A++[box,.cells [.sl [] 0 (some 0),.sl [] 0 (some 0),atR v,.int .i64 0]])[L.length]?=some box:=by rw [FJ (by omega),hAl];simp
 have hitB:B[it]?=some (.cells [.ptr iv 0]):=hbes.get hit ((hc.toK ht).noIt hit);obtain ⟨hadd,hk0,hkq⟩:=ht.add hl0 hca v;have kk4:Hid (∀ {K:Fw},K (.tup []) B->Fv 26 [.ptr it 0,.int .i64 (last+1),dnA dn] (A++[box,.cells [.sl [] 0 (some 0),.sl [] 0 (some 0),atR v,.int .i64 0]]) K):=@hid _ (by
  intro K q;refine zN hod p1 p2 p3 p6 p5 p4 p7 ?_;rw [hB];exact q)
 have kk5:Hid (∀ {K:Fw},(∀ L' nb' bn' ck' ci' rs',a6 L' iv mn mi nb' bn' ck' ci' rs' suf (last+1) (l8 l last dn v)->L'[it]?=some (.cells [.ptr iv 0])->aF (OfT iv mn mi nb l) L L'->K (.tup []) L')->Fv 27 [.ptr it 0,dnA dn,.int .i64 1] B K):=@hid _ (by
  intro K q;have hne:dn≠[]:=fun e=>by
   rcases hca.par with e2|⟨x,hx,e2⟩
   ·exact ht.inv.sne (by rw [<- e2,e];rfl)
   ·exact ht.inv.ne (dC hx) (by rw [e2,e];rfl)
  have hkl:∀ i,(dY l i:Int)<=l.length:=fun i=>by
   unfold dY aG;cases qz l i with
   | none=>simp
   | some x=>simp only;exact Int.ofNat_le.2 (F3 (Hr _ _) (by simp [b9]))
  refine nu hdb hne hadd (fun x hx=>⟨x,hx,rfl⟩) (fun x hx=>(hadd.ids x hx).1) hitB hfin (by omega) (fun i=>?_) fun L' hK hb=>?_
  ·split
   ·omega
   ·have:=hkl i;omega
  ·refine q L' _ _ _ _ _ (hK.toT fun x hx=>?_) (hb.get hitB (hfin.noIt hitB)) (hbes.trans2 hb fun i hi=>?_)
   ·rw [hkq (NK x.nm)];have hpar:(x.id=aH (l8 l last dn v) dn.tail)↔(NK dn).tail=NK x.nm:=by
     rw [<- qF];constructor
     ·intro e;unfold aH at e;cases hq:atE (l8 l last dn v) dn.tail with
      | none=>rw [hq] at e;have:=(hadd.ids x hx).1;simp only at e;omega
      | some y =>
        rw [hq] at e;obtain ⟨_,hy,e2⟩:=bF hq;rw [hadd.byI hx hy e,e2]
     ·intro e;unfold aH;rw [hadd.at hx hod.tail e]
    have hkx:(if x.id=last+1 then (0:Int) else (dY l x.id:Nat))=(aG (b9 l) (NK x.nm):Nat):=by
     rcases FE.1 hx with hx|hx
     ·rw [if_neg (by have:=(ht.ids x hx).2;omega),ht.kidsE hx]
     ·rw [FM.1 hx,if_pos rfl];have:=hkq (NK dn);rw [hk0] at this;simp only;omega
    by_cases hp:(NK dn).tail=NK x.nm
    ·rw [if_pos hp,if_pos (hpar.2 hp),hkx];simp
    ·rw [if_neg hp,if_neg (fun e=>hp (hpar.1 e)),hkx];simp
   ·rintro (e|e|e|⟨x,hx,e⟩)
    ·exact .inl e
    ·exact .inr (.inl e)
    ·exact .inr (.inr (.inl e))
    ·rcases FE.1 hx with hx|hx
     ·exact .inr (.inr (.inr ⟨x,hx,by rw [e];exact if_neg (by have:=(ht.ids x hx).2;omega)⟩))
     ·rw [FM.1 hx] at e;simp only [if_true] at e;omega)
 replace h:=hid h;clear hB hfin hbes p6 p7 hadd hk0 hkq hca hvw hnn hit hAl;subst hbox;refine Fu bH ?_;simp only [FT,Gu,Nat.reduceAdd,List.drop_succ_cons,List.drop_zero,G8,Gs];refine sk ?_;refine wk ?_;intro L' nb' bn' ck' ci' rs' q1 q2 q3;replace q1:=hid q1;replace q2:=hid q2;replace q3:=hid q3;refine wk ?_;exact aq (h.out L' _ _ _ _ _ q1.out q2.out q3.out)
end
set_option maxHeartbeats 8000000
set_option maxRecDepth 100000
theorem qN {β γ:Type} (f:β->γ):∀ (l:List β) (n:Nat),(l.eraseIdx n).map f=(l.map f).eraseIdx n
 | [],_=>rfl
 | x::l,0=>rfl
 | x::l,n+1=>by simp only [List.eraseIdx_cons_succ,FQ,qN f l n]
theorem gu {β γ:Type} [DecidableEq γ] (f:β->γ):∀ (l:List β) (k:γ),(l.map f).Nodup->∀ n,l.findIdx? (fun x=>decide (f x=k))=some n->l.eraseIdx n=l.filter fun x=>decide (f x≠k)
 | [],k,_,n,h=>by simp at h
 | x::l,k,hn,n,h=>by
   rw [FQ,Gv] at hn;rw [G2] at h;by_cases c:f x=k
   ·rw [decide_eq_true c] at h;simp only [if_true,Fy] at h;subst h;rw [HF (by simpa using c)];simp only [List.eraseIdx_zero,List.tail_cons];exact (List.filter_eq_self.2 fun y hy=>by
     simp only [ne_eq,decide_eq_true_eq];intro e;exact hn.1 (FF.2 ⟨y,hy,by rw [e,c]⟩)).symm
   ·rw [decide_eq_false c] at h;simp only [FI,if_false,FY] at h;obtain ⟨m,hm,rfl⟩:=h;rw [HG (by simpa using c),List.eraseIdx_cons_succ,gu f l k hn.2 m hm]
section
variable {L:List Blk} {iv mn mi it:Nat} {nb bn:Int->Nat} {ck ci:Nat} {rs:List TKy} {suf:List Rdn} {last:Int} {l lk:List aA} {kd:Int->Int}
theorem aT.nemi (h:aT L iv mn mi nb bn ck ci rs suf last l lk kd):iv≠mi:=fun e=>by have:=h.v;rw [e,h.i] at this;simp at this
theorem aT.nemn (h:aT L iv mn mi nb bn ck ci rs suf last l lk kd):iv≠mn:=fun e=>by have:=h.v;rw [e,h.n] at this;simp at this
theorem aT.nenb (h:aT L iv mn mi nb bn ck ci rs suf last l lk kd) {x:aA} (hx:x∈l):nb x.id≠iv/\nb x.id≠mn/\nb x.id≠mi:=by
 have hk:=h.nd x hx;exact ⟨fun e=>by rw [e,h.v] at hk;simp [bv] at hk,fun e=>by rw [e,h.n] at hk;simp at hk,fun e=>by rw [e,h.i] at hk;simp at hk⟩
theorem aT.delk (h:aT L iv mn mi nb bn ck ci rs suf last l lk kd) (n23:mn≠mi) {y:aA} (hy:y∈lk) (hu:∀ x∈lk,aE true x.nm=aE true y.nm↔x.id=y.id) :
  ∃ j,bt (.str (aE true y.nm)) (rs.map kyA) 0=some (some (j,.int .i64 y.id))/\aT (L.set mi (.map ((rs.map kyA).eraseIdx j) ci)) iv mn mi nb bn ck ci (rs.eraseIdx j) suf last l (rS lk y.id) kd:=by
 obtain ⟨b,hb⟩:=(h.mem (aE true y.nm) y.id).2 ⟨y,hy,rfl,rfl⟩;rw [kW];rcases dO (f:=fun r:TKy=>decide (r.1=aE true y.nm)) (l:=rs) with ⟨h1,h2⟩|⟨n,h1,hn,h2⟩
 ·exact absurd (GS.1 h2 _ hb) (by simp)
 ·have hm:=GU h2;have hk:=GT h2;simp only [decide_eq_true_eq] at hk;have he:rs.getD n default=(aE true y.nm,y.id,b):=cR h.keys hm hb hk;have hmi:=(Fx.1 h.i).1;have her:=gu (fun r:TKy=>r.1) rs (aE true y.nm) h.keys n h1;refine ⟨n,by rw [h1];simp only [FK,he,Hl],?_⟩;have hmm:∀ r:TKy,r∈rs.eraseIdx n↔r∈rs/\r.1≠aE true y.nm:=fun r=>by rw [her,F9];simp
  refine ⟨by rw [FL (Ne.symm h.nemi)];exact h.v,by rw [FL (Ne.symm n23)];exact h.n,by rw [G7 hmi,qN],fun x hx=>by rw [FL (Ne.symm (h.nenb hx).2.2)];exact h.nd x hx,h.inj,(List.Sublist.map _ (List.eraseIdx_sublist ..)).nodup h.keys,fun k id=>?_,h.bnd,h.blt⟩;constructor
  ·rintro ⟨c,hc⟩;obtain ⟨hc1,hc2⟩:=(hmm _).1 hc;obtain ⟨x,hx,e1,e2⟩:=(h.mem k id).1 ⟨c,hc1⟩;refine ⟨x,F9.2 ⟨hx,?_⟩,e1,e2⟩;simp only [ne_eq,decide_eq_true_eq];intro e;exact hc2 (e1.symm.trans ((hu x hx).2 e))
  ·rintro ⟨x,hx,e1,e2⟩;obtain ⟨hx1,hx2⟩:=F9.1 hx;simp only [ne_eq,decide_eq_true_eq] at hx2;obtain ⟨c,hc⟩:=(h.mem k id).2 ⟨x,hx1,e1,e2⟩;exact ⟨c,(hmm _).2 ⟨hc,fun e=>hx2 ((hu x hx1).1 (by rw [e1];exact e))⟩⟩
theorem aT.deln (h:aT L iv mn mi nb bn ck ci rs suf last l lk kd) (n23:mn≠mi) (hn:(l.map (·.id)).Nodup) {y:aA} (hy:y∈l) :
  ∃ j v,bt (.int .i64 y.id) (l.map (dp nb bn)) 0=some (some (j,v))/\aT (L.set mn (.map ((l.map (dp nb bn)).eraseIdx j) ck)) iv mn mi nb bn ck ci rs suf last (rS l y.id) lk kd:=by
 rw [kV];rcases dO (f:=fun x:aA=>decide (x.id=y.id)) (l:=l) with ⟨h1,h2⟩|⟨n,h1,hl,h2⟩
 ·exact absurd (GS.1 h2 _ hy) (by simp)
 ·have hmn:=(Fx.1 h.n).1;have her:=gu (fun x:aA=>x.id) l y.id hn n h1;have sub:∀ x∈rS l y.id,x∈l:=fun x hx=>(F9.1 hx).1
  refine ⟨n,_,by rw [h1];simp;rfl,?_⟩;refine ⟨by rw [FL (Ne.symm h.nemn)];exact h.v,by rw [G7 hmn,<- qN,her];rfl,by rw [FL n23];exact h.i,fun x hx=>by rw [FL (Ne.symm (h.nenb (sub x hx)).2.1)];exact h.nd x (sub x hx),fun x hx z hz=>h.inj x (sub x hx) z (sub z hz),h.keys,h.mem,?_,fun x hx=>h.blt x (sub x hx)⟩;exact (List.Sublist.map _ List.filter_sublist).nodup h.bnd
theorem aT.cha (h:aT L iv mn mi nb bn ck ci rs suf last l lk kd) {y:aA} (hy:y∈l) (v:List Atr) :
  aT (L.set (nb y.id) (.cells [dnA y.nm,.sl (am (pth y)) y.nm.length none,atR v,.int .i64 (kd y.id)])) iv mn mi nb bn ck ci rs suf last (l6 l y.id v) (l6 lk y.id v) kd:=by
 have hny:=h.nd y hy;have hl:=(Fx.1 hny).1;obtain ⟨n1,n2,n3⟩:=h.nenb hy;have hnod:(l6 l y.id v).map (dp nb bn)=l.map (dp nb bn):=by
  unfold l6;rw [FR];refine Gp fun x _=>?_
  simp only [GR];split<;>rfl
 have hbn:(l6 l y.id v).map (fun x=>bn x.id)=l.map (fun x=>bn x.id):=by
  unfold l6;rw [FR];refine Gp fun x _=>?_
  simp only [GR];split<;>rfl
 have back:∀ {m:List aA} {x},x∈l6 m y.id v->∃ z∈m,z.id=x.id/\z.nm=x.nm/\(z.id=y.id->x.av=v)/\(z.id≠y.id->x=z):=fun {m x} hx=>by
  obtain ⟨z,hz,rfl⟩:=FF.1 hx;refine ⟨z,hz,?_,?_,?_,?_⟩<;>split<;>simp_all
 have forth:∀ {m:List aA} {z},z∈m->∃ x∈l6 m y.id v,x.id=z.id/\x.nm=z.nm:=fun {m z} hz=>by
  refine ⟨_,FF.2 ⟨z,hz,rfl⟩,?_,?_⟩<;>split<;>rfl
 refine ⟨by rw [FL n1];exact h.v,by rw [FL n2,hnod];exact h.n,by rw [FL n3];exact h.i,fun x hx=>?_,fun x hx z hz e=>?_,h.keys,fun k id=>?_,by rw [hbn];exact h.bnd,fun x hx=>?_⟩
 ·obtain ⟨z,hz,e1,e2,e3,e4⟩:=back hx;by_cases e:nb y.id=nb z.id
  ·have hi:=h.inj y hy z hz e;have hxy:bv kd y=bv kd z:=by
    have h2:=h.nd z hz;rw [<- e,hny] at h2;injection h2 with h2;injection h2
   unfold bv at hxy ⊢;simp only [Hn] at hxy;have hp:pth x=pth z:=by unfold pth;rw [e2]
   rw [<- e1,<- e,G7 hl,e3 hi.symm,hxy.1,hxy.2.1,hxy.2.2.2.1,hp,e2]
  ·have hne:z.id≠y.id:=fun e5=>e (by rw [e5])
   rw [e4 hne,FL e];exact h.nd z hz
 ·obtain ⟨a,ha,e1,_⟩:=back hx;obtain ⟨b,hb,e2,_⟩:=back hz;rw [<- e1,<- e2] at e ⊢;exact h.inj a ha b hb e
 ·rw [h.mem k id];constructor
  ·rintro ⟨x,hx,e1,e2⟩;obtain ⟨z,hz,e3,e4⟩:=forth hx;exact ⟨z,hz,by rw [e4];exact e1,by rw [e3];exact e2⟩
  ·rintro ⟨x,hx,e1,e2⟩;obtain ⟨z,hz,e3,e4,_⟩:=back hx;exact ⟨z,hz,by rw [e4];exact e1,by rw [e3];exact e2⟩
 ·obtain ⟨z,hz,e1,_⟩:=back hx;rw [<- e1];exact h.blt z hz
def nmT (l:List aA) (id:Int) (d:List Rdn):List aA:=l.map fun x=>if x.id=id then { x with nm:=d } else x
theorem aT.ren (h:aT L iv mn mi nb bn ck ci rs suf last l lk kd) (n23:mn≠mi) {y:aA} (hy:y∈l) {d:List Rdn} (hno:∀ x∈lk,aE true x.nm≠aE true d) (X:List Blk) :
  bt (.str (aE true d)) (rs.map kyA) 0=some none /\
  aT ((L.set (nb y.id) (.cells [dnA d,.sl (am (NK d).reverse) d.length none,atR y.av,.int .i64 (kd y.id)])).set mi (.map ((rs++[(aE true d,y.id,ci)]).map kyA) (ci+1))++X) iv mn mi nb bn ck (ci+1) (rs++[(aE true d,y.id,ci)]) suf last (nmT l y.id d) (lk++[{ y with nm:=d }]) kd:=by
 have hkn:∀ r∈rs,r.1≠aE true d:=fun r hr e=>by
  obtain ⟨x,hx,e1,_⟩:=(h.mem r.1 r.2.1).1 ⟨r.2.2,hr⟩;exact hno x hx (e1.trans e)
 refine ⟨by rw [kW,H5.2 fun r hr=>by simpa using hkn r hr];rfl,aT.app ?_ X⟩;have hny:=h.nd y hy;have hl:=(Fx.1 hny).1;have hmi:=(Fx.1 h.i).1;obtain ⟨n1,n2,n3⟩:=h.nenb hy;have hnod:(nmT l y.id d).map (dp nb bn)=l.map (dp nb bn):=by
  unfold nmT;rw [FR];refine Gp fun x _=>?_
  simp only [GR];split<;>rfl
 have hbn:(nmT l y.id d).map (fun x=>bn x.id)=l.map (fun x=>bn x.id):=by
  unfold nmT;rw [FR];refine Gp fun x _=>?_
  simp only [GR];split<;>rfl
 have back:∀ {x},x∈nmT l y.id d->∃ z∈l,z.id=x.id/\z.av=x.av/\(z.id=y.id->x.nm=d)/\(z.id≠y.id->x=z):=fun {x} hx=>by
  obtain ⟨z,hz,rfl⟩:=FF.1 hx;refine ⟨z,hz,?_,?_,?_,?_⟩<;>split<;>simp_all
 refine ⟨by rw [FL (Ne.symm h.nemi),FL n1];exact h.v,by rw [FL (Ne.symm n23),FL n2,hnod];exact h.n,by rw [G7 (by simpa using hmi)],fun x hx=>?_,fun x hx z hz e=>?_,?_,fun k id=>?_,by rw [hbn];exact h.bnd,fun x hx=>?_⟩
 ·obtain ⟨z,hz,e1,e2,e3,e4⟩:=back hx;rw [<- e1,FL (Ne.symm (h.nenb hz).2.2)];by_cases e:nb y.id=nb z.id
  ·have hi:=h.inj y hy z hz e;have hxy:bv kd y=bv kd z:=by
    have h2:=h.nd z hz;rw [<- e,hny] at h2;injection h2 with h2;injection h2
   unfold bv at hxy ⊢;simp only [Hn] at hxy;have hp:pth x=(NK d).reverse:=by unfold pth;rw [e3 hi.symm]
   rw [<- e,G7 hl,e3 hi.symm,hp,hxy.2.2.1,e2,<- e1,hi]
  ·have hne:z.id≠y.id:=fun e5=>e (by rw [e5])
   rw [e4 hne,FL e];exact h.nd z hz
 ·obtain ⟨a,ha,e1,_⟩:=back hx;obtain ⟨b,hb,e2,_⟩:=back hz;rw [<- e1,<- e2] at e ⊢;exact h.inj a ha b hb e
 ·rw [FZ,Hq];refine ⟨h.keys,by simp,fun a ha b hb e=>?_⟩;obtain ⟨r,hr,rfl⟩:=FF.1 ha;simp only [FQ,GD,FM] at hb;exact hkn r hr (e.trans hb)
 ·constructor
  ·rintro ⟨b,hb⟩;rcases FE.1 hb with hb|hb
   ·obtain ⟨x,hx,e⟩:=(h.mem k id).1 ⟨b,hb⟩;exact ⟨x,Gt _ hx,e⟩
   ·simp only [FM,FD] at hb;exact ⟨_,GX _ (FM.2 rfl),hb.1.symm,hb.2.1.symm⟩
  ·rintro ⟨x,hx,e1,e2⟩;rcases FE.1 hx with hx|hx
   ·obtain ⟨b,hb⟩:=(h.mem k id).2 ⟨x,hx,e1,e2⟩;exact ⟨b,Gt _ hb⟩
   ·rw [FM.1 hx] at e1 e2;exact ⟨ci,GX _ (by rw [<- e1,<- e2];simp)⟩
 ·obtain ⟨z,hz,e1,_⟩:=back hx;rw [<- e1];exact h.blt z hz
end
set_option maxHeartbeats 8000000
set_option maxRecDepth 100000
theorem yx {a b:List Rdn} (h:NK a=NK b):aE true a=aE true b:=by
 unfold aE;unfold NK at h;rw [h]
theorem sT (l:List aA) (i:Int):(dY l i:Int)<=l.length:=by
 unfold dY aG;cases qz l i with
 | none=>simp
 | some x=>simp only;exact Int.ofNat_le.2 (F3 (Hr _ _) (by simp [b9]))
theorem TOk.parI {suf:List Rdn} {last:Int} {l:List aA} (h:TOk suf last l) {x:aA} (hx:x∈l) {d:List Rdn} (hd:OkD d):x.id=aH l d.tail↔(NK d).tail=NK x.nm:=by
 rw [<- qF];constructor
 ·intro e;unfold aH at e;cases hq:atE l d.tail with
  | none=>rw [hq] at e;have:=(h.ids x hx).1;simp only at e;omega
  | some y =>
    rw [hq] at e;obtain ⟨_,hy,e2⟩:=bF hq;rw [h.byI hx hy e,e2]
 ·intro e;unfold aH;rw [h.at hx hd.tail e]
section
variable {L:List Blk} {iv mn mi it:Nat} {nb bn:Int->Nat} {ck ci:Nat} {rs:List TKy} {suf:List Rdn} {last:Int} {l:List aA}
theorem EP (ht:TOk suf last l) (n23:mn≠mi) (hln:l.length<=1000000) (hit:L[it]?=some (.cells [.ptr iv 0])) (hc:a6 L iv mn mi nb bn ck ci rs suf last l)
  {dn tn:List Rdn} {v:AV} (hdb:dnB dn) (htb:dnB tn) {x:aA} (hx:atE l dn=some x) (ha:cW suf l 2 dn tn=0) {K:Fw}
  (h:∀ L' ci' rs',a6 L' iv mn mi nb bn ck ci' rs' suf last (rS l x.id)->L'[it]?=some (.cells [.ptr iv 0])->aF (OfT iv mn mi nb l) L L'->K (.int .i64 0) L') :
  Fv 14 [.ptr it 0,.agg [.int .i64 2,dnA dn,dnA tn,v]] L K:=by
 obtain ⟨hod,hxl,hxe⟩:=bF hx;have hk0:aG (b9 l) (NK x.nm)=0:=by
  unfold cW at ha;rw [if_neg (by decide),if_neg (by decide),hx] at ha;simp only [if_true] at ha;by_cases c:aG (b9 l) (NK x.nm)=0
  ·exact c
  ·rw [if_pos c] at ha;exact absurd ha (by decide)
 obtain ⟨htd,hkq⟩:=ht.del hxl hk0;have hfx:aH l dn=x.id:=by unfold aH;rw [hx]
 have hK:=hc.toK ht;have htx:aE true dn=aE true x.nm:=yx hxe.symm;have hu:∀ z∈l,aE true z.nm=aE true x.nm↔z.id=x.id:=fun z hz=>⟨fun e=>by rw [ht.byN hz hxl ((fP (ht.ok z hz) (ht.ok x hxl)).1 e)],fun e=>by rw [ht.byI hz hxl e]⟩
 obtain ⟨j1,hj1,hK1⟩:=hK.delk n23 hxl hu;obtain ⟨j2,v2,hj2,hK2⟩:=hK1.deln n23 (by
  have hn:=ht.inv.ids;unfold b9 at hn;rw [FR] at hn;exact hn) hxl
 have hvw:=hc.v;have hnn:=hc.n;have hii:=hc.i;have hivl:iv<L.length:=(Fx.1 hvw).1;have hmnl:mn<L.length:=(Fx.1 hnn).1;have hmil:mi<L.length:=(Fx.1 hii).1;have hitl:it<L.length:=(Fx.1 hit).1;have nit:=hK.noIt hit;have n1:mi≠it:=fun e=>nit (.inr (.inr (.inl e.symm)))
 have n2:mn≠it:=fun e=>nit (.inr (.inl e.symm))
 have n3:=hK.nemi;have n4:=hK.nemn;have av:∀ X:List Blk,(L++X)[iv]?=some (.cells [dnA suf,.lmap mn,.lmap mi,.int .i64 last]):=fun X=>by rw [FC hivl];exact hvw
 have at':∀ X:List Blk,(L++X)[it]?=some (.cells [.ptr iv 0]):=fun X=>by rw [FC hitl];exact hit
 have ai:∀ X:List Blk,(L++X)[mi]?=some (.map (rs.map kyA) ci):=fun X=>by rw [FC hmil];exact hii
 have si:∀ (X:List Blk) b,(L++X).set mi b=L.set mi b++X:=fun X b=>Hs _ _ hmil
 have av2:∀ (X:List Blk) b,(L.set mi b++X)[iv]?=some (.cells [dnA suf,.lmap mn,.lmap mi,.int .i64 last]):=fun X b=>by rw [FC (by simpa using hivl),FL (Ne.symm n3)];exact hvw
 have at2:∀ (X:List Blk) b,(L.set mi b++X)[it]?=some (.cells [.ptr iv 0]):=fun X b=>by rw [FC (by simpa using hitl),FL n1];exact hit
 have an2:∀ (X:List Blk) b,(L.set mi b++X)[mn]?=some (.map (l.map (dp nb bn)) ck):=fun X b=>by rw [FC (by simpa using hmnl),FL (Ne.symm n23)];exact hnn
 have sn2:∀ (X:List Blk) b c,(L.set mi b++X).set mn c=(L.set mi b).set mn c++X:=fun X b c=>Hs _ _ (by simpa using hmnl)
 have ab3:∀ (X:List Blk) (b c d:Blk),((L.set mi b).set mn d++c::X)[L.length]?=some c:=fun X b c d=>by rw [FJ (by simp)];simp
 have kk1:Hid (∀ {X:List Blk} {K:Fw},K (.int .i64 0) (L++X)->Fv 13 [.ptr iv 0,.agg [.int .i64 2,dnA dn,dnA tn,v]] (L++X) K):=@hid _ (by
  intro X K q;exact o6 ht (by omega) (hc.app X) hdb htb (by rw [ha];exact q))
 have kk2:Hid (∀ {X:List Blk} {K:Fw},K (.int .i64 x.id) (L++X)->Fv 8 [.ptr iv 0,dnA dn] (L++X) K):=@hid _ (by
  intro X K q;exact mX hdb ht (hc.app X) (by rw [hfx];exact q))
 have kk3:Hid (Ctr Try.prog 19 [dnA dn] (.tup [.str (aE true dn),.int .i64 0])):=@hid _ (by
  intro L K q;exact qM hdb.1 hdb.2 (by rw [iw hod];exact q))
 obtain ⟨box,hbox⟩:∃ box:Blk,box=.cells [.int .i64 2,dnA dn,dnA tn,v]:=⟨_,rfl⟩;obtain ⟨A,hA⟩:=Fq ((L.set mi (.map ((rs.map kyA).eraseIdx j1) ci)).set mn (.map ((l.map (dp nb bn)).eraseIdx j2) ck));rw [hA] at hK2;have hAL:A.length=L.length:=by rw [<- hA];simp
 have ab4:∀ (X:List Blk) (c:Blk),(A++c::X)[L.length]?=some c:=fun X c=>by rw [FJ (by omega),hAL];simp
 have hbA:aF (OfT iv mn mi nb l) L A:=by
  rw [<- hA];exact (aF.set L (.inr (.inr (.inl rfl))) _).trans (aF.set _ (.inr (.inl rfl)) _)
 have hK3:=hK2.app [box];have hit3:(A++[box])[it]?=some (.cells [.ptr iv 0]):=by
  have hAl:it<A.length:=by rw [<- hA];simpa using hitl
  rw [FC hAl];exact hbA.get hit nit
 have kk4:Hid (∀ {K:Fw},(∀ L' ci' rs',a6 L' iv mn mi nb bn ck ci' rs' suf last (rS l x.id)->L'[it]?=some (.cells [.ptr iv 0])->aF (OfT iv mn mi nb l) L L'->K (.tup []) L')->Fv 27 [.ptr it 0,dnA dn,.int .i64 (-1)] (A++[box]) K):=@hid _ (by
  intro K q;have hne:dn≠[]:=fun e=>ht.inv.ne (dC hxl) (by rw [hxe,e];rfl)
  refine nu hdb hne htd (fun x hx=>⟨x,hx,rfl⟩) (fun z hz=>(htd.ids z hz).1) hit3 hK3 (by omega) (fun i=>by have:=sT l i;omega) fun L' hK4 hb=>?_
  refine q L' _ _ (hK4.toT fun z hz=>?_) (hb.get hit3 (hK3.noIt hit3)) (((hbA.trans (aF.app A [box])).trans2 hb fun i hi=>?_))
  ·have hzl:z∈l:=(F9.1 hz).1;have h1:=hkq (NK z.nm);rw [<- ht.kidsE hzl,hxe] at h1;have hpar:=htd.parI hz hod;by_cases hp:(NK dn).tail=NK z.nm
   ·rw [if_pos hp] at h1;rw [if_pos (hpar.2 hp)];omega
   ·rw [if_neg hp] at h1;rw [if_neg (fun e=>hp (hpar.1 e))];omega
  ·rintro (e|e|e|⟨z,hz,e⟩)
   ·exact .inl e
   ·exact .inr (.inl e)
   ·exact .inr (.inr (.inl e))
   ·exact .inr (.inr (.inr ⟨z,(F9.1 hz).1,e⟩)))
 have hkf1:aN .str (.str (aE true dn))=true:=rfl;have hkf2:aN .int (.int .i64 x.id)=true:=rfl;rw [<- htx] at hj1;obtain ⟨tk,htk⟩:=Fq (aE true dn);obtain ⟨xi,hxi⟩:=Fq (x.id);rw [htk] at hj1 kk3 hkf1;rw [hxi] at hj1 hj2 kk2 hkf2 h;replace h:=hid h;replace hj1:=hid hj1;clear hK hK1 hK2 hK3 hbA hit3 hu htx htk hvw hnn hii hit hc ht htd hkq hk0 hfx hod ha;have hj1:=hj1.out;subst hbox;refine Fu bH ?_;intro L' ci' rs' q1 q2 q3;replace q1:=hid q1;replace q2:=hid q2;replace q3:=hid q3;refine wk ?_;exact aq (h.out L' _ _ q1.out q2.out q3.out)
theorem ER (ht:TOk suf last l) (hln:l.length<=1000000) (hit:L[it]?=some (.cells [.ptr iv 0])) (hc:a6 L iv mn mi nb bn ck ci rs suf last l)
  {dn tn:List Rdn} {v:List Atr} (hdb:dnB dn) (htb:dnB tn) (hvl:v.length<=1100000) (hvz:∀ a∈v,a.2.length<=1100000) {x:aA} (hx:atE l dn=some x) {K:Fw}
  (h:∀ L',a6 L' iv mn mi nb bn ck ci rs suf last (l6 l x.id v)->L'[it]?=some (.cells [.ptr iv 0])->aF (OfT iv mn mi nb l) L L'->K (.int .i64 0) L') :
  Fv 14 [.ptr it 0,.agg [.int .i64 3,dnA dn,dnA tn,atR v]] L K:=by
 obtain ⟨hod,hxl,hxe⟩:=bF hx;have ha:cW suf l 3 dn tn=0:=by unfold cW;rw [if_neg (by decide),if_neg (by decide),hx];rfl
 have hfx:aH l dn=x.id:=by unfold aH;rw [hx]
 have hK:=hc.toK ht;have hK1:=hK.cha hxl v;have hbs:aF (OfT iv mn mi nb l) L (L.set (nb x.id) (.cells [dnA x.nm,.sl (am (pth x)) x.nm.length none,atR v,.int .i64 (dY l x.id:Nat)])):=aF.set L (.inr (.inr (.inr ⟨x,hxl,rfl⟩))) _;have nit:=hK.noIt hit;have hCT:a6 (L.set (nb x.id) (.cells [dnA x.nm,.sl (am (pth x)) x.nm.length none,atR v,.int .i64 (dY l x.id:Nat)])) iv mn mi nb bn ck ci rs suf last (l6 l x.id v):=hK1.toT fun z hz=>by
  obtain ⟨y,hy,rfl⟩:=FF.1 hz;rw [sN];have e1:(if y.id=x.id then { y with av:=v } else y).id=y.id:=by split<;>rfl
  have e2:(if y.id=x.id then { y with av:=v } else y).nm=y.nm:=by split<;>rfl
  rw [e1,e2,ht.kidsE hy]
 have hfin:=h _ (hCT.app [.cells [.int .i64 3,dnA dn,dnA tn,atR v]]) ((hbs.trans (aF.app _ _)).get hit nit) (hbs.trans (aF.app _ _));have hvw:=hc.v;have hnn:=hc.n;have hivl:iv<L.length:=(Fx.1 hvw).1;have hmnl:mn<L.length:=(Fx.1 hnn).1;have hitl:it<L.length:=(Fx.1 hit).1;have hnx:=hK.nd x hxl;have hxl':nb x.id<L.length:=(Fx.1 hnx).1;unfold bv at hnx;have av:∀ X:List Blk,(L++X)[iv]?=some (.cells [dnA suf,.lmap mn,.lmap mi,.int .i64 last]):=fun X=>by rw [FC hivl];exact hvw
 have at':∀ X:List Blk,(L++X)[it]?=some (.cells [.ptr iv 0]):=fun X=>by rw [FC hitl];exact hit
 have an:∀ X:List Blk,(L++X)[mn]?=some (.map (l.map (dp nb bn)) ck):=fun X=>by rw [FC hmnl];exact hnn
 have ad:∀ X:List Blk,(L++X)[nb x.id]?=some (.cells [dnA x.nm,.sl (am (pth x)) x.nm.length none,atR x.av,.int .i64 (dY l x.id:Nat)]):=fun X=>by rw [FC hxl'];exact hnx
 have sd:∀ (X:List Blk) b,(L++X).set (nb x.id) b=L.set (nb x.id) b++X:=fun X b=>Hs _ _ hxl'
 have kk1:Hid (∀ {X:List Blk} {K:Fw},K (.int .i64 0) (L++X)->Fv 13 [.ptr iv 0,.agg [.int .i64 3,dnA dn,dnA tn,atR v]] (L++X) K):=@hid _ (by
  intro X K q;exact o6 ht (by omega) (hc.app X) hdb htb (by rw [ha];exact q))
 have kk2:Hid (∀ {X:List Blk} {K:Fw},K (.int .i64 x.id) (L++X)->Fv 8 [.ptr iv 0,dnA dn] (L++X) K):=@hid _ (by
  intro X K q;exact mX hdb ht (hc.app X) (by rw [hfx];exact q))
 have kk3:Hid (Ctr Try.prog 17 [atR v] (atR v)):=@hid _ (by intro L K q;exact uJ hvl hvz q);have hkf2:aN .int (.int .i64 x.id)=true:=rfl;rcases hc.node x.id with ⟨f1,_⟩|⟨x',n,f1,_,_,f2,_⟩
 ·rw [ht.ent hxl] at f1;cases f1
 obtain ⟨q,hq⟩:∃ q:Int,(dY l x.id:Nat)=q:=⟨_,rfl⟩;rw [hq] at ad hfin;obtain ⟨xi,hxi⟩:=Fq (x.id);rw [hxi] at hkf2 f2 kk2 ad sd hfin;replace h:=hid hfin;clear hfin hK hK1 hbs hvw hnn hit hc ht hfx hod ha hxi hq hxl f1 hnx;unfold atR at kk1 kk3 h ⊢;refine Fu bH ?_;exact aq h.out
end
set_option maxHeartbeats 8000000
set_option maxRecDepth 100000
def oR (l:List aA) (dn:List Rdn):List aA:=l.filter fun z => !dJ z.nm dn
theorem fT {l:List aA} {dn:List Rdn} {z:aA}:z∈oR l dn↔z∈l/\dJ z.nm dn=false:=by
 unfold oR;rw [F9];simp
theorem TOk.cut {suf:List Rdn} {last:Int} {l:List aA} (h:TOk suf last l) {dn:List Rdn} (hd:OkD dn):TOk suf last (oR l dn):=by
 have sub:∀ z∈oR l dn,z∈l:=fun z hz=>(fT.1 hz).1
 have hs:(b9 (oR l dn)).Sublist (b9 l):=List.filter_sublist.map _;refine ⟨h.sok,fun z hz=>h.ok z (sub z hz),⟨h.inv.sne,(hs.map _).nodup h.inv.nd,(hs.map _).nodup h.inv.ids,fun m hm=>h.inv.un m (hs.subset hm),fun m hm=>?_⟩,fun z hz=>h.ids z (sub z hz)⟩;obtain ⟨z,hz,rfl⟩:=FF.1 hm;obtain ⟨hzl,hzu⟩:=fT.1 hz;rcases h.inv.par _ (dC hzl) with e|⟨k,hk,e⟩
 ·exact .inl e
 ·obtain ⟨w,hw,rfl⟩:=FF.1 hk;refine .inr ⟨_,dC (fT.2 ⟨hw,?_⟩),e⟩;cases hu:dJ w.nm dn with
  | false=>rfl
  | true =>
    have h1:=(cc.1 hu).2.2;simp only at e;rw [e] at h1;have:dJ z.nm dn=true:=cc.2 ⟨h.ok z hzl,hd,h1.trans (Hc _)⟩;rw [this] at hzu;cases hzu
def sO (l:List aA) (dn tn:List Rdn) (ids:List Int):List aA:=l.map fun z=>if z.id∈ids then { z with nm:=gq z.nm dn.length tn } else z
theorem CX (l:List aA) (dn tn:List Rdn):sO l dn tn []=l:=by
 unfold sO;simp
theorem BA {suf:List Rdn} {last:Int} {l:List aA} (h:TOk suf last l) (dn tn:List Rdn) {ids:List Int} {y:aA} (hy:y∈l) (hn:y.id ∉ ids):nmT (sO l dn tn ids) y.id (gq y.nm dn.length tn)=sO l dn tn (ids++[y.id]):=by
 unfold nmT sO;rw [FR];refine Gp fun z hz=>?_
 simp only [GR,FE,FM];by_cases e:z.id=y.id
 ·have:=h.byI hz hy e;subst this;simp [hn]
 ·by_cases c:z.id∈ids
  ·simp [c,e]
  ·simp [c,e]
theorem D5 {l:List aA} (dn tn:List Rdn) {ids:List Int} {y:aA} (hy:y∈l) (hn:y.id ∉ ids):y∈sO l dn tn ids:=FF.2 ⟨y,hy,if_neg hn⟩
theorem CY {l:List aA} (dn tn:List Rdn) {ids:List Int} (h:∀ z∈l,z.id∈ids↔dJ z.nm dn=true):sO l dn tn ids=iI l dn tn:=by
 unfold sO iI;refine Gp fun z hz=>?_
 by_cases c:dJ z.nm dn=true
 ·rw [if_pos ((h z hz).2 c),if_pos c]
 ·rw [if_neg (fun e=>c ((h z hz).1 e)),if_neg c]
theorem sx {l:List aA} {dn tn:List Rdn} {z:aA} (h:z∈iI l dn tn):∃ y∈l,y.id=z.id/\z=(if dJ y.nm dn=true then { y with nm:=gq y.nm dn.length tn } else y):=by
 obtain ⟨y,hy,rfl⟩:=FF.1 h;refine ⟨y,hy,?_,rfl⟩;split<;>rfl
theorem zZ {suf:List Rdn} {last:Int} {l:List aA} (h:TOk suf last l) {dn tn:List Rdn} (hd:OkD dn) {y:aA} (hy:y∈l):NK (if dJ y.nm dn=true then { y with nm:=gq y.nm dn.length tn } else y).nm=ren (NK dn) (NK tn) (NK y.nm):=by
 by_cases c:dJ y.nm dn=true
 ·rw [if_pos c,xX c]
 ·rw [if_neg c,dw fun hs=>c (cc.2 ⟨h.ok y hy,hd,hs⟩)]
theorem TOk.movK {suf:List Rdn} {last:Int} {l:List aA} (h:TOk suf last l) {x:aA} {dn tn:List Rdn} (hc:Eu suf l x dn tn) {y:aA} (hy:y∈l) :
  (aG (b9 (iI l dn tn)) (NK (if dJ y.nm dn=true then { y with nm:=gq y.nm dn.length tn } else y).nm):Int)=(if y.id=aH (iI l dn tn) tn.tail then (if y.id=aH (oR l dn) dn.tail then (dY l y.id:Int) + -1 else dY l y.id)+1 else (if y.id=aH (oR l dn) dn.tail then (dY l y.id:Int) + -1 else dY l y.id)):=by
 obtain ⟨hrt,hk⟩:=h.mov hc;have hct:=h.cut hc.ok;rw [zZ h hc.ok hy,hk y hy,h.kidsE hy];have c1:y.id=aH (oR l dn) dn.tail↔NK y.nm=(NK dn).tail:=by
  cases hu:dJ y.nm dn with
  | false=>rw [hct.parI (fT.2 ⟨hy,hu⟩) hc.ok];exact eq_comm
  | true =>
    constructor
    ·intro e;unfold aH at e;cases hq:atE (oR l dn) dn.tail with
     | none=>rw [hq] at e;have:=(h.ids y hy).1;simp only at e;omega
     | some w =>
       rw [hq] at e;obtain ⟨hw,hwu⟩:=fT.1 (bF hq).2.1;have:=h.byI hy hw e;rw [<- this,hu] at hwu;cases hwu
    ·intro e;have h1:=(cc.1 hu).2.2.length_le;rw [e,G6] at h1;have:NK dn≠[]:=fun e2=>h.inv.ne (dC hc.mem) (by rw [hc.nk,e2])
     have:=Gn.2 this;omega
 have c2:y.id=aH (iI l dn tn) tn.tail↔NK y.nm=(NK tn).tail:=by
  have hz:(if dJ y.nm dn=true then { y with nm:=gq y.nm dn.length tn } else y)∈iI l dn tn:=FF.2 ⟨y,hy,rfl⟩;have h1:=hrt.parI hz hc.tok;rw [zZ h hc.ok hy] at h1;rw [show (if dJ y.nm dn=true then { y with nm:=gq y.nm dn.length tn } else y).id=y.id by split<;>rfl] at h1;rw [h1];constructor
  ·intro e;by_cases hs:NK dn <:+ NK y.nm
   ·obtain ⟨w,ew⟩:=hs;rw [<- ew,dI] at e;have:=congrArg List.length e;rw [G6,FP] at this;have:=Gn.2 (fun e2=>hc.tne (xD.1 e2));omega
   ·rw [dw hs] at e;exact e.symm
  ·intro e;rw [e,dw hc.nun]
 by_cases d1:NK y.nm=(NK dn).tail<;>by_cases d2:NK y.nm=(NK tn).tail
 ·rw [if_pos d1,if_pos d2,if_pos (c2.2 d2),if_pos (c1.2 d1)];omega
 ·rw [if_pos d1,if_neg d2,if_neg (fun e=>d2 (c2.1 e)),if_pos (c1.2 d1)];omega
 ·rw [if_neg d1,if_pos d2,if_pos (c2.2 d2),if_neg (fun e=>d1 (c1.1 e))];omega
 ·rw [if_neg d1,if_neg d2,if_neg (fun e=>d2 (c2.1 e)),if_neg (fun e=>d1 (c1.1 e))];omega
section
variable {L:List Blk} {iv mn mi it:Nat} {nb bn:Int->Nat} {ck ci:Nat} {rs:List TKy} {suf:List Rdn} {last:Int} {l lk:List aA} {kd:Int->Int}
theorem aT.lkE (h:aT L iv mn mi nb bn ck ci rs suf last l lk kd) {lk':List aA} (e:∀ z,z∈lk↔z∈lk'):aT L iv mn mi nb bn ck ci rs suf last l lk' kd :=
 ⟨h.v,h.n,h.i,h.nd,h.inj,h.keys,fun k id=>by
  rw [h.mem k id];exact ⟨fun ⟨x,hx,e1⟩=>⟨x,(e x).1 hx,e1⟩,fun ⟨x,hx,e1⟩=>⟨x,(e x).2 hx,e1⟩⟩,h.bnd,h.blt⟩
def lkD (l:List aA) (ys:List aA):List aA:=l.filter fun z => !ys.any fun y=>decide (y.id=z.id)
theorem nv {l ys:List aA} {z:aA}:z∈lkD l ys↔z∈l/\∀ y∈ys,y.id≠z.id:=by
 unfold lkD;rw [F9];simp
theorem BD (l ys:List aA) (y:aA):∀ z,z∈rS (lkD l ys) y.id↔z∈lkD l (ys++[y]):=fun z=>by
 unfold rS;rw [F9,nv,nv];simp only [ne_eq,decide_eq_true_eq,FE,FM];constructor
 ·rintro ⟨⟨h1,h2⟩,h3⟩;refine ⟨h1,fun w hw=>?_⟩;rcases hw with hw|rfl
  ·exact h2 w hw
  ·exact fun e=>h3 e.symm
 ·rintro ⟨h1,h2⟩;exact ⟨⟨h1,fun w hw=>h2 w (.inl hw)⟩,fun e=>h2 y (.inr rfl) e.symm⟩
end
end Go.Proofs.Ytobihfefmlgaoaa.Av
