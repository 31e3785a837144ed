/- Joined texts of the walk, made small by a program. -/
import Derived.Test.YtdhjplmjpjfjnaaGreatHTrX
import Derived.Test.YtdhjplmjpjfjnaaGreatHTrO
import Derived.Test.YtdhjplmjpjfjnaaGreatHC3
set_option linter.unusedSimpArgs false
set_option linter.unusedVariables false
namespace Go.Proofs.YtdhjplmjpjfjnaaGreat.Av
open Go
set_option maxHeartbeats 8000000
set_option maxRecDepth 100000
theorem Gi {l:List az} {x:az} (h:mE l x.id=some x):scT l x.id 2=(scL l x 2).map (·.id):=by
 unfold scT;rw [h];exact if_neg (by omega)
theorem CX {suf:List Rdn} {last:Int} {l:List az} (ht:TOk suf last l) {x y:az} {dn:List Rdn} (hx:atE l dn=some x):y∈scL l x 2↔y∈l∧bD y.nm dn=true:=by
 obtain ⟨hd,hxl,e⟩:=bE hx
 unfold scL
 rw [List.Perm.mem_iff (List.mergeSort_perm _ _),List.mem_filter]
 refine and_congr_right fun hy=>?_
 unfold eQ
 rw [decide_eq_true (rfl:(2:Int)=2),Bool.true_or,Bool.and_true,bw,bw,e]
 exact ⟨fun ⟨a,_,c⟩=>⟨a,hd,c⟩,fun ⟨a,_,c⟩=>⟨a,ht.ok x hxl,c⟩⟩
theorem It (l:List az) (x:az) (s:Int):(scL l x s).length≤l.length:=by
 unfold scL;rw [List.length_mergeSort];exact List.length_filter_le _ _
theorem MB {suf:List Rdn} {last:Int} {l:List az} (ht:TOk suf last l) {x:az} {dn tn:List Rdn} (hx:atE l dn=some x):H6 l dn tn=(scL l x 2).any fun y => !decide (OkD (eO y.nm dn.length tn)):=by
 rw [Bool.eq_iff_iff,H6,List.any_eq_true,List.any_eq_true]
 constructor
 · rintro ⟨y,hy,h⟩
   rw [Bool.and_eq_true] at h
   exact ⟨y,(CX ht hx).2 ⟨hy,h.1⟩,h.2⟩
 · rintro ⟨y,hy,h⟩
   obtain ⟨h1,h2⟩:=(CX ht hx).1 hy
   exact ⟨y,h1,by rw [Bool.and_eq_true];exact ⟨h2,h⟩⟩
theorem Nl {suf:List Rdn} {last:Int} {l:List az} (ht:TOk suf last l) (hln:l.length≤1100000) {L:List Blk} {iv mn mi:Nat} {nb bn:Int→Nat} {ck ci:Nat} {rs:List TKy} (hc:aR L iv mn mi nb bn ck ci rs suf last l)
   {dn tn:List Rdn} {k:Int} {v:AV} {x:az} (hx:atE l dn=some x) (htb:dnB tn) {K:AV→List Blk→Prop} (h:K (.int .i64 (FD suf l x.id dn tn)) L) :
   ab Tryz.prog 59 [.ptr iv 0,.int .i64 x.id,.agg [.int .i64 k,dnA dn,dnA tn,v]] L K:=by
 obtain ⟨hd,hxl,hxe⟩:=bE hx
 have hsb:=ht.sok.m.b
 have hdb:=hd.m.b
 have hv:=hc.v
 have hivl:iv<L.length:=(List.getElem?_eq_some_iff.1 hv).1
 have av:∀ X:List Blk,(L++X)[iv]?=some (.cells [dnA suf,.lmap mn,.lmap mi,.int .i64 last]):=fun X=>by rw [List.getElem?_append_left hivl];exact hv
 obtain ⟨⟨ps,pe⟩,hp⟩:∃ q,prS tn=q:=⟨_,rfl⟩
 have kk1:Hid (Ctr Tryz.prog 50 [dnA tn] (.tup [.str ps,.int .i64 pe])):=@hid _ (by intro L K q;exact pW htb.1 htb.2 (by rw [hp];exact q))
 have kk2:Hid (∀ {v:Nat} {L:List Blk} {K:AV→List Blk→Prop},K (.bool (sh dn suf)) L→ab Tryz.prog 58 [.ptr v 0,dnA dn,dnA suf] L K):=@hid _ (by intro v L K q;exact Il hdb hsb q)
 have p1:OkD tn↔pe=0:=by unfold OkD;rw [hp]
 unfold FD at h
 by_cases c1:sh dn suf=true
 · rw [if_pos c1] at h
   rw [c1] at kk2
   replace h:=hid h
   clear hc hp p1 hdb hsb
   refine aa a8 (by simp [aG]) ?_
   simp only [aG,am]
   refine wk ?_
   exact ac rfl h.out
 rw [if_neg c1] at h
 rw [Bool.eq_false_iff.2 c1] at kk2
 by_cases c2:pe=0
 rotate_left
 · rw [if_pos (.inl fun c=>c2 (p1.1 c))] at h
   replace h:=hid h
   clear hc hp p1 hdb hsb
   refine aa a8 (by simp [aG]) ?_
   simp only [aG,am]
   refine wk ?_
   exact ac rfl h.out
 have hto:=p1.2 c2
 have ht32:=hto.len
 subst c2
 by_cases c3:tn=[]
 · rw [if_pos (.inr c3)] at h
   replace h:=hid h
   subst c3
   clear hc hp p1 hdb hsb
   refine aa a8 (by simp [aG]) ?_
   simp only [aG,am]
   refine wk ?_
   exact ac rfl h.out
 rw [if_neg (fun c=>c.elim (fun c=>c hto) c3)] at h
 have hl3:¬ (tn.length:Int)=0:=fun c=>c3 (List.length_eq_zero_iff.1 (by omega))
 have hl4:(1:Int)≤(tn.length:Int):=by omega
 have htt:tn.tail.length=tn.length - 1:=List.length_tail
 have hdr:List.take (tn.length - 1) (List.drop 1 (tn.map ao))=tn.tail.map ao:=by rw [List.drop_one,List.map_tail,List.take_of_length_le (by simp)]
 have hot:=hto.tail
 have kk3:Hid (∀ {c:Option Nat} {L:List Blk} {K:AV→List Blk→Prop},K (.bool (bD tn.tail dn)) L→ab Tryz.prog 86 [.sl (List.take (tn.length - 1) (List.drop 1 (tn.map ao))) (tn.length - 1) c,dnA dn] L K):=@hid _ (by
   intro c L K q
   rw [hdr,← htt]
   exact Io hot.m.b hdb q)
 have kf:Hid (∀ {c:Option Nat} {L':List Blk} {K:AV→List Blk→Prop} (d:List Rdn) (X:List Blk),dnB d→K (.int .i64 (aN l d)) (L++X)→ab Tryz.prog 15 [.ptr iv 0,.sl (d.map ao) d.length c] (L++X) K):=@hid _ (by
   intro c L' K d X hdd q
   exact ov hdd ht (hc.app X) q)
 have kk4:Hid (∀ {c:Option Nat} {X:List Blk} {K:AV→List Blk→Prop},K (.int .i64 (aN l tn.tail)) (L++X)→ab Tryz.prog 15 [.ptr iv 0,.sl (List.take (tn.length - 1) (List.drop 1 (tn.map ao))) (tn.length - 1) c] (L++X) K):=@hid _ (by
   intro c X K q
   rw [hdr,← htt]
   exact kf.out (L':=L) _ X hot.m.b q)
 by_cases c4:bD tn.tail dn=true
 · rw [if_pos c4] at h
   rw [c4] at kk3
   replace h:=hid h
   clear hc hp p1 hdb hsb kf kk4 hdr
   refine aa a8 (by simp [aG]) ?_
   simp only [aG,am]
   refine wk ?_
   exact ac rfl h.out
 rw [if_neg c4] at h
 rw [Bool.eq_false_iff.2 c4] at kk3
 by_cases c5:atE l tn.tail=none
 · rw [if_pos c5] at h
   rw [ht.find0.2 c5] at kk4
   replace h:=hid h
   clear hc hp p1 hdb hsb kf hdr
   refine aa a8 (by simp [aG]) ?_
   simp only [aG,am]
   refine wk ?_
   exact ac rfl h.out
 rw [if_neg c5] at h
 have c5':¬ aN l tn.tail=0:=fun c=>c5 (ht.find0.1 c)
 have kk5:Hid (∀ {X:List Blk} {K:AV→List Blk→Prop},K (.int .i64 (aN l tn)) (L++X)→ab Tryz.prog 15 [.ptr iv 0,dnA tn] (L++X) K):=@hid _ (by
   intro X K q
   exact kf.out (L':=L) _ X hto.m.b q)
 obtain ⟨z,hz⟩:∃ z,aN l tn.tail=z:=⟨_,rfl⟩
 rw [hz] at kk4 c5'
 have hoth:Hy l x.id tn=(decide (0<aN l tn) && decide (aN l tn≠x.id)):=by
   unfold Hy aN
   cases hq:atE l tn with
   | none=>simp
   | some y =>
     have:=(ht.ids y (bE hq).2.1).1
     simp only
     rw [decide_eq_true (by omega:0<y.id),Bool.true_and]
 rw [hoth] at h
 obtain ⟨w,hw⟩:∃ w,aN l tn=w:=⟨_,rfl⟩
 rw [hw] at kk5 h
 obtain ⟨xi,hxi⟩:∃ i,x.id=i:=⟨_,rfl⟩
 rw [hxi] at h ⊢
 by_cases c6:0<w∧w≠xi
 · obtain ⟨c6,c7⟩:=c6
   have c6':w > 0:=c6
   rw [if_pos (by rw [decide_eq_true c6,decide_eq_true c7];rfl)] at h
   replace h:=hid h
   clear hc hp p1 hdb hsb kf hdr
   refine aa a8 (by simp [aG]) ?_
   simp only [aG,am]
   refine wk ?_
   exact ac rfl h.out
 rw [if_neg (by
   intro c
   rw [Bool.and_eq_true,decide_eq_true_eq,decide_eq_true_eq] at c
   exact c6 c)] at h
 have c8:w≤0∨w=xi:=by omega
 rw [MB ht hx] at h
 have hsc:scT l xi 2=(scL l x 2).map (·.id):=by rw [← hxi];exact Gi (ht.ent hxl)
 have kk6:Hid (∀ {X:List Blk} {K:AV→List Blk→Prop},K (.sl (((scL l x 2).map (·.id)).map (AV.int .i64)) (scL l x 2).length none) (L++X)→ab Tryz.prog 12 [.ptr iv 0,.int .i64 xi,.int .i64 2] (L++X) K):=@hid _ (by
   intro X K q
   refine C9 ht hln (hc.app X) ?_
   rw [hsc,List.length_map];exact q)
 obtain ⟨sc,hsce⟩:∃ sc,scL l x 2=sc:=⟨_,rfl⟩
 have hscl:=It l x 2
 have hscm:=fun y=>(CX (y:=y) ht hx).1
 rw [hsce] at kk6 h hscl hscm
 replace hscm:=hid hscm
 replace h:=hid h
 replace hc:=hid hc
 replace ht:=hid ht
 clear hp p1 hdb hsb kf hdr hsc hsce hoth hw hz hxi
 have c9:(¬ 0<w∧¬ w > 0)∨(0<w∧w > 0∧xi=w):=by omega
 clear c8 c6
 have hdl:=hd.len
 rcases c9 with ⟨c9,c9'⟩|⟨c9,c9',rfl⟩
 all_goals
   refine aa a8 (by simp [aG]) ?_
   simp only [aG,am]
   refine wk ?_
   refine ax (fun m T' L'=>∃ j:Nat,m=sc.length - j∧j≤sc.length∧Hid (∀ i,i<j→OkD (eO (sc.getD i default).nm dn.length tn))∧T'=[(68,.int .i64 (j:Int)),(67,.int .i64 sc.length),(66,.sl ((sc.map (·.id)).map (AV.int .i64)) sc.length none),(5,.ptr L.length 0),(0,.ptr iv 0)]∧L'=L++[.cells [.int .i64 k,dnA dn,dnA tn,v]]) (CutS (b:=by simp)) ⟨0,rfl,Nat.zero_le _,hid (fun i hi=>absurd hi (Nat.not_lt_zero _)),rfl,rfl⟩ ?_
   rintro _ _ _ ⟨j,rfl,hj,hI,rfl,rfl⟩
   by_cases hlt:j<sc.length
   · have g1:(j:Int)<(sc.length:Int):=by omega
     have g2:IntKind.i64.wrap ((j:Int)+1)=(j:Int)+1:=ah (by omega) (by omega)
     obtain ⟨y,hy⟩:∃ y,sc.getD j default=y:=⟨_,rfl⟩
     have hym:y∈sc:=by rw [← hy];simp [hlt]
     obtain ⟨hyl,hyu⟩:=hscm.out y hym
     have e1:((sc.map (·.id)).map (AV.int .i64)).getD j .undef=.int .i64 y.id:=by rw [← hy];simp [hlt]
     have e2:j<((sc.map (·.id)).map (AV.int .i64)).length:=by simpa using hlt
     rcases (hc.out.app [.cells [.int .i64 k,dnA dn,dnA tn,v]]).node y.id with ⟨f1,_⟩|⟨x',n,f1,_,_,f2,f3⟩
     · rw [ht.out.ent hyl] at f1;cases f1
     rw [ht.out.ent hyl] at f1
     cases f1
     unfold gE at f3
     have hoy:=ht.out.ok y hyl
     have hyle:dn.length≤y.nm.length:=by
       have:=(bw.1 hyu).2.2.length_le
       rwa [aQ,aQ] at this
     have hy32:=hoy.len
     have an:=(hc.out.app [.cells [.int .i64 k,dnA dn,dnA tn,v]]).n
     obtain ⟨yi,hyi⟩:∃ i,y.id=i:=⟨_,rfl⟩
     obtain ⟨yn,hyn⟩:∃ n,y.nm=n:=⟨_,rfl⟩
     rw [hyi] at e1 f2 f3
     rw [hyn] at f3 hyle hy32 hoy
     obtain ⟨q,hq⟩:∃ q,yn.length - dn.length=q:=⟨_,rfl⟩
     have w1:IntKind.i64.wrap ((yn.length:Int) - (dn.length:Int))=(q:Int):=by rw [ah (by omega) (by omega)];omega
     have w2:(q:Int)≤(yn.length:Int):=by omega
     have hkf:aT .int (.int .i64 yi)=true:=rfl
     obtain ⟨Z,hZ⟩:∃ Z,eO yn dn.length tn=Z:=⟨_,rfl⟩
     have hZe:yn.take q++tn=Z:=by rw [← hZ,← hq];rfl
     have hZb:dnB Z:=by
       rw [← hZe]
       refine ⟨by simp;omega,fun r hr=>?_⟩
       rcases List.mem_append.1 hr with hr|hr
       · exact hoy.m.b.2 r (List.mem_of_mem_take hr)
       · exact htb.2 r hr
     have kk7:Hid (∀ {c:Option Nat} {L:List Blk} {K:AV→List Blk→Prop},K (dnA Z) L→ab Tryz.prog 47 [dnA tn,.sl (List.take q (yn.map ao)) q c] L K):=@hid _ (by
       intro c L K u
       rw [← List.map_take]
       exact IE hZe (by rw [List.length_take];omega) rfl hZb.1 hZb.2 u)
     obtain ⟨⟨zs,ze⟩,hzp⟩:∃ u,prS Z=u:=⟨_,rfl⟩
     have kk1:Hid (Ctr Tryz.prog 50 [dnA Z] (.tup [.str zs,.int .i64 ze])):=@hid _ (by intro L K u;exact pW hZb.1 hZb.2 (by rw [hzp];exact u))
     have pz:OkD Z↔ze=0:=by unfold OkD;rw [hzp]
     by_cases hz0:ze=0
     · have hI':=hid (fun i (hi:i<j+1)=>show OkD (eO (sc.getD i default).nm dn.length tn) from by
         by_cases e:i=j
         · subst e;rw [hy,hyn,hZ];exact pz.2 hz0
         · exact hI.out i (by omega))
       subst hz0
       clear hI hy hym hyl hyu hoy hyle hyi hyn hq hZ hZe hZb hzp pz kk2 kk3 kk4 kk5 kk6
       refine wk ?_
       exact ay _ _ _ (by omega) (CutL (b:=by simp)) ⟨j+1,rfl,hlt,hI',rfl,rfl⟩
     · have hbad:(sc.any fun y => !decide (OkD (eO y.nm dn.length tn)))=true:=List.any_eq_true.2 ⟨y,hym,by rw [hyn,hZ,decide_eq_false (fun c=>hz0 (pz.1 c))];rfl⟩
       have h':=h.out
       rw [if_pos hbad] at h'
       replace h':=hid h'
       clear hI hy hym hyl hyu hoy hyle hyi hyn hq hZ hZe hZb hzp pz kk2 kk3 kk4 kk5 kk6 hbad
       refine wk ?_
       exact ac rfl h'.out
   · have hje:j=sc.length:=by omega
     subst hje
     have g1:¬ (sc.length:Int)<(sc.length:Int):=by omega
     have hgood:¬ (sc.any fun y => !decide (OkD (eO y.nm dn.length tn)))=true:=fun c=>by
       obtain ⟨y,hy,hb⟩:=List.any_eq_true.1 c
       obtain ⟨i,hi,rfl⟩:=List.mem_iff_getElem.1 hy
       have:=hI.out i hi
       rw [show sc.getD i default=sc[i] by simp [hi]] at this
       rw [decide_eq_true this] at hb
       cases hb
     have h':=h.out
     rw [if_neg hgood] at h'
     replace h':=hid h'
     clear hI hgood
     refine wk ?_
     exact ac rfl h'.out
theorem xO {suf:List Rdn} {last:Int} {l:List az} (ht:TOk suf last l) (hln:l.length≤1100000) {L:List Blk} {iv mn mi:Nat} {nb bn:Int→Nat} {ck ci:Nat} {rs:List TKy} (hc:aR L iv mn mi nb bn ck ci rs suf last l)
   {dn tn:List Rdn} {k:Int} {v:AV} (hdb:dnB dn) (htb:dnB tn) {K:AV→List Blk→Prop} (h:K (.int .i64 (b8 suf l k dn tn)) L) :
   ab Tryz.prog 27 [.ptr iv 0,.agg [.int .i64 k,dnA dn,dnA tn,v]] L K:=by
 have hsb:=ht.sok.m.b
 have hv:=hc.v
 have hn:=hc.n
 have hivl:iv<L.length:=(List.getElem?_eq_some_iff.1 hv).1
 have hmnl:mn<L.length:=(List.getElem?_eq_some_iff.1 hn).1
 have av:∀ X:List Blk,(L++X)[iv]?=some (.cells [dnA suf,.lmap mn,.lmap mi,.int .i64 last]):=fun X=>by rw [List.getElem?_append_left hivl];exact hv
 have an:∀ X:List Blk,(L++X)[mn]?=some (.map (l.map (em nb bn)) ck):=fun X=>by rw [List.getElem?_append_left hmnl];exact hn
 have hnl:(l.map (em nb bn)).length=l.length:=List.length_map _
 obtain ⟨⟨ps,pe⟩,hp⟩:∃ q,prS dn=q:=⟨_,rfl⟩
 have kk1:Hid (Ctr Tryz.prog 50 [dnA dn] (.tup [.str ps,.int .i64 pe])):=@hid _ (by intro L K q;exact pW hdb.1 hdb.2 (by rw [hp];exact q))
 have kk2:Hid (∀ {v:Nat} {L:List Blk} {K:AV→List Blk→Prop},K (.bool (sh dn suf)) L→ab Tryz.prog 58 [.ptr v 0,dnA dn,dnA suf] L K):=@hid _ (by intro v L K q;exact Il hdb hsb q)
 have p1:OkD dn↔pe=0:=by unfold OkD;rw [hp]
 have kk3:Hid (∀ {X:List Blk} {K:AV→List Blk→Prop},K (.int .i64 (aN l dn)) (L++X)→ab Tryz.prog 15 [.ptr iv 0,dnA dn] (L++X) K):=@hid _ (by
   intro X K q
   exact ov hdb ht (hc.app X) q)
 obtain ⟨z,hz⟩:∃ z,aN l dn=z:=⟨_,rfl⟩
 have hz0:=ht.find0 (d:=dn)
 rw [hz] at hz0 kk3
 unfold b8 at h
 by_cases hk:k<1∨4<k
 · rw [if_pos hk] at h
   have d1:¬ k=1:=by omega
   have d2:¬ k=2:=by omega
   have d3:¬ k=3:=by omega
   have d4:¬ k=4:=by omega
   replace h:=hid h
   clear hc hp p1 hdb hsb hz0 hz
   refine aa aJ (by simp [au]) ?_
   simp only [au,am]
   refine wk ?_
   exact ac rfl h.out
 rw [if_neg hk] at h
 by_cases k1:k=1
 · subst k1
   rw [if_pos rfl] at h
   by_cases c1:pe=0
   rotate_left
   · rw [if_pos (fun c=>c1 (p1.1 c))] at h
     replace h:=hid h
     clear hc hp p1 hdb hsb hz0 hz hk
     refine aa aJ (by simp [au]) ?_
     simp only [au,am]
     refine wk ?_
     exact ac rfl h.out
   have hod:=p1.2 c1
   subst c1
   rw [if_neg (fun c=>c hod)] at h
   by_cases c2:z=0
   rotate_left
   · rw [if_pos (fun c=>c2 (hz0.2 c))] at h
     have hzp:0<z:=by
       cases hq:atE l dn with
       | none=>exact absurd (hz0.2 hq) c2
       | some y =>
         have:=(ht.ids y (bE hq).2.1).1
         rw [← hz];unfold aN;rw [hq];simp only;omega
     have hzp':z > 0:=hzp
     replace h:=hid h
     clear hc hp p1 hdb hsb hz0 hz hk
     refine aa aJ (by simp [au]) ?_
     simp only [au,am]
     refine wk ?_
     exact ac rfl h.out
   subst c2
   rw [if_neg (fun c=>c (hz0.1 rfl))] at h
   have hdl:=hod.len
   obtain ⟨sm,hsm⟩:∃ sm,sh dn suf=sm:=⟨_,rfl⟩
   rw [hsm] at h kk2
   have hlast:∀ {h4:K (.int .i64 (if 4096≤l.length then 80 else 0)) L},(4096≤l.length∧K (.int .i64 80) L)∨(¬ 4096≤l.length∧K (.int .i64 0) L):=fun {h4}=>by
     by_cases c:4096≤l.length
     · rw [if_pos c] at h4;exact .inl ⟨c,h4⟩
     · rw [if_neg c] at h4;exact .inr ⟨c,h4⟩
   cases sm with
   | true =>
     rw [if_neg (fun c=>by cases c.1)] at h
     rcases hlast (h4:=h) with ⟨c,h⟩|⟨c,h⟩
     · have c':(4096:Int)≤(l.length:Int):=by omega
       have c'':(l.length:Int) ≥ 4096:=c'
       replace h:=hid h
       clear hlast hc hp p1 hdb hsb hz0 hz hk
       refine aa aJ (by simp [au]) ?_
       simp only [au,am]
       refine wk ?_
       exact ac rfl h.out
     · have c':¬ (4096:Int)≤(l.length:Int):=by omega
       have c'':¬ (l.length:Int) ≥ 4096:=c'
       replace h:=hid h
       clear hlast hc hp p1 hdb hsb hz0 hz hk
       refine aa aJ (by simp [au]) ?_
       simp only [au,am]
       refine wk ?_
       exact ac rfl h.out
   | false =>
     by_cases c3:dn=[]
     · rw [if_pos ⟨rfl,.inl c3⟩] at h
       subst c3
       replace h:=hid h
       clear hlast hc hp p1 hdb hsb hz0 hz hk
       refine aa aJ (by simp [au]) ?_
       simp only [au,am]
       refine wk ?_
       exact ac rfl h.out
     have hl3:¬ (dn.length:Int)=0:=fun c=>c3 (List.length_eq_zero_iff.1 (by omega))
     have hl4:(1:Int)≤(dn.length:Int):=by omega
     have htt:dn.tail.length=dn.length - 1:=List.length_tail
     have hdr:List.take (dn.length - 1) (List.drop 1 (dn.map ao))=dn.tail.map ao:=by rw [List.drop_one,List.map_tail,List.take_of_length_le (by simp)]
     have kk4:Hid (∀ {c:Option Nat} {X:List Blk} {K:AV→List Blk→Prop},K (.int .i64 (aN l dn.tail)) (L++X)→ab Tryz.prog 15 [.ptr iv 0,.sl (List.take (dn.length - 1) (List.drop 1 (dn.map ao))) (dn.length - 1) c] (L++X) K):=@hid _ (by
       intro c X K q
       rw [hdr,← htt]
       exact ov hod.tail.m.b ht (hc.app X) q)
     have hq0:=ht.find0 (d:=dn.tail)
     obtain ⟨q,hq⟩:∃ q,aN l dn.tail=q:=⟨_,rfl⟩
     rw [hq] at hq0 kk4
     by_cases c4:q=0
     · rw [if_pos ⟨rfl,.inr (hq0.1 c4)⟩] at h
       subst c4
       replace h:=hid h
       clear hlast hc hp p1 hdb hsb hz0 hz hk hdr hq0 hq
       refine aa aJ (by simp [au]) ?_
       simp only [au,am]
       refine wk ?_
       exact ac rfl h.out
     rw [if_neg (fun c=>c.2.elim c3 fun c=>c4 (hq0.2 c))] at h
     rcases hlast (h4:=h) with ⟨c,h⟩|⟨c,h⟩
     · have c':(4096:Int)≤(l.length:Int):=by omega
       have c'':(l.length:Int) ≥ 4096:=c'
       replace h:=hid h
       clear hlast hc hp p1 hdb hsb hz0 hz hk hdr hq0 hq
       refine aa aJ (by simp [au]) ?_
       simp only [au,am]
       refine wk ?_
       exact ac rfl h.out
     · have c':¬ (4096:Int)≤(l.length:Int):=by omega
       have c'':¬ (l.length:Int) ≥ 4096:=c'
       replace h:=hid h
       clear hlast hc hp p1 hdb hsb hz0 hz hk hdr hq0 hq
       refine aa aJ (by simp [au]) ?_
       simp only [au,am]
       refine wk ?_
       exact ac rfl h.out
 rw [if_neg k1] at h
 have hkk:k=2∨k=3∨k=4:=by omega
 cases hx:atE l dn with
 | none =>
   rw [hx] at h
   simp only at h
   have c2:z=0:=hz0.2 hx
   subst c2
   replace h:=hid h
   clear hc hp p1 hdb hsb hz0 hz hk k1
   rcases hkk with rfl|rfl|rfl
   all_goals
     refine aa aJ (by simp [au]) ?_
     simp only [au,am]
     refine wk ?_
     exact ac rfl h.out
 | some x =>
   rw [hx] at h
   simp only at h
   obtain ⟨hd,hxl,hxe⟩:=bE hx
   have hzx:z=x.id:=by rw [← hz];unfold aN;rw [hx]
   have hxp:=(ht.ids x hxl).1
   have kk5:Hid (∀ {X:List Blk} {K:AV→List Blk→Prop},K (.int .i64 (FD suf l x.id dn tn)) (L++X)→ab Tryz.prog 59 [.ptr iv 0,.int .i64 x.id,.agg [.int .i64 k,dnA dn,dnA tn,v]] (L++X) K):=@hid _ (by
     intro X K q
     exact Nl ht hln (hc.app X) hx htb q)
   have hkf:aT .int (.int .i64 x.id)=true:=rfl
   rcases hc.node x.id with ⟨f1,_⟩|⟨x',n,f1,_,_,f2,f3⟩
   · rw [ht.ent hxl] at f1;cases f1
   rw [ht.ent hxl] at f1
   cases f1
   unfold gE at f3
   have hnbl:nb x.id<L.length:=(List.getElem?_eq_some_iff.1 f3).1
   have ad:∀ X:List Blk,(L++X)[nb x.id]?=some (.cells [dnA x.nm,.sl (aB (pth x)) x.nm.length none,atR x.av,.int .i64 (aO (cE l) (NK x.nm):Nat)]):=fun X=>by rw [List.getElem?_append_left hnbl];exact f3
   subst hzx
   obtain ⟨xi,hxi⟩:∃ i,x.id=i:=⟨_,rfl⟩
   obtain ⟨kn,hkn⟩:∃ kn,aO (cE l) (NK x.nm)=kn:=⟨_,rfl⟩
   rw [hxi] at kk3 kk5 hkf f2 ad hxp h
   rw [hkn] at ad h
   obtain ⟨mv,hmv⟩:∃ m,FD suf l xi dn tn=m:=⟨_,rfl⟩
   rw [hmv] at kk5 h
   have g0:¬ xi=0:=by omega
   have hsplit:(kn≠0∧k=2∧K (.int .i64 66) L)∨(kn=0∧k=2∧K (.int .i64 0) L)∨(k=3∧K (.int .i64 0) L)∨(k=4∧K (.int .i64 mv) L):=by
     rcases hkk with rfl|rfl|rfl
     · by_cases c:kn=0
       · rw [if_pos rfl,if_neg (fun e=>e c)] at h;exact .inr (.inl ⟨c,rfl,h⟩)
       · rw [if_pos rfl,if_pos c] at h;exact .inl ⟨c,rfl,h⟩
     · rw [if_neg (by decide),if_pos rfl] at h;exact .inr (.inr (.inl ⟨rfl,h⟩))
     · rw [if_neg (by decide),if_neg (by decide)] at h;exact .inr (.inr (.inr ⟨rfl,h⟩))
   clear h hc hp p1 hdb hsb hz0 hz hk k1 hkk hxl hxe hxi hkn hmv hx f3
   rcases hsplit with ⟨c,rfl,h⟩|⟨c,rfl,h⟩|⟨rfl,h⟩|⟨rfl,h⟩
   · have c1:(0:Int)<(kn:Int):=by omega
     have c2:(kn:Int) > 0:=c1
     replace h:=hid h
     refine aa aJ (by simp [au]) ?_
     simp only [au,am]
     refine wk ?_
     exact ac rfl h.out
   · subst c
     replace h:=hid h
     refine aa aJ (by simp [au]) ?_
     simp only [au,am]
     refine wk ?_
     all_goals exact ac rfl h.out
   · replace h:=hid h
     refine aa aJ (by simp [au]) ?_
     simp only [au,am]
     refine wk ?_
     exact ac rfl h.out
   · replace h:=hid h
     refine aa aJ (by simp [au]) ?_
     simp only [au,am]
     refine wk ?_
     exact ac rfl h.out
end Go.Proofs.YtdhjplmjpjfjnaaGreat.Av
