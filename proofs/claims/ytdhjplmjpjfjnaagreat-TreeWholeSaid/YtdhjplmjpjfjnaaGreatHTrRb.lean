/- Joined texts of the walk, made small by a program. -/
import Derived.Test.YtdhjplmjpjfjnaaGreatHTrRa
import Derived.Test.YtdhjplmjpjfjnaaGreatHTrL
import Derived.Test.YtdhjplmjpjfjnaaGreatHTrX
import Derived.Test.YtdhjplmjpjfjnaaGreatHTrZa
set_option linter.unusedSimpArgs false
set_option linter.unusedVariables false
namespace Go.Proofs.YtdhjplmjpjfjnaaGreat.Av
open Go
set_option maxHeartbeats 8000000
set_option maxRecDepth 100000
theorem Iu {suf:List Rdn} {last:Int} {l:List az} (ht:TOk suf last l) (hn:l.length≤1000000) {rt:Nat} {c:Option Nat} {b:AV} {L:List Blk} (hL:L[rt]?=some (.cells [dnA suf,.sl (aM l) l.length c,b]))
   {dn tn:List Rdn} {k:Int} {v:AV} (hdm:dnM dn) (htm:dnM tn) {K:AV→List Blk→Prop} (h:K (.int .i64 (b8 suf l k dn tn)) L) :
   ab Tryz.prog 28 [.ptr rt 0,.agg [.int .i64 k,dnA dn,dnA tn,v]] L K:=by
 have hsm:=ht.sok.m
 have hrl:=(List.getElem?_eq_some_iff.1 hL).1
 have ar:∀ X:List Blk,(L++X)[rt]?=some (.cells [dnA suf,.sl (aM l) l.length c,b]):=fun X=>by rw [List.getElem?_append_left hrl];exact hL
 have hel:=io l
 obtain ⟨⟨ps,pe⟩,hp⟩:∃ q,prS dn=q:=⟨_,rfl⟩
 have kk1:Hid (Ctr Tryz.prog 52 [dnA dn] (.tup [.str ps,.int .i64 pe])):=@hid _ (by intro L K q;exact lG hdm.1 hdm.2 (by rw [hp];exact q))
 have kk2:Hid (Ctr Tryz.prog 60 [dnA dn,dnA suf] (.bool (sh dn suf))):=@hid _ (by intro L K q;exact I8 hdm hsm q)
 have p1:OkD dn↔pe=0:=by unfold OkD;rw [hp]
 have kk3:Hid (∀ {X:List Blk} {K:AV→List Blk→Prop},K (.int .i64 (atI l dn)) (L++X)→ab Tryz.prog 49 [.ptr rt 0,dnA dn] (L++X) K):=@hid _ (by
   intro X K q
   exact ES ht.ok hdm (by omega) (ar X) q)
 unfold b8 at h
 by_cases hk:k<1∨4<k
 · rw [if_pos hk] at h
   replace h:=hid h
   clear hp p1
   by_cases d1:k<1
   · refine aa aw (by simp [ae]) ?_
     simp only [ae,am]
     refine wk ?_
     exact ac rfl h.out
   · have d2:4<k:=by omega
     have d3:k > 4:=d2
     refine aa aw (by simp [ae]) ?_
     simp only [ae,am]
     refine wk ?_
     exact ac rfl h.out
 rw [if_neg hk] at h
 have d1:¬ k<1:=by omega
 have d2:¬ 4<k:=by omega
 have d3:¬ k > 4:=d2
 by_cases k1:k=1
 · subst k1
   rw [if_pos rfl] at h
   by_cases c1:pe=0
   rotate_left
   · rw [if_pos (fun c=>c1 (p1.1 c))] at h
     replace h:=hid h
     clear hp p1 hk
     refine aa aw (by simp [ae]) ?_
     simp only [ae,am]
     refine wk ?_
     exact ac rfl h.out
   have hod:=p1.2 c1
   subst c1
   rw [if_neg (fun c=>c hod)] at h
   rcases oo l dn with ⟨q1,q2⟩|⟨n,hlt,q1,q2⟩
   rotate_left
   · rw [if_pos (by rw [q2];simp)] at h
     rw [q1] at kk3
     have g0:(0:Int)≤(n:Int):=by omega
     have g1:(n:Int) ≥ 0:=g0
     replace h:=hid h
     clear hp p1 hk
     refine aa aw (by simp [ae]) ?_
     simp only [ae,am]
     refine wk ?_
     exact ac rfl h.out
   rw [if_neg (fun c=>c q2)] at h
   rw [q1] at kk3
   have hdl:=hod.len
   obtain ⟨sm,hsmm⟩:∃ sm,sh dn suf=sm:=⟨_,rfl⟩
   rw [hsmm] at h kk2
   have hlast:∀ {h4:K (.int .i64 (if 4096≤l.length then 80 else 0)) L},(4096≤l.length∧K (.int .i64 80) L)∨(¬ 4096≤l.length∧K (.int .i64 0) L):=fun {h4}=>by
     by_cases c:4096≤l.length
     · rw [if_pos c] at h4;exact .inl ⟨c,h4⟩
     · rw [if_neg c] at h4;exact .inr ⟨c,h4⟩
   cases sm with
   | true =>
     rw [if_neg (fun c=>by cases c.1)] at h
     rcases hlast (h4:=h) with ⟨c,h⟩|⟨c,h⟩
     · have c':(4096:Int)≤(l.length:Int):=by omega
       have c'':(l.length:Int) ≥ 4096:=c'
       replace h:=hid h
       clear hlast hp p1 hk
       refine aa aw (by simp [ae]) ?_
       simp only [ae,am]
       refine wk ?_
       exact ac rfl h.out
     · have c':¬ (4096:Int)≤(l.length:Int):=by omega
       have c'':¬ (l.length:Int) ≥ 4096:=c'
       replace h:=hid h
       clear hlast hp p1 hk
       refine aa aw (by simp [ae]) ?_
       simp only [ae,am]
       refine wk ?_
       exact ac rfl h.out
   | false =>
     by_cases c3:dn=[]
     · rw [if_pos ⟨rfl,.inl c3⟩] at h
       subst c3
       replace h:=hid h
       clear hlast hp p1 hk
       refine aa aw (by simp [ae]) ?_
       simp only [ae,am]
       refine wk ?_
       exact ac rfl h.out
     have hl3:¬ (dn.length:Int)=0:=fun c=>c3 (List.length_eq_zero_iff.1 (by omega))
     have hl4:(1:Int)≤(dn.length:Int):=by omega
     have htt:dn.tail.length=dn.length - 1:=List.length_tail
     have hdr:List.take (dn.length - 1) (List.drop 1 (dn.map ao))=dn.tail.map ao:=by rw [List.drop_one,List.map_tail,List.take_of_length_le (by simp)]
     have kk4:Hid (∀ {c:Option Nat} {X:List Blk} {K:AV→List Blk→Prop},K (.int .i64 (atI l dn.tail)) (L++X)→ab Tryz.prog 49 [.ptr rt 0,.sl (List.take (dn.length - 1) (List.drop 1 (dn.map ao))) (dn.length - 1) c] (L++X) K):=@hid _ (by
       intro c X K q
       rw [hdr,← htt]
       exact ES ht.ok hod.tail.m (by omega) (ar X) q)
     rcases oo l dn.tail with ⟨r1,r2⟩|⟨n,hlt,r1,r2⟩
     · rw [if_pos ⟨rfl,.inr r2⟩] at h
       rw [r1] at kk4
       replace h:=hid h
       clear hlast hp p1 hk hdr
       refine aa aw (by simp [ae]) ?_
       simp only [ae,am]
       refine wk ?_
       exact ac rfl h.out
     rw [if_neg (fun c=>c.2.elim c3 fun c=>by rw [r2] at c;cases c)] at h
     rw [r1] at kk4
     have g0:¬ (n:Int)<0:=by omega
     rcases hlast (h4:=h) with ⟨c,h⟩|⟨c,h⟩
     · have c':(4096:Int)≤(l.length:Int):=by omega
       have c'':(l.length:Int) ≥ 4096:=c'
       replace h:=hid h
       clear hlast hp p1 hk hdr
       refine aa aw (by simp [ae]) ?_
       simp only [ae,am]
       refine wk ?_
       exact ac rfl h.out
     · have c':¬ (4096:Int)≤(l.length:Int):=by omega
       have c'':¬ (l.length:Int) ≥ 4096:=c'
       replace h:=hid h
       clear hlast hp p1 hk hdr
       refine aa aw (by simp [ae]) ?_
       simp only [ae,am]
       refine wk ?_
       exact ac rfl h.out
 rw [if_neg k1] at h
 have hkk:k=2∨k=3∨k=4:=by omega
 rcases oo l dn with ⟨q1,hx⟩|⟨n,hlt,q1,hx⟩
 · rw [hx] at h
   rw [q1] at kk3
   simp only at h
   replace h:=hid h
   clear hp p1 hk
   refine aa aw (by simp [ae]) ?_
   simp only [ae,am]
   refine wk ?_
   exact ac rfl h.out
 obtain ⟨x,hxe⟩:∃ x,l.getD n default=x:=⟨_,rfl⟩
 rw [hxe] at hx
 rw [hx] at h
 rw [q1] at kk3
 simp only at h
 obtain ⟨hod,hxl,hxn⟩:=bE hx
 have g0:¬ (n:Int)<0:=by omega
 have g1:(0:Int)≤(n:Int):=by omega
 have g2:(n:Int)<(l.length:Int):=by omega
 obtain ⟨e5,_,_⟩:=iq hlt
 rw [hxe] at e5
 have e4:n * 3<(aM l).length:=by rw [hel];omega
 have kk4:Hid (∀ {X:List Blk} {K:AV→List Blk→Prop},K (.int .i64 (aO (cE l) (NK x.nm):Nat)) (L++X)→ab Tryz.prog 61 [.ptr rt 0,.int .i64 x.id] (L++X) K):=@hid _ (by
   intro X K q
   refine LX ht (by omega) (ar X) ?_
   rw [ht.kidsE hxl];exact q)
 obtain ⟨kn,hkn⟩:∃ kn,aO (cE l) (NK x.nm)=kn:=⟨_,rfl⟩
 rw [hkn] at kk4 h
 by_cases k2:k=2
 · subst k2
   rw [if_pos rfl] at h
   by_cases ck:kn=0
   · rw [if_neg (fun e=>e ck)] at h
     subst ck
     replace h:=hid h
     clear hp p1 hk hkk hkn
     refine aa aw (by simp [ae]) ?_
     simp only [ae,am]
     refine wk ?_
     all_goals exact ac rfl h.out
   · rw [if_pos ck] at h
     have c1:(0:Int)<(kn:Int):=by omega
     have c2:(kn:Int) > 0:=c1
     replace h:=hid h
     clear hp p1 hk hkk hkn
     refine aa aw (by simp [ae]) ?_
     simp only [ae,am]
     refine wk ?_
     exact ac rfl h.out
 rw [if_neg k2] at h
 by_cases k3:k=3
 · subst k3
   rw [if_pos rfl] at h
   replace h:=hid h
   clear hp p1 hk hkk hkn
   refine aa aw (by simp [ae]) ?_
   simp only [ae,am]
   refine wk ?_
   exact ac rfl h.out
 rw [if_neg k3] at h
 have k4:k=4:=by omega
 subst k4
 clear hkk hk k1 k2 k3 kk4 hkn
 unfold FD at h
 obtain ⟨⟨ts,te⟩,htp⟩:∃ q,prS tn=q:=⟨_,rfl⟩
 have kk1:Hid (Ctr Tryz.prog 52 [dnA tn] (.tup [.str ts,.int .i64 te])):=@hid _ (by intro L K q;exact lG htm.1 htm.2 (by rw [htp];exact q))
 have pt:OkD tn↔te=0:=by unfold OkD;rw [htp]
 by_cases c1:sh dn suf=true
 · rw [if_pos c1] at h
   rw [c1] at kk2
   replace h:=hid h
   clear hp p1 htp pt
   refine aa aw (by simp [ae]) ?_
   simp only [ae,am]
   refine wk ?_
   exact ac rfl h.out
 rw [if_neg c1] at h
 rw [Bool.eq_false_iff.2 c1] at kk2
 by_cases c2:te=0
 rotate_left
 · rw [if_pos (.inl fun c=>c2 (pt.1 c))] at h
   replace h:=hid h
   clear hp p1 htp pt
   refine aa aw (by simp [ae]) ?_
   simp only [ae,am]
   refine wk ?_
   exact ac rfl h.out
 have hto:=pt.2 c2
 have ht32:=hto.len
 subst c2
 by_cases c3:tn=[]
 · rw [if_pos (.inr c3)] at h
   replace h:=hid h
   subst c3
   clear hp p1 htp pt
   refine aa aw (by simp [ae]) ?_
   simp only [ae,am]
   refine wk ?_
   exact ac rfl h.out
 rw [if_neg (fun c=>c.elim (fun c=>c hto) c3)] at h
 have hl3:¬ (tn.length:Int)=0:=fun c=>c3 (List.length_eq_zero_iff.1 (by omega))
 have hl4:(1:Int)≤(tn.length:Int):=by omega
 have htt:tn.tail.length=tn.length - 1:=List.length_tail
 have hdr:List.take (tn.length - 1) (List.drop 1 (tn.map ao))=tn.tail.map ao:=by rw [List.drop_one,List.map_tail,List.take_of_length_le (by simp)]
 have hot:=hto.tail
 have kk4:Hid (∀ {c:Option Nat} {L:List Blk} {K:AV→List Blk→Prop},K (.bool (bD tn.tail dn)) L→ab Tryz.prog 22 [.sl (List.take (tn.length - 1) (List.drop 1 (tn.map ao))) (tn.length - 1) c,dnA dn] L K):=@hid _ (by
   intro c L K q
   rw [hdr,← htt]
   exact oF hot.m hdm q)
 have kk5:Hid (∀ {c:Option Nat} {X:List Blk} {K:AV→List Blk→Prop},K (.int .i64 (atI l tn.tail)) (L++X)→ab Tryz.prog 49 [.ptr rt 0,.sl (List.take (tn.length - 1) (List.drop 1 (tn.map ao))) (tn.length - 1) c] (L++X) K):=@hid _ (by
   intro c X K q
   rw [hdr,← htt]
   exact ES ht.ok hot.m (by omega) (ar X) q)
 by_cases c4:bD tn.tail dn=true
 · rw [if_pos c4] at h
   rw [c4] at kk4
   replace h:=hid h
   clear hp p1 htp pt hdr kk5
   refine aa aw (by simp [ae]) ?_
   simp only [ae,am]
   refine wk ?_
   exact ac rfl h.out
 rw [if_neg c4] at h
 rw [Bool.eq_false_iff.2 c4] at kk4
 rcases oo l tn.tail with ⟨r1,r2⟩|⟨n2,hlt2,r1,r2⟩
 · rw [if_pos r2] at h
   rw [r1] at kk5
   replace h:=hid h
   clear hp p1 htp pt hdr
   refine aa aw (by simp [ae]) ?_
   simp only [ae,am]
   refine wk ?_
   exact ac rfl h.out
 rw [if_neg (by rw [r2];simp)] at h
 rw [r1] at kk5
 have g3:¬ (n2:Int)<0:=by omega
 have kk6:Hid (∀ {X:List Blk} {K:AV→List Blk→Prop},K (.int .i64 (atI l tn)) (L++X)→ab Tryz.prog 49 [.ptr rt 0,dnA tn] (L++X) K):=@hid _ (by
   intro X K q
   exact ES ht.ok hto.m (by omega) (ar X) q)
 have hoth:Hy l x.id tn=(decide (0≤atI l tn) && decide (atI l tn≠(n:Int))):=by
   unfold Hy
   rcases oo l tn with ⟨s1,s2⟩|⟨n3,hlt3,s1,s2⟩
   · rw [s1,s2];rfl
   · rw [s1,s2]
     simp only
     rw [decide_eq_true (by omega:(0:Int)≤(n3:Int)),Bool.true_and]
     congr 1
     apply propext
     have hm3:l.getD n3 default∈l:=by simp [hlt3]
     constructor
     · intro e e2
       have:n3=n:=by omega
       subst this
       exact e (by rw [hxe])
     · intro e e2
       have:=ht.byI hm3 hxl e2
       rw [← hxe] at this
       have hnd:=ht.nodup
       rw [List.getD_eq_getElem?_getD,List.getD_eq_getElem?_getD,List.getElem?_eq_getElem hlt3,List.getElem?_eq_getElem hlt] at this
       simp only [Option.getD_some] at this
       rcases Nat.lt_trichotomy n3 n with q|q|q
       · exact List.pairwise_iff_getElem.1 hnd n3 n hlt3 hlt q this
       · exact e (by omega)
       · exact List.pairwise_iff_getElem.1 hnd n n3 hlt hlt3 q this.symm
 rw [hoth] at h
 obtain ⟨w,hw⟩:∃ w,atI l tn=w:=⟨_,rfl⟩
 rw [hw] at kk6 h
 by_cases c6:0≤w∧w≠(n:Int)
 · obtain ⟨c6,c7⟩:=c6
   have c6':w ≥ 0:=c6
   rw [if_pos (by rw [decide_eq_true c6,decide_eq_true c7];rfl)] at h
   replace h:=hid h
   clear hp p1 htp pt hdr hoth hw
   refine aa aw (by simp [ae]) ?_
   simp only [ae,am]
   refine wk ?_
   exact ac rfl h.out
 rw [if_neg (by
   intro c
   rw [Bool.and_eq_true,decide_eq_true_eq,decide_eq_true_eq] at c
   exact c6 c)] at h
 have c9:(¬ 0≤w∧¬ w ≥ 0)∨(0≤w∧w ≥ 0∧w=(n:Int)):=by omega
 have kU:Hid (∀ y∈l,∀ {L:List Blk} {K:AV→List Blk→Prop},K (.bool (bD y.nm dn)) L→ab Tryz.prog 22 [dnA y.nm,dnA dn] L K):=@hid _ (by intro y hy L K q;exact oF (ht.ok y hy).m hdm q)
 replace h:=hid h
 replace ht:=hid ht
 clear hp p1 htp pt hdr hoth hw c6
 rcases c9 with ⟨c9,c9'⟩|⟨c9,c9',rfl⟩
 all_goals
   refine aa aw (by simp [ae]) ?_
   simp only [ae,am]
   refine wk ?_
   clear kk1 kk2 kk3 kk4 kk5 kk6
   refine ax (fun m T' L'=>∃ j:Nat,m=l.length - j∧j≤l.length∧Hid (∀ i,i<j→(bD (l.getD i default).nm dn && !decide (OkD (eO (l.getD i default).nm dn.length tn)))=false)∧Hid (∃ Z,L'=L++(.cells [.int .i64 4,dnA dn,dnA tn,v]::Z))∧T'=[(139,.int .i64 (j:Int)),(138,.int .i64 l.length),(137,.sl (aM l) l.length c),(3,.ptr L.length 0),(0,.ptr rt 0)]) (CutS (b:=by simp)) ⟨0,rfl,Nat.zero_le _,hid (fun i hi=>absurd hi (Nat.not_lt_zero _)),hid ⟨[],rfl⟩,rfl⟩ ?_
   rintro _ _ L1 ⟨j,rfl,hj,hI,hZ,rfl⟩
   have hb1:∀ X:List Blk,(L1++X)[L.length]?=some (.cells [.int .i64 4,dnA dn,dnA tn,v]):=fun X=>by
     obtain ⟨Z,rfl⟩:=hZ.out
     rw [List.append_assoc,List.getElem?_append_right (Nat.le_refl _)];simp
   have hgt:∀ (b:Blk) (X:List Blk),(L1++b::X)[L1.length]?=some b:=fun b X=>by rw [List.getElem?_append_right (Nat.le_refl _)];simp
   have hL1l:L.length+1≤L1.length:=by obtain ⟨Z,rfl⟩:=hZ.out;simp
   have hZ1:∀ X,Hid (∃ Z,L1++X=L++(.cells [.int .i64 4,dnA dn,dnA tn,v]::Z)):=fun X=>by
     obtain ⟨Z,rfl⟩:=hZ.out
     exact hid ⟨Z++X,by simp⟩
   by_cases hjl:j<l.length
   · have j1:(j:Int)<(l.length:Int):=by omega
     have j2:IntKind.i64.wrap ((j:Int)+1)=(j:Int)+1:=ah (by omega) (by omega)
     have e6:=pO hjl
     have e7:j * 3+3≤(aM l).length:=by rw [hel];omega
     have hym:l.getD j default∈l:=by simp [hjl]
     obtain ⟨y,hy⟩:∃ y,l.getD j default=y:=⟨_,rfl⟩
     rw [hy] at e6 hym
     unfold zp atR at e6
     have hoy:=ht.out.ok y hym
     have kk1:=@hid _ (fun {L:List Blk} {K:AV→List Blk→Prop}=>kU.out y hym (L:=L) (K:=K))
     obtain ⟨u,hu⟩:∃ u,bD y.nm dn=u:=⟨_,rfl⟩
     rw [hu] at kk1
     have hnext:(u && !decide (OkD (eO y.nm dn.length tn)))=false→Hid (∀ i,i<j+1→(bD (l.getD i default).nm dn && !decide (OkD (eO (l.getD i default).nm dn.length tn)))=false):=fun hb=>hid fun i hi=>by
       by_cases e:i=j
       · subst e;rw [hy,hu];exact hb
       · exact hI.out i (by omega)
     obtain ⟨yi,hyi⟩:∃ i,y.id=i:=⟨_,rfl⟩
     obtain ⟨ya,hya⟩:∃ i,bg y.av=i:=⟨_,rfl⟩
     obtain ⟨yk,hyk⟩:∃ i,y.av.length=i:=⟨_,rfl⟩
     rw [hyi,hya,hyk] at e6
     cases u with
     | false =>
       have hn2:=hnext rfl
       clear hnext hI hZ hyi hya hyk hoy hy kU
       refine wk ?_
       exact ay _ _ _ (by omega) (CutL (b:=by simp;omega)) ⟨j+1,rfl,hjl,hn2,hZ1 _,rfl⟩
     | true =>
       have hyle:dn.length≤y.nm.length:=by
         have:=(bw.1 hu).2.2.length_le
         rwa [aQ,aQ] at this
       have hy32:=hoy.len
       obtain ⟨Z,hZe⟩:∃ Z,eO y.nm dn.length tn=Z:=⟨_,rfl⟩
       have hZm:dnM Z:=by
         rw [← hZe]
         unfold eO
         refine ⟨by simp;omega,fun r hr=>?_⟩
         rcases List.mem_append.1 hr with hr|hr
         · exact hoy.m.2 r (List.mem_of_mem_take hr)
         · exact htm.2 r hr
       have kk2:Hid (Ctr Tryz.prog 62 [dnA y.nm,.int .i64 (dn.length:Int),dnA tn] (dnA Z)):=@hid _ (by
         intro L K q
         exact FC (by omega) (by omega) hyle (by rw [hZe];exact q))
       obtain ⟨⟨zs,ze⟩,hzp⟩:∃ u,prS Z=u:=⟨_,rfl⟩
       have kk3:Hid (Ctr Tryz.prog 52 [dnA Z] (.tup [.str zs,.int .i64 ze])):=@hid _ (by intro L K u;exact lG hZm.1 hZm.2 (by rw [hzp];exact u))
       have pz:OkD Z↔ze=0:=by unfold OkD;rw [hzp]
       by_cases hz0:ze=0
       · have hn2:=hnext (by rw [hZe,decide_eq_true (pz.2 hz0)];rfl)
         subst hz0
         clear hnext hI hZ hyi hya hyk hoy hy kU hZe hZm hzp pz hyle
         refine wk ?_
         exact ay _ _ _ (by omega) (CutL (b:=by simp;omega)) ⟨j+1,rfl,hjl,hn2,hZ1 _,rfl⟩
       · have hbad:H6 l dn tn=true:=List.any_eq_true.2 ⟨y,hym,by rw [hu,hZe,decide_eq_false (fun c=>hz0 (pz.1 c))];rfl⟩
         have h':=h.out
         rw [if_pos hbad] at h'
         replace h':=hid h'
         have hZ2:=hZ1
         clear hnext hI hyi hya hyk hoy hy kU hZe hZm hzp pz hyle hbad hZ1
         refine wk ?_
         obtain ⟨Z2,rfl⟩:=hZ.out
         rw [List.append_assoc]
         exact ac rfl h'.out
   · have hje:j=l.length:=by omega
     subst hje
     have j1:¬ (l.length:Int)<(l.length:Int):=by omega
     have hgood:¬ H6 l dn tn=true:=fun cc=>by
       obtain ⟨y,hy,hb⟩:=List.any_eq_true.1 cc
       obtain ⟨i,hi,rfl⟩:=List.mem_iff_getElem.1 hy
       have:=hI.out i hi
       rw [show l.getD i default=l[i] by simp [hi]] at this
       rw [this] at hb;cases hb
     have h':=h.out
     rw [if_neg hgood] at h'
     replace h':=hid h'
     clear hI hgood kU
     refine wk ?_
     obtain ⟨Z2,rfl⟩:=hZ.out
     exact ac rfl h'.out
end Go.Proofs.YtdhjplmjpjfjnaaGreat.Av
