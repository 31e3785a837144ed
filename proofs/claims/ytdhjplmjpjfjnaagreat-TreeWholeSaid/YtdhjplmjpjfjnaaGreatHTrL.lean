/- Joined texts of the walk, made small by a program. -/
import Derived.Test.YtdhjplmjpjfjnaaGreatHY2
set_option linter.unusedSimpArgs false
set_option linter.unusedVariables false
namespace Go.Proofs.YtdhjplmjpjfjnaaGreat.Av
open Go
variable {L:List Blk} {K:AV→List Blk→Prop}
set_option maxHeartbeats 8000000
set_option maxRecDepth 100000
theorem Il {d b:List Rdn} {cap cap':Option Nat} (hd:dnB d) (hb:dnB b) {v:Nat} (h:K (.bool (sh d b)) L) :
   ab Tryz.prog 58 [.ptr v 0,.sl (d.map ao) d.length cap,.sl (b.map ao) b.length cap'] L K:=by
 have kk1:Hid (Ctr Tryz.prog 86 [.sl (d.map ao) d.length cap,.sl (b.map ao) b.length cap'] (.bool (bD d b))):=@hid _ (by intro L K q;exact Io hd hb q)
 unfold sh at h
 obtain ⟨u,hu⟩:∃ u,bD d b=u:=⟨_,rfl⟩
 rw [hu] at h kk1
 by_cases c:d.length=b.length
 · have g:(d.length:Int)=(b.length:Int):=by omega
   rw [decide_eq_true c,Bool.true_and] at h
   replace h:=hid h
   clear hu hd hb c
   refine aa lB (by simp [eu]) ?_
   simp only [eu,am]
   refine wk ?_
   exact ak h.out
 · have g:¬ (d.length:Int)=(b.length:Int):=by omega
   rw [decide_eq_false c,Bool.false_and] at h
   replace h:=hid h
   clear hu hd hb c
   refine aa lB (by simp [eu]) ?_
   simp only [eu,am]
   refine wk ?_
   exact ak h.out
theorem I8 {d b:List Rdn} {cap cap':Option Nat} (hd:dnM d) (hb:dnM b) (h:K (.bool (sh d b)) L) :
   ab Tryz.prog 60 [.sl (d.map ao) d.length cap,.sl (b.map ao) b.length cap'] L K:=by
 have kk1:Hid (Ctr Tryz.prog 22 [.sl (d.map ao) d.length cap,.sl (b.map ao) b.length cap'] (.bool (bD d b))):=@hid _ (by intro L K q;exact oF hd hb q)
 unfold sh at h
 obtain ⟨u,hu⟩:∃ u,bD d b=u:=⟨_,rfl⟩
 rw [hu] at h kk1
 by_cases c:d.length=b.length
 · have g:(d.length:Int)=(b.length:Int):=by omega
   rw [decide_eq_true c,Bool.true_and] at h
   replace h:=hid h
   clear hu hd hb c
   refine aa se (by simp [gH]) ?_
   simp only [gH,am]
   refine wk ?_
   exact ak h.out
 · have g:¬ (d.length:Int)=(b.length:Int):=by omega
   rw [decide_eq_false c,Bool.false_and] at h
   replace h:=hid h
   clear hu hd hb c
   refine aa se (by simp [gH]) ?_
   simp only [gH,am]
   refine wk ?_
   exact ak h.out
theorem Hs {d:List Rdn} {cap:Option Nat} (hd:dnM d) {L:List Blk} {K:AV→List Blk→Prop}
   (h:¬ OkD d→K (.tup [.nilptr,.int .i64 (prS d).2]) L) (h2:d=[]→K (.tup [.nilptr,.int .i64 2]) L) (h3:OkD d→d≠[]→K (.tup [.ptr L.length 0,.int .i64 0]) (L++[.cells [dnA d,.sl [] 0 (some 0),.int .i64 0]])) :
   ab Tryz.prog 25 [.sl (d.map ao) d.length cap] L K:=by
 obtain ⟨⟨s,e⟩,hse⟩:∃ q,prS d=q:=⟨_,rfl⟩
 have kk1:Hid (Ctr Tryz.prog 52 [.sl (d.map ao) d.length cap] (.tup [.str s,.int .i64 e])):=@hid _ (by intro L K q;exact lG hd.1 hd.2 (by rw [hse];exact q))
 have kk2:Hid (Ctr Tryz.prog 51 [.sl (d.map ao) d.length cap] (dnA d)):=@hid _ (by intro L K q;exact Ge hd.b.1 hd.b.2 q)
 have p1:OkD d↔e=0:=by unfold OkD;rw [hse]
 rw [hse] at h
 by_cases he:e=0
 rotate_left
 · replace h:=hid (h fun c=>he (p1.1 c))
   clear hse p1 h2 h3 hd
   refine aa mI (by simp [fb]) ?_
   simp only [fb,am]
   refine wk ?_
   exact ak h.out
 subst he
 by_cases hl:d.length=0
 · have hnil:=List.length_eq_zero_iff.1 hl
   replace h:=hid (h2 hnil)
   subst hnil
   clear hse p1 h2 h3 hd hl
   refine aa mI (by simp [fb]) ?_
   simp only [fb,am]
   refine wk ?_
   exact ak h.out
 · have g:¬ (d.length:Int)=0:=by omega
   replace h:=hid (h3 (p1.2 rfl) fun c=>hl (by rw [c];rfl))
   clear hse p1 h2 h3 hd
   refine aa mI (by simp [fb]) ?_
   simp only [fb,am]
   refine wk ?_
   exact ak h.out
theorem CV {d:List Rdn} {cap:Option Nat} (hd:dnB d) {L:List Blk} {K:AV→List Blk→Prop}
   (h:¬ OkD d→K (.tup [.nilptr,.int .i64 (prS d).2]) L) (h2:d=[]→K (.tup [.nilptr,.int .i64 2]) L) (h3:OkD d→d≠[]→K (.tup [.ptr (L.length+3) 0,.int .i64 0]) (L++[.map [] 0,.map [] 0,.cells [dnA d,.lmap L.length,.lmap (L.length+1),.int .i64 0],.cells [.ptr (L.length+2) 0]])) :
   ab Tryz.prog 24 [.sl (d.map ao) d.length cap] L K:=by
 obtain ⟨⟨s,e⟩,hse⟩:∃ q,prS d=q:=⟨_,rfl⟩
 have kk1:Hid (Ctr Tryz.prog 50 [.sl (d.map ao) d.length cap] (.tup [.str s,.int .i64 e])):=@hid _ (by intro L K q;exact pW hd.1 hd.2 (by rw [hse];exact q))
 have kk2:Hid (∀ {c:Option Nat} {L:List Blk} {K:AV→List Blk→Prop},K (dnA d) L→ab Tryz.prog 47 [.sl (d.map ao) d.length cap,.sl [] 0 c] L K):=@hid _ (by intro c L K q;exact FK hd.1 hd.2 q)
 have p1:OkD d↔e=0:=by unfold OkD;rw [hse]
 rw [hse] at h
 by_cases he:e=0
 rotate_left
 · replace h:=hid (h fun c=>he (p1.1 c))
   clear hse p1 h2 h3 hd
   refine aa ox (by simp [fH]) ?_
   simp only [fH,am]
   refine wk ?_
   exact ak h.out
 subst he
 by_cases hl:d.length=0
 · have hnil:=List.length_eq_zero_iff.1 hl
   replace h:=hid (h2 hnil)
   subst hnil
   clear hse p1 h2 h3 hd hl
   refine aa ox (by simp [fH]) ?_
   simp only [fH,am]
   refine wk ?_
   exact ak h.out
 · have g:¬ (d.length:Int)=0:=by omega
   replace h:=hid (h3 (p1.2 rfl) fun c=>hl (by rw [c];rfl))
   clear hse p1 h2 h3 hd
   refine aa ox (by simp [fH]) ?_
   simp only [fH,am]
   refine wk ?_
   exact ak h.out
theorem FC {d b:List Rdn} {k:Nat} {cap cap':Option Nat} (hd:d.length≤1100000) (hb:b.length≤1100000) (hk:k≤d.length) (h:K (dnA (eO d k b)) L) :
   ab Tryz.prog 62 [.sl (d.map ao) d.length cap,.int .i64 (k:Int),.sl (b.map ao) b.length cap'] L K:=by
 obtain ⟨j,hj⟩:∃ j,d.length - k=j:=⟨_,rfl⟩
 have g1:IntKind.i64.wrap ((d.length:Int) - (k:Int))=(j:Int):=by rw [ah (by omega) (by omega)];omega
 have g2:(j:Int)≤(d.length:Int):=by omega
 have l1:(List.take j (d.map ao)).length=j:=by simp;omega
 have l2:AV.frzL (List.take j (d.map ao))=(d.take j).map ao:=by rw [← List.map_take,bc]
 have l3:AV.frzL (b.map ao)=b.map ao:=bc b
 have l4:(b.map ao).all AV.one=true:=by rw [List.all_eq_true];intro a ha;obtain ⟨r,_,rfl⟩:=List.mem_map.1 ha;rfl
 have e:dnA (eO d k b)=.sl ((d.take j).map ao++b.map ao) (j+b.length) none:=by
   unfold dnA eO
   rw [hj,List.map_append,List.length_append,List.length_take,Nat.min_eq_left (by omega)]
 rw [e] at h
 have lj:j≤1100000:=by omega
 replace h:=hid h
 clear e hj
 refine aa zR (by simp [oy]) ?_
 simp only [oy,am]
 refine wk ?_
 refine cz ?_
 simp only [AV.frz,← List.map_append,bc]
 have h':=h.out
 rw [← List.map_append] at h'
 exact ac (by simp only [AV.refs,fc]) h'
end Go.Proofs.YtdhjplmjpjfjnaaGreat.Av
