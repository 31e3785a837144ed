/- Joined texts of the walk, made small by a program. -/
import Derived.Test.YtdhjplmjpjfjnaaGreatHTrZi
set_option linter.unusedSimpArgs false
set_option linter.unusedVariables false
namespace Go.Proofs.YtdhjplmjpjfjnaaGreat.Av
open Go
set_option maxHeartbeats 8000000
set_option maxRecDepth 100000
section
variable {L:List Blk} {iv mn mi it:Nat} {nb bn:Int→Nat} {ck ci:Nat} {rs:List TKy} {suf:List Rdn} {last:Int} {l:List az}
theorem Ou (ht:TOk suf last l) (hln:l.length≤1000000) (hit:L[it]?=some (.cells [.ptr iv 0])) (hc:aR L iv mn mi nb bn ck ci rs suf last l)
   {k:Int} {dn tn:List Rdn} {v:AV} (hdb:dnB dn) (htb:dnB tn) (ha:b8 suf l k dn tn≠0) {K:AV→List Blk→Prop} (h:K (.int .i64 (b8 suf l k dn tn)) L) :
   ab Tryz.prog 26 [.ptr it 0,.agg [.int .i64 k,dnA dn,dnA tn,v]] L K:=by
 have hitl:it<L.length:=(List.getElem?_eq_some_iff.1 hit).1
 have at':∀ X:List Blk,(L++X)[it]?=some (.cells [.ptr iv 0]):=fun X=>by rw [List.getElem?_append_left hitl];exact hit
 obtain ⟨z,hz⟩:∃ z,b8 suf l k dn tn=z:=⟨_,rfl⟩
 have kk1:Hid (∀ {X:List Blk} {K:AV→List Blk→Prop},K (.int .i64 z) (L++X)→ab Tryz.prog 27 [.ptr iv 0,.agg [.int .i64 k,dnA dn,dnA tn,v]] (L++X) K):=@hid _ (by
   intro X K q
   exact xO ht (by omega) (hc.app X) hdb htb (by rw [hz];exact q))
 rw [hz] at ha h
 replace h:=hid h
 clear hz hc ht hit
 refine aa dN (by simp [bB]) ?_
 simp only [bB,am]
 refine wk ?_
 exact ac rfl h.out
theorem MS (ht:TOk suf last l) (n23:mn≠mi) (hln:l.length≤1000000) (hl0:0≤last) (hl1:last≤1000000) (hit:L[it]?=some (.cells [.ptr iv 0])) (hc:aR L iv mn mi nb bn ck ci rs suf last l)
   {k:Int} {dn tn:List Rdn} {v:List Atr} (hdb:dnB dn) (htb:dnB tn) (hvl:v.length≤1100000) (hvz:∀ a∈v,a.2.length≤1100000) {K:AV→List Blk→Prop}
   (h:∀ L' nb' bn' ck' ci' rs',aR L' iv mn mi nb' bn' ck' ci' rs' suf (doT suf l last k dn tn v).2 (doT suf l last k dn tn v).1→L'[it]?=some (.cells [.ptr iv 0])→aH (OfT iv mn mi nb l) L L'→K (.int .i64 (b8 suf l k dn tn)) L') :
   ab Tryz.prog 26 [.ptr it 0,.agg [.int .i64 k,dnA dn,dnA tn,atR v]] L K:=by
 by_cases ha:b8 suf l k dn tn=0
 rotate_left
 · unfold doT at h
   rw [if_pos ha] at h
   exact Ou ht hln hit hc hdb htb ha (h L _ _ _ _ _ hc hit (aH.refl L))
 unfold doT at h
 rw [if_neg (fun e=>e ha)] at h
 rw [ha] at h
 by_cases k1:k=1
 · subst k1
   rw [if_pos rfl] at h
   exact OB ht n23 hln hl0 hl1 hit hc hdb htb hvl hvz ha h
 rw [if_neg k1] at h
 have ha':=ha
 unfold b8 at ha'
 by_cases hk:k<1∨4<k
 · rw [if_pos hk] at ha';exact absurd ha' (by decide)
 rw [if_neg hk,if_neg k1] at ha'
 cases hx:atE l dn with
 | none=>rw [hx] at ha';simp at ha'
 | some x =>
   rw [hx] at ha'
   simp only at ha'
   have hf:aN l dn=x.id:=by unfold aN;rw [hx]
   rw [hf] at h
   by_cases k2:k=2
   · subst k2
     rw [if_pos rfl] at h
     exact Oz ht n23 hln hit hc hdb htb hx ha fun L' ci' rs'=>h L' _ _ _ _ _
   rw [if_neg k2] at h ha'
   by_cases k3:k=3
   · subst k3
     rw [if_pos rfl] at h
     exact OA ht hln hit hc hdb htb hvl hvz hx fun L'=>h L' _ _ _ _ _
   rw [if_neg k3] at h ha'
   have k4:k=4:=by omega
   subst k4
   exact Ot ht n23 hln hit hc hdb htb hvl hvz hx ha' fun L' ci' rs'=>h L' _ _ _ _ _
end
end Go.Proofs.YtdhjplmjpjfjnaaGreat.Av
