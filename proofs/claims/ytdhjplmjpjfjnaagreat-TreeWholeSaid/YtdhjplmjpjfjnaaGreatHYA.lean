/- Joined texts of the walk, made small by a program. -/
import Derived.Test.YtdhjplmjpjfjnaaGreatHTrSe
import Derived.Test.YtdhjplmjpjfjnaaGreatHY3
import Derived.Test.YtdhjplmjpjfjnaaGreatHY5
import Derived.Test.YtdhjplmjpjfjnaaGreatHP5
set_option linter.unusedSimpArgs false
set_option linter.unusedVariables false
namespace Go.Proofs.YtdhjplmjpjfjnaaGreat.Av
open Go
set_option maxHeartbeats 8000000
set_option maxRecDepth 100000
theorem NA {suf:List Rdn} {last:Int} {l:List az} (ht:TOk suf last l) (d:List Rdn):dnB (HB l d):=by
 rw [← ID ht]
 rcases (zf d l []).2.2 with e|⟨x,hx,_,e⟩
 · rw [e];exact ⟨by simp,by simp⟩
 · rw [e];exact (ht.ok x hx).m.b
theorem Mp {suf d:List Rdn} (hs:Ex suf∧∀ r∈suf,∀ a∈r,(a.1.length:Int)≤140737488351232) (hd:Ex d∧∀ r∈d,∀ a∈r,(a.1.length:Int)≤140737488351232) {us:List Upd} (hn:(us.length:Int)≤9223372036854775807) (hu:∀ u∈us,Lg u) {cp:Option Nat} {K:AV→List Blk→Prop}
   (h:K (.bool true) []):ab Tryz.prog 4 [dnA suf,.sl (us.flatMap sq) us.length cp,dnA d] [] K:=by
 replace h:=hid h
 obtain ⟨US,hUS⟩:∃ US,us.flatMap sq=US:=⟨_,rfl⟩
 have kM:Hid (∀ {K:AV→List Blk→Prop},(∀ L',Hid (dx [] L')→K (.tup [.nilptr,.nilptr]) L')→(∀ L' it iv mn mi rt nb bn ck ci rs c last l,Hid (Ll L' it iv mn mi rt nb bn ck ci rs c suf last l)→Hid (dx [] L')→K (.tup [.ptr it 0,.ptr rt 0]) L')→ab Tryz.prog 9 [dnA suf,.sl US us.length cp] [] K):=@hid _ (by
   intro K q0 q1
   rw [← hUS]
   exact NB hs hn hu (fun L' k=>q0 L' (hid k)) (fun L' it iv mn mi rt nb bn ck ci rs c last l k1 k2=>q1 L' it iv mn mi rt nb bn ck ci rs c last l (hid k1) (hid k2)))
 have kk1:Hid (Ctr Tryz.prog 10 [] (.bool true)):=@hid _ (by intro L K q;exact ME q)
 obtain ⟨sm,hsm⟩:∃ b,smU ⟨0,d,[],[]⟩=b:=⟨_,rfl⟩
 have kk2:Hid (∀ {L:List Blk} {c1 c2:Option Nat} {K:AV→List Blk→Prop},K (.bool sm) L→ab Tryz.prog 14 [.agg [.int .i64 0,dnA d,.sl [] 0 c1,.sl [] 0 c2]] L K):=@hid _ (by intro L c1 c2 K q;exact Gh hd.1 (by rw [hsm];exact q))
 have hdm:sm=true→dnM d:=fun e=>by
   rw [e] at hsm
   simp only [smU,Bool.and_eq_true] at hsm
   exact Ir hsm.1 hd.2
 rw [hUS]
 clear hs hd hn hu hUS hsm
 replace hdm:=hid hdm
 refine aa vt (by simp [gJ]) ?_
 simp only [gJ,am]
 refine wk ?_
 refine kM.out (fun L' hk=>?_) fun L' it iv mn mi rt nb bn ck ci rs c last l hm hk=>?_
 · clear kM
   refine wk ?_
   exact ac (L2:=L') rfl h.out
 have hi:=hm.out.it
 cases sm with
 | false =>
   clear kM
   refine wk ?_
   exact ac (L2:=L') rfl h.out
 | true =>
 have hd:=hdm.out rfl
 clear kM
 refine wk ?_
 clear kk1 kk2
 obtain ⟨z,hz⟩:∃ z,aN l d=z:=⟨_,rfl⟩
 obtain ⟨M,hM⟩:∃ M,HB l d=M:=⟨_,rfl⟩
 have hMb:dnB M:=by rw [← hM];exact NA hm.out.ok d
 have hlen:=hm.out.len
 have kk1:Hid (∀ {K:AV→List Blk→Prop},K (.int .i64 z) L'→ab Tryz.prog 15 [.ptr iv 0,dnA d] L' K):=@hid _ (by
   intro K q;exact ov hd.b hm.out.ok hm.out.code (by rw [hz];exact q))
 have kk2:Hid (∀ {K:AV→List Blk→Prop},K (.int .i64 z) L'→ab Tryz.prog 17 [.ptr rt 0,dnA d] L' K):=@hid _ (by
   intro K q;exact LZ hm.out.ok.ok hd (by omega) hm.out.rt (by rw [hz];exact q))
 have kk4:Hid (∀ {K:AV→List Blk→Prop},K (dnA M) L'→ab Tryz.prog 19 [.ptr iv 0,dnA d] L' K):=@hid _ (by
   intro K q;exact Nm hd.b hm.out.ok hm.out.code (by rw [hM];exact q))
 have kk5:Hid (∀ {K:AV→List Blk→Prop},K (dnA M) L'→ab Tryz.prog 20 [.ptr rt 0,dnA d] L' K):=@hid _ (by
   intro K q;exact Nq hm.out.ok hd (by omega) hm.out.rt (by rw [hM];exact q))
 have kk6:Hid (Ctr Tryz.prog 18 [dnA M,dnA M] (.bool true)):=@hid _ (by
   intro L K q;exact LT hMb.1 hMb.2 q)
 have hzc:(0<z∧∃ x,mE l z=some x)∨(z=0∧mE l 0=none):=by
   unfold aN at hz
   rcases ha:atE l d with _|x
   · rw [ha] at hz
     refine .inr ⟨hz.symm,?_⟩
     rcases he:mE l 0 with _|y
     · rfl
     · obtain ⟨e1,e2⟩:=JD he
       have:=(hm.out.ok.ids y e1).1
       omega
   · rw [ha] at hz
     have hz:x.id=z:=hz
     obtain ⟨e1,e2,e3⟩:=bE ha
     have:=(hm.out.ok.ids x e2).1
     exact .inl ⟨by omega,x,by rw [← hz];exact hm.out.ok.ent e2⟩
 rcases hzc with ⟨g1,x,g2⟩|⟨rfl,g2⟩
 · have kk3:Hid (∀ {K:AV→List Blk→Prop},K (.tup [dnA x.nm,atR x.av]) L'→ab Tryz.prog 16 [.ptr iv 0,.int .i64 z] L' K):=@hid _ (by
     intro K q
     refine Gc hm.out.ok hm.out.av hm.out.code (fun e=>?_) (fun y e=>?_)
     · rw [g2] at e;cases e
     · rw [g2] at e;cases e;exact q)
   have g3:z > 0:=g1
   obtain ⟨N,hN⟩:∃ N,dnA x.nm=N:=⟨_,rfl⟩
   obtain ⟨A,hA⟩:∃ N,atR x.av=N:=⟨_,rfl⟩
   rw [hN,hA] at kk3
   clear hm hz hM hMb g2 hd hdm hN hA
   refine kk1.out ?_
   refine wk ?_
   exact ac (L2:=L') rfl h.out
 · have kk3:Hid (∀ {K:AV→List Blk→Prop},K (.tup [.sl [] 0 none,.sl [] 0 none]) L'→ab Tryz.prog 16 [.ptr iv 0,.int .i64 0] L' K):=@hid _ (by
     intro K q
     refine Gc hm.out.ok hm.out.av hm.out.code (fun e=>q) (fun y e=>?_)
     rw [g2] at e;cases e)
   have g3:IntKind.i64.wrap 0=0:=by decide
   clear hm hz hM hMb g2 hd hdm
   refine kk1.out ?_
   refine wk ?_
   exact ac (L2:=L') rfl h.out
open Go Go.ChangeShapes
theorem L8:RdZ Tryz.prog 67 lF (fun a=>a.1.length≤reachBytes) :=
 (xg Tryz.underlying67 (N:=2) (by kernel_rfl) (fK (sz:=1) rfl (by kernel_rfl) (C0 Tryz.underlying9) (fK (sz:=1) rfl (by kernel_rfl) (C0 Tryz.underlying9) (Dk rfl)))).map
   fun y hy=>⟨(y.1,y.2.1),hy.1,rfl⟩
theorem L7:RdZ Tryz.prog 65 (fun r:Rdn=>[ao r]) (fun r=>r.length≤maxLen∧∀ a∈r,a.1.length≤reachBytes) :=
 (oG Tryz.underlying65 L8 (by kernel_rfl)).map fun l hl=>⟨l,hl,rfl⟩
theorem Fv:RdZ Tryz.prog 23 (fun d:List Rdn=>[dnA d]) (fun d=>Ex d∧∀ r∈d,∀ a∈r,(a.1.length:Int)≤140737488351232) :=
 (oG Tryz.underlying23 L7 (by kernel_rfl)).map fun l hl=>⟨l,⟨⟨by have:=hl.1;simp only [maxLen] at this;omega,fun r hr=>by have:=(hl.2 r hr).1;simp only [maxLen] at this;omega⟩,fun r hr a ha=>by have:=(hl.2 r hr).2 a ha;simp only [reachBytes] at this;omega⟩,by
   have e:∀ l:List Rdn,l.map ao=l.flatMap fun r=>[ao r]:=fun l=>by
     induction l with
     | nil=>rfl
     | cons a l ih=>rw [List.map_cons,List.flatMap_cons,ih];rfl
   simp only [dnA,e l]⟩
theorem Kt:RdZ Tryz.prog 68 (fun l:List (List UInt8)=>[Od l]) (fun l=>l.length≤maxLen) :=
 (oG Tryz.underlying68 (C0 Tryz.underlying9) (by kernel_rfl)).map fun l hl=>⟨l,hl.1,by
   have e:∀ l:List (List UInt8),l.map AV.str=l.flatMap fun r=>[AV.str r]:=fun l=>by
     induction l with
     | nil=>rfl
     | cons a l ih=>rw [List.map_cons,List.flatMap_cons,ih];rfl
   simp only [Od,e l]⟩
theorem L9:RdZ Tryz.prog 70 atA (fun a=>a.1.length≤reachBytes∧a.2.length≤maxLen) :=
 (xg Tryz.underlying70 (N:=2) (by kernel_rfl) (fK (sz:=1) rfl (by kernel_rfl) (C0 Tryz.underlying9) (fK (sz:=1) rfl (by kernel_rfl) Kt (Dk rfl)))).map
   fun y hy=>⟨(y.1,y.2.1),⟨hy.1,hy.2.1⟩,rfl⟩
theorem Ks:RdZ Tryz.prog 46 sq Lg :=
 (xg Tryz.underlying46 (N:=4) (by kernel_rfl) (fK (sz:=1) rfl (by kernel_rfl) (Rd.z (Nu Tryz.underlying3)) (fK (sz:=1) rfl (by kernel_rfl) Fv (fK (sz:=1) rfl (by kernel_rfl) Fv (fK (sz:=1) rfl (by kernel_rfl) (oG Tryz.underlying34 L9 (by kernel_rfl)) (Dk rfl)))))).map
   fun y hy=>⟨⟨y.1,y.2.1,y.2.2.1,y.2.2.2.1⟩,⟨hy.2.1,hy.2.2.1,by have:=hy.2.2.2.1.1;simp only [maxLen] at this ⊢;omega,fun a ha=>by
     obtain ⟨h1,h2⟩:=hy.2.2.2.1.2 a ha
     simp only [maxLen] at h2
     simp only [reachBytes] at h1
     omega⟩,rfl⟩
theorem Jc:RdZ Tryz.prog 24 (fun l:List Upd=>[.sl (l.flatMap sq) l.length none]) (fun l=>(l.length:Int)≤9223372036854775807∧∀ u∈l,Lg u) :=
 (oG Tryz.underlying24 Ks (by kernel_rfl)).map fun l hl=>⟨l,⟨by have:=hl.1;simp only [maxLen] at this;omega,hl.2⟩,rfl⟩
end Go.Proofs.YtdhjplmjpjfjnaaGreat.Av
