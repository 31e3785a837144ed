/- Joined texts of the walk, made small by a program. -/
import Derived.Test.YtdhjplmjpjfjnaaGreatHY7
import Derived.Test.YtdhjplmjpjfjnaaGreatHP5
import Derived.Test.YtdhjplmjpjfjnaaGreatHTrZj
set_option linter.unusedSimpArgs false
set_option linter.unusedVariables false
namespace Go.Proofs.YtdhjplmjpjfjnaaGreat.Av
open Go
variable {L:List Blk} {K:AV→List Blk→Prop}
set_option maxHeartbeats 8000000
set_option maxRecDepth 100000
theorem F8 {P:Program} {f:FuncId} {b:Bool} (h:ab P f [] [] fun v _=>v=.bool b) (hk:K (.bool b) L):ab P f [] L K:=fun w0 S0 E w vs hR hv=>by
 have hR0:Rel w ⟨fun _=>False,0⟩ { mem:=E.mem,loc:=fun _=>none,tok:=fun _=>none } [] w:=by
   refine ⟨hR.mem,?_,fun _ _=>rfl,?_,?_,fun _ _=>rfl,?_,?_,?_,fun _ _ _=>rfl,Nat.le_refl _,rfl,rfl,rfl,hR.glob,hR.gsz⟩
   all_goals intros;simp_all
 have key:∀ {E':Env} {L':List Blk} {w':World},Rel w ⟨fun _=>False,0⟩ E' L' w'→EG w w':=fun k=>⟨fun b hb=>k.frame b hb (fun x=>x),k.size,k.os,k.tape,k.output⟩
 have hv0:VRL { mem:=E.mem,loc:=fun _=>none,tok:=fun _=>none } [] vs:=by
   simpa only [VRL] using hv
 rcases h w _ _ w vs hR0 hv0 with ⟨h1,h2⟩|⟨E',v,av,L',w',h1,h2,h3,h4,h5⟩
 · refine .inl ⟨h1,h2.mono fun e w' ⟨E',v,av,L',a,b,c,d,r⟩=>⟨E,v,_,L,a,.refl E,hk,?_,hR.grown (key r)⟩⟩
   subst c
   simpa only [VR] using d
 · refine .inr ⟨E,v,_,L,w',h1,.refl E,hk,?_,hR.grown (key h5)⟩
   subst h3
   simpa only [VR] using h4
theorem aR.start (L:List Blk) (d:List Rdn):aR (L++[.map [] 0,.map [] 0,.cells [dnA d,.lmap L.length,.lmap (L.length+1),.int .i64 0],.cells [.ptr (L.length+2) 0]]) (L.length+2) L.length (L.length+1) (fun _=>0) (fun _=>0) 0 0 [] d 0 []:=by
 refine ⟨?_,?_,?_,?_,?_,?_,?_,?_⟩
 · rw [List.getElem?_append_right (by omega)];simp
 · rw [List.getElem?_append_right (by omega)];simp
 · rw [List.getElem?_append_right (by omega)];simp
 · simp
 · simp
 · simp
 · simp
 · simp
def awN (j:Nat):List Ava:=([aw1,aw2,aw3,aw4]:List (List Ava)).getD j []
theorem O2:∀ (j:Nat),j<4→b8 (aE aw1) (awL j) 1 (aE (awN j)) []=0∧doT (aE aw1) (awL j) j 1 (aE (awN j)) [] ([]:List Atr)=(awL (j+1),((j+1:Nat):Int))∧TOk (aE aw1) j (awL j)∧dnM (aE (awN j))
 | 0,_=>⟨M9,M5,M0,vl aw1 (by decide)⟩
 | 1,_=>⟨M8,M4,MZ,vl aw2 (by decide)⟩
 | 2,_=>⟨M7,M3,MY,vl aw3 (by decide)⟩
 | 3,_=>⟨M6,M1,MX,vl aw4 (by decide)⟩
 | n+4,h=>absurd h (by omega)
theorem F1 (j:Nat):(awL j).length≤1000:=by unfold awL;rw [List.length_take];simp;omega
theorem J5 {suf:List Rdn} {last:Int} {l:List az} {L:List Blk} {it iv mn mi:Nat} {nb bn:Int→Nat} {ck ci:Nat} {rs:List TKy} (ht:TOk suf last l) (n23:mn≠mi) (hln:l.length≤1000000) (hl0:0≤last) (hl1:last≤1000000) (hit:L[it]?=some (.cells [.ptr iv 0])) (hc:aR L iv mn mi nb bn ck ci rs suf last l)
   {k:Int} {dn tn:List Rdn} (hdb:dnB dn) (htb:dnB tn) {a b:AV} (ha:a.frz=dnA tn) (hb:b.frz=atR []) {K:AV→List Blk→Prop}
   (h:∀ L' nb' bn' ck' ci' rs',aR L' iv mn mi nb' bn' ck' ci' rs' suf (doT suf l last k dn tn ([]:List Atr)).2 (doT suf l last k dn tn ([]:List Atr)).1→L'[it]?=some (.cells [.ptr iv 0])→L.length≤L'.length→K (.int .i64 (b8 suf l k dn tn)) L') :
   ab Tryz.prog 26 [.ptr it 0,.agg [.int .i64 k,dnA dn,a,b]] L K:=by
 refine pV ?_
 have:=MS ht n23 hln hl0 hl1 hit hc (k:=k) hdb htb (v:=[]) (by simp) (by simp) (K:=K) (fun L' nb' bn' ck' ci' rs' q1 q2 q3=>h L' nb' bn' ck' ci' rs' q1 q2 q3.len)
 have e:AV.frzL [AV.ptr it 0,.agg [.int .i64 k,dnA dn,a,b]]=[AV.ptr it 0,.agg [.int .i64 k,dnA dn,dnA tn,atR []]]:=by
   simp only [AV.frzL,AV.frz,ha,hb]
   simp only [dnA,AV.frz,bc]
 rw [e];exact this
theorem Ld:ab Tryz.prog 10 [] [] fun v _=>v=.bool true:=by
 have kk1:Hid (∀ {c:Option Nat} {L:List Blk} {K:AV→List Blk→Prop},K (dnA (aE aw1)) L→ab Tryz.prog 38 [.sl [.str [100,99],.str [122]] 2 c] L K):=@hid _ (by intro c L K q;exact xl (ps:=aw1) (by decide) rfl rfl q)
 have kk2:Hid (∀ {c:Option Nat} {L:List Blk} {K:AV→List Blk→Prop},K (dnA (aE aw2)) L→ab Tryz.prog 38 [.sl [.str [111,117],.str [98],.str [100,99],.str [122]] 4 c] L K):=@hid _ (by intro c L K q;exact xl (ps:=aw2) (by decide) rfl rfl q)
 have kk3:Hid (∀ {c:Option Nat} {L:List Blk} {K:AV→List Blk→Prop},K (dnA (aE aw3)) L→ab Tryz.prog 38 [.sl [.str [99,110],.str [97],.str [111,117],.str [98],.str [100,99],.str [122]] 6 c] L K):=@hid _ (by intro c L K q;exact xl (ps:=aw3) (by decide) rfl rfl q)
 have kk4:Hid (∀ {c:Option Nat} {L:List Blk} {K:AV→List Blk→Prop},K (dnA (aE aw4)) L→ab Tryz.prog 38 [.sl [.str [111,117],.str [97],.str [100,99],.str [122]] 4 c] L K):=@hid _ (by intro c L K q;exact xl (ps:=aw4) (by decide) rfl rfl q)
 have kk5:Hid (∀ {c:Option Nat} {L:List Blk} {K:AV→List Blk→Prop},K (dnA (aE aw5)) L→ab Tryz.prog 38 [.sl [.str [79,85],.str [66],.str [100,99],.str [122]] 4 c] L K):=@hid _ (by intro c L K q;exact xl (ps:=aw5) (by decide) rfl rfl q)
 have kk6:Hid (∀ {c:Option Nat} {L:List Blk} {K:AV→List Blk→Prop},K (dnA (aE aw6)) L→ab Tryz.prog 38 [.sl [.str [111,117],.str [120],.str [111,117],.str [97],.str [100,99],.str [122]] 6 c] L K):=@hid _ (by intro c L K q;exact xl (ps:=aw6) (by decide) rfl rfl q)
 have kk7:Hid (∀ {c:Option Nat} {L:List Blk} {K:AV→List Blk→Prop},K (dnA (aE aw7)) L→ab Tryz.prog 38 [.sl [.str [99,110],.str [97],.str [111,117],.str [120],.str [111,117],.str [97],.str [100,99],.str [122]] 8 c] L K):=@hid _ (by intro c L K q;exact xl (ps:=aw7) (by decide) rfl rfl q)
 have m1:=(vl aw1 (by decide)).b
 have m5:=(vl aw5 (by decide)).b
 have m6:=(vl aw6 (by decide)).b
 have m7:=(vl aw7 (by decide)).b
 have kN:Hid (∀ {K:AV→List Blk→Prop},(∀ L',Hid (∃ nb bn ck ci rs,aR L' 2 0 1 nb bn ck ci rs (aE aw1) ((0:Nat):Int) (awL 0))→L'[3]?=some (.cells [.ptr 2 0])→K (.tup [.ptr 3 0,.int .i64 0]) L')→ab Tryz.prog 24 [dnA (aE aw1)] [] K):=@hid _ (by
   intro K q
   refine CV m1 (fun e=>absurd Le e) (fun e=>absurd e (by decide)) fun _ _=>?_
   exact q _ (hid ⟨_,_,_,_,_,aR.start [] _⟩) rfl)
 have kD:Hid (∀ {j:Nat} {L':List Blk} {c1 c2:Option Nat} {d:AV} {K:AV→List Blk→Prop},j<4→d=dnA (aE (awN j))→Hid (∃ nb bn ck ci rs,aR L' 2 0 1 nb bn ck ci rs (aE aw1) (j:Int) (awL j))→L'[3]?=some (.cells [.ptr 2 0])→(∀ L2,Hid (∃ nb bn ck ci rs,aR L2 2 0 1 nb bn ck ci rs (aE aw1) ((j+1:Nat):Int) (awL (j+1)))→L2[3]?=some (.cells [.ptr 2 0])→L'.length≤L2.length→K (.int .i64 0) L2)→ab Tryz.prog 26 [.ptr 3 0,.agg [.int .i64 1,d,.sl [] 0 c1,.sl [] 0 c2]] L' K):=@hid _ (by
   rintro j L' c1 c2 _ K hj rfl ⟨nb,bn,ck,ci,rs,hc⟩ hit q
   obtain ⟨q1,q2,q3,q4⟩:=O2 j hj
   refine J5 q3 (by decide) (by have:=F1 j;omega) (by omega) (by omega) hit hc q4.b ⟨by simp,by simp⟩ (tn:=[]) rfl rfl fun L2 nb' bn' ck' ci' rs' r1 r2 r3=>?_
   rw [q2] at r1
   rw [q1]
   exact q _ (hid ⟨_,_,_,_,_,r1⟩) r2 r3)
 refine aa zU (by simp [oB]) ?_
 simp only [oB,am]
 refine wk ?_
 refine kN.out fun L1 hc1 hi1=>?_
 have kS:Hid (∀ {L':List Blk} {K:AV→List Blk→Prop},Hid (∃ nb bn ck ci rs,aR L' 2 0 1 nb bn ck ci rs (aE aw1) ((4:Nat):Int) (awL 4))→K (.sl [.int .i64 1,.int .i64 4,.int .i64 2,.int .i64 3] 4 none) L'→ab Tryz.prog 12 [.ptr 2 0,.int .i64 1,.int .i64 2] L' K):=@hid _ (by
   rintro L' K ⟨nb,bn,ck,ci,rs,hc⟩ q
   exact C9 IK (by have:=F1 4;omega) hc (by rw [OZ];exact q))
 have kM:Hid (∀ {L':List Blk} {c2:Option Nat} {K:AV→List Blk→Prop},Hid (∃ nb bn ck ci rs,aR L' 2 0 1 nb bn ck ci rs (aE aw1) ((4:Nat):Int) (awL 4))→L'[3]?=some (.cells [.ptr 2 0])→(∀ L2,Hid (∃ nb bn ck ci rs,aR L2 2 0 1 nb bn ck ci rs (aE aw1) (doT (aE aw1) (awL 4) 4 4 (aE aw5) (aE aw6) ([]:List Atr)).2 (doT (aE aw1) (awL 4) 4 4 (aE aw5) (aE aw6) ([]:List Atr)).1)→L2[3]?=some (.cells [.ptr 2 0])→L'.length≤L2.length→K (.int .i64 0) L2)→ab Tryz.prog 26 [.ptr 3 0,.agg [.int .i64 4,dnA (aE aw5),dnA (aE aw6),.sl [] 0 c2]] L' K):=@hid _ (by
   rintro L' c2 K ⟨nb,bn,ck,ci,rs,hc⟩ hit q
   refine J5 IK (by decide) (by have:=F1 4;omega) (by omega) (by omega) hit hc m5 m6 (by simp only [dnA,AV.frz,bc]) rfl fun L2 nb' bn' ck' ci' rs' r1 r2 r3=>?_
   rw [OJ]
   exact q _ (hid ⟨_,_,_,_,_,r1⟩) r2 r3)
 have kF:Hid (∀ {L':List Blk} {K:AV→List Blk→Prop},Hid (∃ nb bn ck ci rs,aR L' 2 0 1 nb bn ck ci rs (aE aw1) (doT (aE aw1) (awL 4) 4 4 (aE aw5) (aE aw6) ([]:List Atr)).2 (doT (aE aw1) (awL 4) 4 4 (aE aw5) (aE aw6) ([]:List Atr)).1)→K (.int .i64 3) L'→ab Tryz.prog 15 [.ptr 2 0,dnA (aE aw7)] L' K):=@hid _ (by
   rintro L' K ⟨nb,bn,ck,ci,rs,hc⟩ q
   exact ov m7 (IK.done (by decide) 4 _ _ _).1 hc (by rw [O1];exact q))
 clear m1 m5 m6 m7
 refine wk ?_
 refine ax (fun m T' L'=>∃ j:Nat,m=4 - j∧j≤4∧Hid (∃ nb bn ck ci rs,aR L' 2 0 1 nb bn ck ci rs (aE aw1) (j:Int) (awL j))∧L'[3]?=some (.cells [.ptr 2 0])∧Hid (L1.length≤L'.length)∧T'=[(29,.int .i64 (j:Int)),(28,.int .i64 4),(27,.sl [dnA (aE aw1),dnA (aE aw2),dnA (aE aw3),dnA (aE aw4)] 4 (some 4)),(1,.ptr 3 0)]) (CutS (b:=Nat.le_refl _)) ⟨0,rfl,Nat.zero_le _,hc1,hi1,hid (Nat.le_refl _),rfl⟩ ?_
 rintro _ _ L' ⟨j,rfl,hj,hc,hi,hle,rfl⟩
 by_cases hjl:j<4
 · have j1:(j:Int)<4:=by omega
   have j2:IntKind.i64.wrap ((j:Int)+1)=(j:Int)+1:=ah (by omega) (by omega)
   have e1:([dnA (aE aw1),dnA (aE aw2),dnA (aE aw3),dnA (aE aw4)]:List AV).getD j .undef=dnA (aE (awN j)):=by
     match j,hjl with
     | 0,_=>rfl
     | 1,_=>rfl
     | 2,_=>rfl
     | 3,_=>rfl
   obtain ⟨NS,hNS⟩:∃ NS,([dnA (aE aw1),dnA (aE aw2),dnA (aE aw3),dnA (aE aw4)]:List AV)=NS:=⟨_,rfl⟩
   have e2:NS.length=4:=by rw [← hNS];rfl
   rw [hNS] at e1
   rw [hNS]
   clear hNS
   refine wk ?_
   refine kD.out hjl rfl hc hi fun L2 hc2 hi2 hl2=>?_
   refine wk ?_
   exact ay _ _ _ (by omega) (CutL (b:=Nat.le_trans hle.out hl2)) ⟨j+1,rfl,hjl,hc2,hi2,hid (Nat.le_trans hle.out hl2),rfl⟩
 · have hje:j=4:=by omega
   subst hje
   have j1:¬ ((4:Nat):Int)<4:=by omega
   refine wk ?_
   refine kS.out hc ?_
   refine wk ?_
   refine kM.out hc hi fun L2 hc2 hi2 hl2=>?_
   clear kk1 kk2 kk3 kk4
   have kk1:Hid (∀ {K:AV→List Blk→Prop},K (.int .i64 3) L2→ab Tryz.prog 15 [.ptr 2 0,dnA (aE aw7)] L2 K):=@hid _ (fun {K} q=>kF.out hc2 q)
   clear kS kM kF kD kN
   refine wk ?_
   exact ak rfl
theorem ME (h:K (.bool true) L):ab Tryz.prog 10 [] L K:=F8 Ld h
end Go.Proofs.YtdhjplmjpjfjnaaGreat.Av
