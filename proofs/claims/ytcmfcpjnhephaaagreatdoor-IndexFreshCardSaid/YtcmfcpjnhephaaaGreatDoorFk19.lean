/- Joined texts of the walk, made small by a program. -/
import Derived.Test.YtcmfcpjnhephaaaGreatDoorFk17
import Derived.Test.YtcmfcpjnhephaaaGreatDoorFk16
import Derived.Test.YtcmfcpjnhephaaaGreatDoorFk12
import Derived.Test.YtcmfcpjnhephaaaGreatDoorFk18
import Derived.Test.YtcmfcpjnhephaaaGreatDoorFk6
import Derived.Test.YtcmfcpjnhephaaaGreatDoorFk5
import Derived.Laws.Externs
set_option linter.unusedSimpArgs false
set_option linter.unusedVariables false
namespace Go.Proofs.YtcmfcpjnhephaaaGreatDoor.Av
open Go
set_option maxHeartbeats 8000000
set_option maxRecDepth 100000
section
variable {L:List Blk} {it im ie ip ii:Nat} {tm:TMp} {em:List (a8 Int (List Atr))} {ec:Nat} {pm:List (a8 (List UInt8) Nat)} {pc:Nat} {dm:List (a8 aZ Nat)} {dc:Nat} {Q:List UInt8->Int->Prop} {R:aZ->Int->Prop}
theorem IxH.noOwn (h:IxH L it im ie ip ii tm tm.length em ec pm pc dm dc Q R) {j:Nat} {c:List AV} (hj:L[j]?=some (.cells c)) (hc:c.length≠4):j ∉ it::im::ie::ip::ii::(pm.map (·.2.1)++dm.map (·.2.1)):=by
 intro hm;simp only [ZF,ZD] at hm;rcases hm with rfl|rfl|rfl|rfl|rfl|hi|hi
 ·rw [h.st] at hj;cases hj;exact hc rfl
 ·rw [h.ty] at hj;cases hj
 ·rw [h.en] at hj;cases hj
 ·rw [h.pr] at hj;cases hj
 ·rw [h.ids] at hj;cases hj
 ·obtain ⟨e,he,rfl⟩:=ZC.1 hi;obtain ⟨xs,ck,q,_⟩:=h.ps e.1 e.2.1 (qI h.pok.keys he);rw [q] at hj;cases hj
 ·obtain ⟨e,he,rfl⟩:=ZC.1 hi;obtain ⟨xs,ck,q,_⟩:=h.ds e.1 e.2.1 (qI h.dok.keys he);rw [q] at hj;cases hj
end
def JX (it im ie ip ii:Nat) (tm:TMp) (em:List (a8 Int (List Atr))) (ec:Nat) (pm:List (a8 (List UInt8) Nat)) (pc:Nat) (xb ib:Nat) (id:Int) (Q:List UInt8->Int->Prop) (R:List aZ->aZ->Int->Prop) (ks:List aZ) (B:Nat->Prop) (L:List Blk):Prop :=
 ∃ dm dc,IxH L it im ie ip ii tm tm.length em ec pm pc dm dc Q (R ks)/\L[xb]?=some (.cells [.ptr it 0])/\L[ib]?=some (.cells [.int .i64 id])/\∀ i,B i↔i=xb\/i=ib\/i∈it::im::ie::ip::ii::(pm.map (·.2.1)++dm.map (·.2.1))
section
variable {it im ie ip ii:Nat} {tm:TMp} {em:List (a8 Int (List Atr))} {ec:Nat} {pm:List (a8 (List UInt8) Nat)} {pc:Nat} {xb ib:Nat} {id:Int} {Q:List UInt8->Int->Prop} {R:List aZ->aZ->Int->Prop}
theorem JX.lt {ks:List aZ} {B:Nat->Prop} {L:List Blk} (h:JX it im ie ip ii tm em ec pm pc xb ib id Q R ks B L) (i:Nat) (hi:B i):i<L.length:=by
 obtain ⟨dm,dc,h1,h2,h3,h4⟩:=h;rcases (h4 i).1 hi with rfl|rfl|e
 ·exact (Zz.1 h2).1
 ·exact (Zz.1 h3).1
 ·exact h1.lt i e
theorem JX.keep {ks:List aZ} {B:Nat->Prop} {L L':List Blk} (h:JX it im ie ip ii tm em ec pm pc xb ib id Q R ks B L) (hb:bA (fun i=>¬ B i) L L'):JX it im ie ip ii tm em ec pm pc xb ib id Q R ks B L':=by
 have hlt:=h.lt;obtain ⟨dm,dc,h1,h2,h3,h4⟩:=h;have key:∀ i,B i->L'[i]?=L[i]?:=fun i hi=>hb.eq i (hlt i hi) fun e=>e hi
 exact ⟨dm,dc,h1.keep fun i hi=>key i ((h4 i).2 (.inr (.inr hi))),by rw [key xb ((h4 xb).2 (.inl rfl))];exact h2,by rw [key ib ((h4 ib).2 (.inr (.inl rfl)))];exact h3,h4⟩
theorem JX.dok {f:FuncId} (hg:∀ ks B L k (K:AV->List Blk->Prop),JX it im ie ip ii tm em ec pm pc xb ib id Q R ks B L->(∀ L' B',JX it im ie ip ii tm em ec pm pc xb ib id Q R (ks++[k]) B' L'->bA B L L'->(∀ i,B' i->B i\/L.length<=i)->K (.tup []) L')->Zx f [kV k,.ptr xb 0,.ptr ib 0] L K):DoK Tryz.prog f [.ptr xb 0,.ptr ib 0] it im ie ip ii tm (JX it im ie ip ii tm em ec pm pc xb ib id Q R):=by
 refine ⟨fun ks B L h=>?_,fun ks B L h=>?_,fun ks B L h=>h.lt,fun ks B L L' h hb=>h.keep hb,hg⟩
 ·obtain ⟨dm,dc,h1,_⟩:=h;exact h1.st
 ·obtain ⟨dm,dc,h1,_⟩:=h;exact h1.ty
theorem JX.of {ks:List aZ} {B:Nat->Prop} {L L':List Blk} {dm dm':List (a8 aZ Nat)} {dc':Nat} {k:aZ} {R':aZ->Int->Prop} (h4:∀ i,B i↔i=xb\/i=ib\/i∈it::im::ie::ip::ii::(pm.map (·.2.1)++dm.map (·.2.1)))
  (h1:IxH L' it im ie ip ii tm tm.length em ec pm pc dm' dc' Q R') (hR:∀ g x,R' g x↔R (ks++[k]) g x) (h2:L'[xb]?=some (.cells [.ptr it 0])) (h3:L'[ib]?=some (.cells [.int .i64 id])) (hdm:∀ b∈dm'.map (·.2.1),b∈dm.map (·.2.1)\/L.length<=b) :
  ∃ B',JX it im ie ip ii tm em ec pm pc xb ib id Q R (ks++[k]) B' L'/\∀ i,B' i->B i\/L.length<=i:=by
 refine ⟨_,⟨dm',dc',h1.iff (fun _ _ _=>Iff.rfl) hR,h2,h3,fun i=>Iff.rfl⟩,fun i hi=>?_⟩;rcases hi with e|e|e
 ·exact .inl ((h4 i).2 (.inl e))
 ·exact .inl ((h4 i).2 (.inr (.inl e)))
 ·simp only [ZF,ZD] at e;rcases e with e|e|e|e|e|e|e
  ·exact .inl ((h4 i).2 (.inr (.inr (by simp [e]))))
  ·exact .inl ((h4 i).2 (.inr (.inr (by simp [e]))))
  ·exact .inl ((h4 i).2 (.inr (.inr (by simp [e]))))
  ·exact .inl ((h4 i).2 (.inr (.inr (by simp [e]))))
  ·exact .inl ((h4 i).2 (.inr (.inr (by simp [e]))))
  ·exact .inl ((h4 i).2 (.inr (.inr (by simp only [ZF,ZD];exact .inr (.inr (.inr (.inr (.inr (.inl e)))))))))
  ·rcases hdm i e with e|e
   ·exact .inl ((h4 i).2 (.inr (.inr (by simp only [ZF,ZD];exact .inr (.inr (.inr (.inr (.inr (.inr e)))))))))
   ·exact .inr e
end
theorem da {κ υ:Type} [DecidableEq κ] {ka:κ->AV} {va:υ->AV} (hka:MF ka) {xs:List (a8 κ υ)} {ck:Nat} (h:cF xs ck) (k:κ) (u:υ) :
  (∃ j w,cH xs k=some w/\dI (ka k) (aY ka va xs) 0=some (some (j,va w))/\Oj (ka k) (va u) (aY ka va xs) j=aY ka va (mf xs k u ck)/\(k∈xs.map (·.1)))\/(cH xs k=none/\dI (ka k) (aY ka va xs) 0=some none/\aY ka va xs++[(ka k,va u,ck)]=aY ka va (mf xs k u ck)/\k ∉ xs.map (·.1)):=by
 by_cases hk:k∈xs.map (·.1)
 ·obtain ⟨j,w,h1,h2,h3,_⟩:=mA (va:=va) hka 0 h.keys hk;refine .inl ⟨j,w,h1,by rw [h2,aaN],?_,hk⟩;rw [h3];unfold mf;rw [if_pos hk]
 ·refine .inr ⟨qR.2 hk,Jh hka 0 hk,?_,hk⟩;unfold mf;rw [if_neg hk];simp [aY,rA]
theorem WU {it im ie ip ii:Nat} {tm:TMp} {em:List (a8 Int (List Atr))} {ec:Nat} {pm:List (a8 (List UInt8) Nat)} {pc:Nat} {xb ib:Nat} {id:Int} {Q:List UInt8->Int->Prop} {R0:aZ->Int->Prop} {ks:List aZ} {B:Nat->Prop} {L:List Blk} {k:aZ} {K:Zy} (hj:JX it im ie ip ii tm em ec pm pc xb ib id Q (MM R0 id) ks B L)
  (h:∀ L' B',JX it im ie ip ii tm em ec pm pc xb ib id Q (MM R0 id) (ks++[k]) B' L'->bA B L L'->(∀ i,B' i->B i\/L.length<=i)->K (.tup []) L') :
  Zx 54 [kV k,.ptr xb 0,.ptr ib 0] L K:=by
 obtain ⟨dm,dc,h1,h2,h3,h4⟩:=hj;have hii:ii<L.length:=h1.lt ii (by simp);have hxl:=(Zz.1 h2).1;have hbl:=(Zz.1 h3).1;have xn:=h1.noOwn h2 (by simp);have bn:=h1.noOwn h3 (by simp);have aX:∀ (X:List Blk) {i:Nat} {b:Blk},L[i]?=some b->(L++X)[i]?=some b:=fun X {i b} e=>Zu e
 obtain ⟨f,g,t⟩:=k;have hkf:bC (.st [.str,.bool,.str]) (.agg [.str f,.bool g,.str t])=true:=rfl;have hki:bC .int (.int .i64 id)=true:=rfl;rcases da (va:=AV.lmap) qN h1.dok (f,g,t) (L.length+1) with ⟨j,b,q1,q2,q3,q4⟩|⟨q1,q2,q3,q4⟩
 ·
  have hb:=nJ q1;have hbo:b∈it::im::ie::ip::ii::(pm.map (·.2.1)++dm.map (·.2.1)):=by simp only [ZF,ZD];exact .inr (.inr (.inr (.inr (.inr (.inr hb)))))
  have hbL:=h1.lt b hbo;obtain ⟨xs,ck,s1,s2,s3,s4⟩:=h1.ds _ _ q1;have hL1:=h1.more [.cells [.str f,.bool g,.str t]];have hs1:(L++[Blk.cells [.str f,.bool g,.str t]])[b]?=some (gv xs ck):=aX _ s1;have hS:=mI.add hs1 (hL1.ds _ _ q1) id s2 s3 s4;have hJ:=hL1.dmSet q1 hS;have hst:∀ (X:List Blk) c,(L++X).set b c=L.set b c++X:=fun X c=>aaC _ _ hbL
  rw [hst] at hJ;obtain ⟨B',j1,j2⟩:=JX.of (L:=L) (k:=(f,g,t)) h4 hJ (fun y x=>Nm y x) (by
   rw [ZM (by simpa using hxl),ZU (fun e=>xn (by rw [<- e];exact hbo))];exact h2) (by
   rw [ZM (by simpa using hbl),ZU (fun e=>bn (by rw [<- e];exact hbo))];exact h3) (fun c hc=>.inl hc)
  have hfin:=h _ B' j1 ((bA.set L (.inl ((h4 b).2 (.inr (.inr hbo)))) _).trans (bA.app (B:=fun _=>False) _ _) fun i _ e=>e.elim) j2;replace hfin:=hid hfin;have a1:∀ X,(L++X)[xb]?=some (.cells [.ptr it 0]):=fun X=>aX X h2
  have a2:∀ X,(L++X)[ib]?=some (.cells [.int .i64 id]):=fun X=>aX X h3
  have a3:∀ X,(L++X)[it]?=some (.cells [.lmap im,.lmap ie,.lmap ip,.lmap ii]):=fun X=>aX X h1.st
  have a4:∀ X,(L++X)[ii]?=some (.map (aY kV AV.lmap dm) dc):=fun X=>aX X h1.ids
  have a5:∀ X,(L++X)[b]?=some (.map (aY (AV.int .i64) AV.bool xs) ck):=fun X=>aX X s1
  simp only [kV] at q2;clear h aX hJ hS hL1 h1 j1 j2 h4 xn bn s3 s4 q3 hs1 q1;rcases da (va:=AV.bool) nD s2 id true with ⟨j',w,p1,p2,p3,p4⟩|⟨p1,p2,p3,p4⟩
  ·have hck:ckS xs id ck=ck:=if_pos p4;rw [hck] at hfin;clear hck p1 p4 s2;refine Zw dY ?_;exact dG rfl trivial (aa hfin.out)
  ·have hck:ckS xs id ck=ck+1:=if_neg p4;rw [hck] at hfin;clear hck p1 p4 s2;refine Zw dY ?_;exact dG rfl trivial (aa hfin.out)
 ·
  have hL1:=h1.more [.cells [.str f,.bool g,.str t]];have hN:=hL1.dmNew q1;have hlen:(L++[Blk.cells [.str f,.bool g,.str t]]).length=L.length+1:=by simp
  have hst:∀ (X:List Blk) c,(L++X).set ii c=L.set ii c++X:=fun X c=>aaC _ _ hii
  rw [hlen,ZO,hst] at hN;have hg:cH (dm++[((f,g,t),L.length+1,dc)]) (f,g,t)=some (L.length+1):=by rw [CG (qR.1 q1),if_pos rfl]
  have hs1:(L.set ii (Oy (dm++[((f,g,t),L.length+1,dc)]) (dc+1))++([Blk.cells [.str f,.bool g,.str t]]++[gv [] 0]))[L.length+1]?=some (gv [] 0):=by
   rw [Z5 (by simp)];simp
  have hS:=mI.add hs1 (hN.ds _ _ hg) id cF.nil (fun e he=>by cases he) (by
   obtain ⟨xs,ck,r1,r2,r3,r4⟩:=hN.ds _ _ hg;rw [hs1] at r1;cases xs with
   | nil=>exact r4
   | cons x xs=>simp [gv,aY] at r1)
  have hJ:=hN.dmSet hg hS;have he:(L.set ii (Oy (dm++[((f,g,t),L.length+1,dc)]) (dc+1))++([Blk.cells [.str f,.bool g,.str t]]++[gv [] 0])).set (L.length+1) (gv (mf [] id true 0) (ckS [] id 0))=L.set ii (Oy (dm++[((f,g,t),L.length+1,dc)]) (dc+1))++[Blk.cells [.str f,.bool g,.str t],.map [(.int .i64 id,.bool true,0)] 1]:=by
   rw [aaz _ _ (by simp)];simp [mf,ckS,aY,rA]
  rw [he] at hJ;have hnx:ii≠xb:=fun e=>xn (by rw [<- e];simp)
  have hnb:ii≠ib:=fun e=>bn (by rw [<- e];simp)
  have hnt:ii≠it:=fun e=>by have:=h1.ids;rw [e,h1.st] at this;cases this
  have gl:∀ (X:List Blk) c {i:Nat} {b:Blk},ii≠i->L[i]?=some b->(L.set ii c++X)[i]?=some b:=fun X c {i b} n e=>by
   rw [ZM (by simpa using (Zz.1 e).1),ZU n];exact e
  obtain ⟨B',j1,j2⟩:=JX.of (L:=L) (k:=(f,g,t)) h4 hJ (fun y x=>Nm y x) (gl _ _ hnx h2) (gl _ _ hnb h3) (fun c hc=>by
   rw [Z7,ZD] at hc;rcases hc with hc|hc
   ·exact .inl hc
   ·simp only [ZK,abr,ZS] at hc;exact .inr (by omega))
  have hfin:=h _ B' j1 ((bA.set L (.inl ((h4 ii).2 (.inr (.inr (by simp))))) _).trans (bA.app (B:=fun _=>False) _ _) fun i _ e=>e.elim) j2;replace hfin:=hid hfin;have a1:∀ X,(L++X)[xb]?=some (.cells [.ptr it 0]):=fun X=>aX X h2
  have a3:∀ X,(L++X)[it]?=some (.cells [.lmap im,.lmap ie,.lmap ip,.lmap ii]):=fun X=>aX X h1.st
  have a4:∀ X,(L++X)[ii]?=some (.map (aY kV AV.lmap dm) dc):=fun X=>aX X h1.ids
  have b1:∀ X c,(L.set ii c++X)[xb]?=some (.cells [.ptr it 0]):=fun X c=>gl X c hnx h2
  have b2:∀ X c,(L.set ii c++X)[ib]?=some (.cells [.int .i64 id]):=fun X c=>gl X c hnb h3
  have b3:∀ X c,(L.set ii c++X)[it]?=some (.cells [.lmap im,.lmap ie,.lmap ip,.lmap ii]):=fun X c=>gl X c hnt h1.st
  have b4:∀ X c,(L.set ii c++X)[ii]?=some c:=fun X c=>by rw [ZM (by simpa using hii),aaq hii]
  have b5:∀ a c d (X:List Blk),(L.set ii c++a::d::X)[L.length+1]?=some d:=fun a c d X=>by rw [Z5 (by simp)];simp
  have b6:∀ a c d e (X:List Blk),(L.set ii c++a::d::X).set (L.length+1) e=L.set ii c++a::e::X:=fun a c d e X=>by rw [aaz _ _ (by simp)];simp
  have b7:∀ a c (X:List Blk),(L.set ii c++a::X)[L.length]?=some a:=fun a c X=>by rw [Z5 (by simp)];simp
  obtain ⟨j,w,r1,r2,_⟩:=mA (va:=AV.lmap) qN (xs:=dm++[((f,g,t),L.length+1,dc)]) (k:=(f,g,t)) 0 (hN.dok.keys) (by simp);rw [hg] at r1;simp only [ZB] at r1;subst r1;have q3':aY kV AV.lmap dm++[(.agg [.str f,.bool g,.str t],.lmap (L.length+1),dc)]=aY kV AV.lmap (dm++[((f,g,t),L.length+1,dc)]):=by simp [aY,rA,kV]
  rw [aaN] at r2;simp only [kV] at q2 r2;clear h aX hJ hS hL1 j1 j2 h4 xn bn q3 q4 hs1 hg gl he hnx hnb hnt hN hlen h1 q1;refine Zw dY ?_;exact dG rfl trivial (aa hfin.out)
theorem mu {κ υ:Type} [DecidableEq κ] {ka:κ->AV} {va:υ->AV} (hka:MF ka) {xs:List (a8 κ υ)} {ck:Nat} (h:cF xs ck) (k:κ) :
  (∃ j w,cH xs k=some w/\dI (ka k) (aY ka va xs) 0=some (some (j,va w))/\(aY ka va xs).eraseIdx j=aY ka va (fj xs k))\/(dI (ka k) (aY ka va xs) 0=some none/\fj xs k=xs):=by
 by_cases hk:k∈xs.map (·.1)
 ·obtain ⟨j,w,h1,h2,_,h3⟩:=mA (va:=va) hka 0 h.keys hk;exact .inl ⟨j,w,h1,by rw [h2,aaN],h3⟩
 ·refine .inr ⟨Jh hka 0 hk,?_⟩;unfold fj;refine ab0.2 fun e he=>?_
  have:e.1≠k:=fun q=>hk (ZC.2 ⟨e,he,q⟩)
  simpa using this
theorem VK {it im ie ip ii:Nat} {tm:TMp} {em:List (a8 Int (List Atr))} {ec:Nat} {pm:List (a8 (List UInt8) Nat)} {pc:Nat} {xb ib:Nat} {id:Int} {Q:List UInt8->Int->Prop} {R0:aZ->Int->Prop} {ks:List aZ} {B:Nat->Prop} {L:List Blk} {k:aZ} {K:Zy} (hj:JX it im ie ip ii tm em ec pm pc xb ib id Q (Jq R0 id) ks B L)
  (h:∀ L' B',JX it im ie ip ii tm em ec pm pc xb ib id Q (Jq R0 id) (ks++[k]) B' L'->bA B L L'->(∀ i,B' i->B i\/L.length<=i)->K (.tup []) L') :
  Zx 85 [kV k,.ptr xb 0,.ptr ib 0] L K:=by
 obtain ⟨dm,dc,h1,h2,h3,h4⟩:=hj;have hii:ii<L.length:=h1.lt ii (by simp);have hxl:=(Zz.1 h2).1;have hbl:=(Zz.1 h3).1;have xn:=h1.noOwn h2 (by simp);have bn:=h1.noOwn h3 (by simp);have aX:∀ (X:List Blk) {i:Nat} {b:Blk},L[i]?=some b->(L++X)[i]?=some b:=fun X {i b} e=>Zu e
 obtain ⟨f,g,t⟩:=k;have hkf:bC (.st [.str,.bool,.str]) (.agg [.str f,.bool g,.str t])=true:=rfl;have hki:bC .int (.int .i64 id)=true:=rfl;have a1:∀ X,(L++X)[xb]?=some (.cells [.ptr it 0]):=fun X=>aX X h2
 have a2:∀ X,(L++X)[ib]?=some (.cells [.int .i64 id]):=fun X=>aX X h3
 have a3:∀ X,(L++X)[it]?=some (.cells [.lmap im,.lmap ie,.lmap ip,.lmap ii]):=fun X=>aX X h1.st
 have a4:∀ X,(L++X)[ii]?=some (.map (aY kV AV.lmap dm) dc):=fun X=>aX X h1.ids
 have hL1:=h1.more [.cells [.str f,.bool g,.str t]];rcases mu (va:=AV.lmap) qN h1.dok (f,g,t) with ⟨j,b,q1,q2,q3⟩|⟨q2,q3⟩
 rotate_left
 ·
  have q1:cH dm (f,g,t)=none:=by
   have:=CF (xs:=dm) (k:=(f,g,t)) (j:=(f,g,t));rw [q3,if_pos rfl] at this;exact this
  have hset:∀ X,(L++X).set ii (.map (aY kV AV.lmap dm) dc)=L++X:=fun X=>by
   apply aaZ;intro i;by_cases e:ii=i
   ·subst e;rw [aaq (by simp;omega),a4]
   ·rw [ZU e]
  obtain ⟨B',j1,j2⟩:=JX.of (L:=L) (k:=(f,g,t)) h4 hL1 (fun y x=>by
   refine Iff.trans ?_ (Jp (R:=R0) (id:=id) (ks:=ks) (j:=(f,g,t)) y x);by_cases e:y=(f,g,t)
   ·subst e;rw [if_pos rfl];have:=h1.dn _ q1 x;simp [this]
   ·rw [if_neg e]) (a1 _) (a2 _) (fun c hc=>.inl hc)
  have hfin:=h _ B' j1 (bA.app _ _) j2;replace hfin:=hid hfin;simp only [kV] at q2;clear h aX hL1 h1 j1 j2 h4 xn bn q3 q1;refine Zw cw ?_;exact dG rfl trivial (aa hfin.out)
 ·have hb:=nJ q1;have hbo:b∈it::im::ie::ip::ii::(pm.map (·.2.1)++dm.map (·.2.1)):=by simp only [ZF,ZD];exact .inr (.inr (.inr (.inr (.inr (.inr hb)))))
  have hbL:=h1.lt b hbo;obtain ⟨xs,ck,s1,s2,s3,s4⟩:=h1.ds _ _ q1;have hs1:(L++[Blk.cells [.str f,.bool g,.str t]])[b]?=some (gv xs ck):=aX _ s1;have hS:=mI.del hs1 id s2 s3 s4;have hJ:=hL1.dmSet q1 hS;have hst:∀ (X:List Blk) c,(L++X).set b c=L.set b c++X:=fun X c=>aaC _ _ hbL
  rw [hst] at hJ;have hbx:b≠xb:=fun e=>xn (by rw [<- e];exact hbo)
  have hbb:b≠ib:=fun e=>bn (by rw [<- e];exact hbo)
  have hbt:b≠it:=fun e=>by rw [e,h1.st] at s1;cases s1
  have hbi:b≠ii:=(h1.ne.2.2.2.1 b hb).2.2.2.2;have gl:∀ (X:List Blk) c {i:Nat} {d:Blk},b≠i->L[i]?=some d->(L.set b c++X)[i]?=some d:=fun X c {i d} n e=>by
   rw [ZM (by simpa using (Zz.1 e).1),ZU n];exact e
  have a5:∀ X,(L++X)[b]?=some (.map (aY (AV.int .i64) AV.bool xs) ck):=fun X=>aX X s1
  have b1:∀ X c,(L.set b c++X)[xb]?=some (.cells [.ptr it 0]):=fun X c=>gl X c hbx h2
  have b2:∀ X c,(L.set b c++X)[ib]?=some (.cells [.int .i64 id]):=fun X c=>gl X c hbb h3
  have b3:∀ X c,(L.set b c++X)[it]?=some (.cells [.lmap im,.lmap ie,.lmap ip,.lmap ii]):=fun X c=>gl X c hbt h1.st
  have b4:∀ X c,(L.set b c++X)[ii]?=some (.map (aY kV AV.lmap dm) dc):=fun X c=>gl X c hbi h1.ids
  have b5:∀ X c,(L.set b c++X)[b]?=some c:=fun X c=>by rw [ZM (by simpa using hbL),aaq hbL]
  have b7:∀ a c (X:List Blk),(L.set b c++a::X)[L.length]?=some a:=fun a c X=>by rw [Z5 (by simp)];simp
  have hB1:bA B L (L.set b (gv (fj xs id) ck)++[Blk.cells [.str f,.bool g,.str t]]):=(bA.set L (.inl ((h4 b).2 (.inr (.inr hbo)))) _).trans (bA.app (B:=fun _=>False) _ _) fun i _ e=>e.elim
  simp only [kV] at q2;by_cases hz:fj xs id=[]
  ·have hno:∀ x,¬ (if ((f,g,t):aZ)=(f,g,t) then Jq R0 id ks (f,g,t) x/\x≠id else Jq R0 id ks (f,g,t) x):=fun x=>by
    rw [if_pos rfl,<- s4 x,<- NO,hz];simp
   have hD:=hJ.dmDel hno;have hst2:∀ (X:List Blk) c d,(L.set b c++X).set ii d=(L.set b c).set ii d++X:=fun X c d=>aaC _ _ (by simpa using hii)
   rw [hst2] at hD;have hnx:ii≠xb:=fun e=>xn (by rw [<- e];simp)
   have hnb:ii≠ib:=fun e=>bn (by rw [<- e];simp)
   obtain ⟨B',j1,j2⟩:=JX.of (L:=L) (k:=(f,g,t)) h4 hD (fun y x=>Jp y x) (by
    rw [ZM (by simpa using hxl),ZU hnx,ZU hbx];exact h2) (by
    rw [ZM (by simpa using hbl),ZU hnb,ZU hbb];exact h3) (fun c hc=>.inl (by
    obtain ⟨e,he,rfl⟩:=ZC.1 hc;exact ZC.2 ⟨e,(aak.1 he).1,rfl⟩))
   have hfin:=h _ B' j1 (by
    rw [<- hst2];exact hB1.trans (bA.set (B:=fun i=>i=ii) _ (.inl rfl) _) fun i _ e=>by rw [e];exact (h4 ii).2 (.inr (.inr (by simp)))) j2
   rw [hz] at hfin;replace hfin:=hid hfin;have hz0:(aY (AV.int .i64) AV.bool (fj xs id)).length=0:=by rw [hz];rfl
   have hzn:aY (AV.int .i64) AV.bool (fj xs id)=[]:=by rw [hz];rfl
   clear h aX hJ hS hL1 h1 j1 j2 h4 xn bn s3 s4 hs1 q1 hD hno hB1 hb hbo gl;rcases mu (va:=AV.bool) nD s2 id with ⟨j',w,p1,p2,p3⟩|⟨p2,p3⟩
   ·clear p1 s2 hz hz0;refine Zw cw ?_;exact dG rfl trivial (aa hfin.out)
   ·rw [p3] at hz;subst hz;clear s2 hz0 hzn p3;refine Zw cw ?_;exact dG rfl trivial (aa hfin.out)
  ·have hfinJ:∃ B',JX it im ie ip ii tm em ec pm pc xb ib id Q (Jq R0 id) (ks++[(f,g,t)]) B' (L.set b (gv (fj xs id) ck)++[Blk.cells [.str f,.bool g,.str t]])/\∀ i,B' i->B i\/L.length<=i :=
    JX.of (L:=L) (k:=(f,g,t)) h4 hJ (fun y x=>Jp y x) (gl _ _ hbx h2) (gl _ _ hbb h3) (fun c hc=>.inl hc)
   obtain ⟨B',j1,j2⟩:=hfinJ;have hfin:=h _ B' j1 hB1 j2;replace hfin:=hid hfin;have hz0:¬ ((aY (AV.int .i64) AV.bool (fj xs id)).length:Int)=0:=fun e=>hz (by
    have:(aY (AV.int .i64) AV.bool (fj xs id)).length=0:=by omega
    unfold aY at this;rw [Z9] at this;exact aaj.1 this)
   clear h aX hJ hS hL1 h1 j1 j2 h4 xn bn s3 s4 hs1 q1 hB1 hb hbo gl hz;rcases mu (va:=AV.bool) nD s2 id with ⟨j',w,p1,p2,p3⟩|⟨p2,p3⟩
   ·clear p1 s2;refine Zw cw ?_;refine aQ ?_;exact dG rfl trivial (aa hfin.out)
   ·rw [p3] at hfin hz0;clear s2 p3;refine Zw cw ?_;refine aQ ?_;exact dG rfl trivial (aa hfin.out)
set_option maxHeartbeats 8000000
set_option maxRecDepth 100000
structure Kr (a:List Atr):Prop where
 len:a.length<=1100000
 rise:gr dC a
 sz:∀ x∈a,bd x.1/\x.2.length<=1100000
structure IxG (tm:TMp) (l:List bf):Prop where
 ok:cF tm tm.length
 key:∀ e∈tm,bd e.1
 ats:∀ e∈l,Kr e.2
theorem bA.app2 {B:Nat->Prop} {L L1:List Blk} (h:bA B L L1) (X:List Blk):bA B L (L1++X):=h.trans (bA.app (B:=fun _=>False) _ _) fun i _ e=>e.elim
structure iU (L0:List Blk) (B0 B:Nat->Prop) (it im ie ip ii:Nat) (tm:TMp) (em:List (a8 Int (List Atr))) (ec:Nat) (pm:List (a8 (List UInt8) Nat)) (pc:Nat) (dm:List (a8 aZ Nat)) (dc:Nat) (F:List (Nat×Blk)) (Q:List UInt8->Int->Prop) (R:aZ->Int->Prop) (L:List Blk):Prop where
 ix:IxH L it im ie ip ii tm tm.length em ec pm pc dm dc Q R
 own:∀ i,B i↔i∈it::im::ie::ip::ii::(pm.map (·.2.1)++dm.map (·.2.1))
 bes:bA B0 L0 L
 sub:∀ i,B i->B0 i\/L0.length<=i
 fr:∀ p∈F,¬ B p.1/\L[p.1]?=some p.2/\L0.length<=p.1
section
variable {L0:List Blk} {B0 B:Nat->Prop} {it im ie ip ii:Nat} {tm:TMp} {em:List (a8 Int (List Atr))} {ec:Nat} {pm:List (a8 (List UInt8) Nat)} {pc:Nat} {dm:List (a8 aZ Nat)} {dc:Nat} {F:List (Nat×Blk)} {Q:List UInt8->Int->Prop} {R:aZ->Int->Prop} {L:List Blk}
theorem iU.at (h:iU L0 B0 B it im ie ip ii tm em ec pm pc dm dc F Q R L) {i:Nat} {b:Blk} (e:(i,b)∈F):L[i]?=some b:=(h.fr _ e).2.1
theorem iU.lt (h:iU L0 B0 B it im ie ip ii tm em ec pm pc dm dc F Q R L) {i:Nat} (hi:B i):i<L.length:=h.ix.lt i ((h.own i).1 hi)
theorem iU.app (h:iU L0 B0 B it im ie ip ii tm em ec pm pc dm dc F Q R L) (b:Blk):iU L0 B0 B it im ie ip ii tm em ec pm pc dm dc ((L.length,b)::F) Q R (L++[b]):=by
 refine ⟨h.ix.more _,h.own,h.bes.app2 _,h.sub,fun p hp=>?_⟩;rcases ZF.1 hp with rfl|hp
 ·exact ⟨fun e=>absurd (h.lt e) (by simp),by simp,h.bes.len⟩
 ·obtain ⟨g1,g2,g3⟩:=h.fr p hp;exact ⟨g1,Zu g2,g3⟩
theorem iU.turn {i:Nat} {b:Blk} (h:iU L0 B0 B it im ie ip ii tm em ec pm pc dm dc ((i,b)::F) Q R L) (b':Blk) (hF:∀ p∈F,p.1≠i):iU L0 B0 B it im ie ip ii tm em ec pm pc dm dc ((i,b')::F) Q R (L.set i b'):=by
 obtain ⟨q1,q2,q3⟩:=h.fr (i,b) (by simp);simp only at q1 q2 q3;refine ⟨h.ix.keep fun j hj=>?_,h.own,h.bes.trans (bA.set (B:=fun j=>j=i) L (.inl rfl) b') (fun j hj e=>absurd hj (by omega)),h.sub,fun p hp=>?_⟩
 ·rw [ZU fun e=>q1 ((h.own i).2 (by rw [e];exact hj))]
 ·rcases ZF.1 hp with rfl|hp
  ·exact ⟨q1,aaq (Zz.1 q2).1,q3⟩
  ·obtain ⟨g1,g2,g3⟩:=h.fr p (by simp [hp]);exact ⟨g1,by rw [ZU (fun e=>hF p hp e.symm)];exact g2,g3⟩
theorem iU.ownSet (h:iU L0 B0 B it im ie ip ii tm em ec pm pc dm dc F Q R L) {i:Nat} (hi:B i) {k:Blk} {em':List (a8 Int (List Atr))} {ec':Nat} {Q':List UInt8->Int->Prop} (hx:IxH (L.set i k) it im ie ip ii tm tm.length em' ec' pm pc dm dc Q' R):iU L0 B0 B it im ie ip ii tm em' ec' pm pc dm dc F Q' R (L.set i k) :=
 ⟨hx,h.own,h.bes.trans (bA.set (B:=fun j=>j=i) L (.inl rfl) k) (fun j hj e=>(h.sub j (by rw [e];exact hi)).resolve_right (by omega)),h.sub,fun p hp=>by
  obtain ⟨g1,g2,g3⟩:=h.fr p hp;exact ⟨g1,by rw [ZU fun e=>g1 (by rw [<- e];exact hi)];exact g2,g3⟩⟩
theorem iU.iff {Q':List UInt8->Int->Prop} (h:iU L0 B0 B it im ie ip ii tm em ec pm pc dm dc F Q R L) (hq:∀ f x,f∈tm.map (·.1)->(Q f x↔Q' f x)):iU L0 B0 B it im ie ip ii tm em ec pm pc dm dc F Q' R L:=⟨h.ix.iff hq fun _ _=>Iff.rfl,h.own,h.bes,h.sub,h.fr⟩
theorem iU.apps (h:iU L0 B0 B it im ie ip ii tm em ec pm pc dm dc F Q R L) (X:List Blk):iU L0 B0 B it im ie ip ii tm em ec pm pc dm dc F Q R (L++X) :=
 ⟨h.ix.more _,h.own,h.bes.app2 _,h.sub,fun p hp=>by
  obtain ⟨g1,g2,g3⟩:=h.fr p hp;exact ⟨g1,Zu g2,g3⟩⟩
theorem iU.jx {xb ib:Nat} {id:Int} (h:iU L0 B0 B it im ie ip ii tm em ec pm pc dm dc F Q R L) (hx:(xb,.cells [.ptr it 0])∈F) (hi:(ib,.cells [.int .i64 id])∈F) {R':List aZ->aZ->Int->Prop} (hR:∀ k x,R k x↔R' [] k x):JX it im ie ip ii tm em ec pm pc xb ib id Q R' [] (fun i=>i=xb\/i=ib\/B i) L:=by
 refine ⟨dm,dc,h.ix.iff (fun _ _ _=>Iff.rfl) hR,h.at hx,h.at hi,fun i=>?_⟩;show i=xb\/i=ib\/B i↔_
 rw [h.own]
theorem iU.done {xb ib:Nat} {id:Int} (h:iU L0 B0 B it im ie ip ii tm em ec pm pc dm dc F Q R L) (hx:(xb,.cells [.ptr it 0])∈F) (hi:(ib,.cells [.int .i64 id])∈F) {R':List aZ->aZ->Int->Prop} {M:aZ->Prop} {L2:List Blk} (he:EaI (JX it im ie ip ii tm em ec pm pc xb ib id Q R') (fun i=>i=xb\/i=ib\/B i) L [] M L2) {l':List bf} (hr:fp l') (hem:GX em l')
  (hQ:∀ f x,f∈tm.map (·.1)->(Q f x↔x∈kx l' f)) (hR:∀ ks,(∀ k,k∈ks↔M k)->∀ k x,R' ks k x↔x∈eE (gu tm) l' k):∃ B',IxO L2 it tm l' B'/\bA B0 L0 L2/\∀ i,B' i->B0 i\/L0.length<=i:=by
 obtain ⟨ks,B2,⟨dm2,dc2,g1,g2,g3,g4⟩,h2,h3,h4,_⟩:=he;have hxl:=(h.fr _ hx).2.2;have hil:=(h.fr _ hi).2.2;refine ⟨_,⟨im,ie,ip,ii,em,ec,pm,pc,dm2,dc2,g1.iff hQ (hR ks h2),hem,hr,fun i=>Iff.rfl⟩,h.bes.trans h3 (fun i hi' e=>?_),fun i hi'=>?_⟩
 ·rcases e with e|e|e
  ·simp only at hxl;omega
  ·simp only at hil;omega
  ·exact (h.sub i e).resolve_right (by omega)
 ·rcases h4 i ((g4 i).2 (.inr (.inr hi'))) with (e|e|e)|e
  ·simp only at hxl;right;omega
  ·simp only at hil;right;omega
  ·exact h.sub i e
  ·exact .inr (Z0 h.bes.len e)
end
theorem Sp {L:List Blk} {i:Nat} {k:Blk} (h:L[i]?=some k):L.set i k=L:=by
 have hi:=(Zz.1 h).1;apply aaZ;intro j;by_cases e:i=j
 ·subst e;rw [aaq hi,h]
 ·rw [ZU e]
theorem X7 {L:List Blk} {it im ie ip ii:Nat} {tm:TMp} {tc:Nat} {em:List (a8 Int (List Atr))} {ec:Nat} {pm:List (a8 (List UInt8) Nat)} {pc:Nat} {dm:List (a8 aZ Nat)} {dc:Nat} {Q:List UInt8->Int->Prop} {R:aZ->Int->Prop} (h:IxH L it im ie ip ii tm tc em ec pm pc dm dc Q R) {p:a8 (List UInt8) Nat} (hp:p∈pm):cH pm p.1=some p.2.1:=qI h.pok.keys hp
theorem Pw {L:List Blk} {it:Nat} {tm:TMp} {l:List bf} {B:Nat->Prop} (ho:IxO L it tm l B) (hg:IxG tm l) {id:Int} {K:Zy}
  (h:∀ L' B',IxO L' it tm (bU id l) B'->bA B L L'->(∀ i,B' i->B i\/L.length<=i)->K (.tup []) L') :
  Zx 35 [.ptr it 0,.int .i64 id] L K:=by
 obtain ⟨im,ie,ip,ii,em,ec,pm,pc,dm,dc,h1,h2,h3,h4⟩:=ho;have hM0:iU L B B it im ie ip ii tm em ec pm pc dm dc [] (fun f x=>x∈kx l f) (fun k x=>x∈eE (gu tm) l k) L:=⟨h1,h4,.refl _,fun i hi=>.inl hi,fun p hp=>by cases hp⟩;have hM1:=hM0.app (.cells [.ptr it 0]);have hM2:=hM1.app (.cells [.int .i64 id]);have hki:bC .int (.int .i64 id)=true:=rfl;have a1:∀ X,(L++X)[it]?=some (.cells [.lmap im,.lmap ie,.lmap ip,.lmap ii]):=fun X=>Zu h1.st
 have a2:∀ X,(L++X)[ie]?=some (.map (aY (AV.int .i64) atV em) ec):=fun X=>Zu h1.en
 rcases mu (va:=atV) nD h1.eok id with ⟨j,a,q1,q2,q3⟩|⟨q2,q3⟩
 rotate_left
 ·have hno:∀ a,(id,a) ∉ l:=h2.out.1 (by
   have:=CF (xs:=em) (k:=id) (j:=id);rw [q3,if_pos rfl] at this;exact this)
  rw [Tt hno] at h;have hfin:=hid (h _ B ⟨im,ie,ip,ii,em,ec,pm,pc,dm,dc,hM2.ix,h2,h3,h4⟩ hM2.bes fun i hi=>.inl hi);rw [ZO] at hfin;clear h hM0 hM1 hM2 h1 h2 h3 h4 hg q3 hno;refine Zw iJ ?_;exact aa hfin.out
 ·have ha:(id,a)∈l:=(h2 id a).1 q1;have hao:=hg.ats _ ha;have hem:=h2.drop id;have hok2:cF (fj em id) ec:=h1.eok.filter _;have hie:ie<L.length:=(Zz.1 h1.en).1;have hBie:B ie:=(h4 ie).2 (by simp);obtain ⟨n1,n2,n3,n4,m1,m2,m3,m4,m5,m6,m7,m8,m9,m10⟩:=h1.ne;rw [show (L++[Blk.cells [.ptr it 0]]).length=L.length+1 by simp] at hM2;have hM3:=hM2.ownSet hBie (hM2.ix.enSet hok2);have hst:∀ (X:List Blk) c,(L++X).set ie c=L.set ie c++X:=fun X c=>aaC _ _ hie
  have gl:∀ (X:List Blk) c {i:Nat} {b:Blk},ie≠i->L[i]?=some b->(L.set ie c++X)[i]?=some b:=fun X c {i b} n e=>by
   rw [ZM (by simpa using (Zz.1 e).1),ZU n];exact e
  have b1:∀ X c,(L.set ie c++X)[it]?=some (.cells [.lmap im,.lmap ie,.lmap ip,.lmap ii]):=fun X c=>gl X c m2.symm h1.st
  have b5:∀ c,(L.set ie c).length=L.length:=fun c=>by simp
  have b2:∀ X c,(L.set ie c++X)[ip]?=some (.map (aY AV.str AV.lmap pm) pc):=fun X c=>gl X c m8 h1.pr
  have b3:∀ a c (X:List Blk),(L.set ie c++a::X)[L.length]?=some a:=fun a c X=>by rw [Z5 (by simp)];simp
  have b4:∀ a c d (X:List Blk),(L.set ie c++a::d::X)[L.length+1]?=some d:=fun a c d X=>by rw [Z5 (by simp)];simp
  have hM4:=hM3.app (.miter (some ip) pc [] pc);rw [ZO,hst,show (L.set ie (VG (fj em id) ec)++([Blk.cells [.ptr it 0]]++[Blk.cells [.int .i64 id]])).length=L.length+2 by simp,ZO] at hM4;replace hM4:=hid hM4;replace h:=hid h;replace hg:=hid hg;replace hao:=hid hao;replace hem:=hid hem;replace hpo:=hid h1.pok;replace hri:=hid h3;have hpk:=hid h1.pk;replace ha:=hid ha;clear hM0 hM1 hM2 hM3 h1 h2 h3 h4 hok2 hBie n1 n2 n3 n4 m1 m2 m3 m4 m5 m6 m7 m8 m9 m10 gl q1;refine Zw iJ ?_;refine ak (fun n T' L'=>∃ (seen:List Nat) (ps:List (a8 (List UInt8) Nat)),n=(pm.filter fun r => !seen.contains r.2.2).length/\Hid (ra pm ps seen)/\Hid (iU L B B it im ie ip ii tm (fj em id) ec pm pc dm dc [(L.length+2,.miter (some ip) pc seen pc),(L.length+1,.cells [.int .i64 id]),(L.length,.cells [.ptr it 0])] (fun f x=>x∈kx l f/\¬ (x=id/\f∈ps.map (·.1))) (fun k x=>x∈eE (gu tm) l k) L')/\T'=[(30,.ptr (L.length+2) 0),(2,.ptr L.length 0),(3,.ptr (L.length+1) 0),(4,.sl (be a) a.length none)]) (CutS (b:=by simp)) ⟨[],[],rfl,hid ra.nil,hid (hM4.out.iff fun f x _=>by simp),rfl⟩ ?_;clear hM4 b1 b2 b3 b4 b5 a1 a2 q2 q3 hst;rintro _ _ L' ⟨seen,ps,rfl,hcm,hM,rfl⟩;have hat:=hM.out.at (i:=L.length+2) abz;have hpr:=hM.out.ix.pr;have hnl:L.length+3<=L'.length:=(Zz.1 hat).1;refine bb ?_;refine K2 (i:=L.length+2) (j:=ip) (es:=aY AV.str AV.lmap pm) (by kernel_rfl) rfl hat hpr (fun e he=>?_) (ZA _) (fun hall=>?_) (fun e he hs=>?_)
  ·obtain ⟨p,hp,rfl⟩:=ZC.1 he;exact hpo.out.lt p hp
  ·have hall2:=hcm.out.all hpo.out fun x hx=>hall (rA AV.str AV.lmap x) (ZC.2 ⟨x,hx,rfl⟩)
   have hx:=hM.out.at (i:=L.length) (b:=.cells [.ptr it 0]) (by simp);have kk1:Hid (∀ {K:Zy},(∀ L2,EaI (JX it im ie ip ii tm (fj em id) ec pm pc L.length (L.length+1) id (fun f x=>x∈kx l f/\¬ (x=id/\f∈ps.map (·.1))) (Jq (fun k x=>x∈eE (gu tm) l k) id)) (fun i=>i=L.length\/i=L.length+1\/B i) L' [] (fun k=>k∈ek (gu tm) a) L2->K (.tup []) L2)->Zx 53 [.ptr it 0,.sl (be a) a.length none,.func 85 [.ptr L.length 0,.ptr (L.length+1) 0]] L' K):=@hid _ (fun {K} q=>by
    refine VI (JX.dok fun ks B L k K hj hk=>VK hj hk) hao.out.len hao.out.rise hao.out.sz hg.out.ok hg.out.key (hM.out.jx (by simp) (by simp) fun k x=>?_) q;simp [Jq])
   replace hall2:=hid hall2;clear hall hcm hat hpr;refine sk ?_;refine wk ?_;intro L2 he;obtain ⟨B',f1,f2,f3⟩:=hM.out.done (by simp) (by simp) he (LY hri.out) hem.out (fun f x hf=>by
    have h1:f∈ps.map (·.1):=by
     obtain ⟨e,he,rfl⟩:=ZC.1 ((hpk.out f).2 hf);exact ZC.2 ⟨e,(hall2.out e).2 he,rfl⟩
    rw [No];simp only [h1,and_true,ne_eq]) (fun ks hk k x=>VJ hri.out ha.out hk k x)
   refine aP (by kernel_rfl) ?_;exact dG rfl trivial (aa (h.out L2 B' f1 f2 f3))
  ·obtain ⟨p,hp,rfl⟩:=ZC.1 he;clear he;have hs':seen.contains p.2.2=false:=hs;have hlt:=hid (XU hp hs');have hcm':=hid (hcm.out.next hp);have hmat:=U7 (ka:=AV.str) (va:=AV.lmap) (ck:=pc) (seen:=seen) hpo.out.born hp;have hgp:=X7 hM.out.ix hp;have hM2:=hM.out.turn (.miter (some ip) pc (seen++[p.2.2]) pc) (by simp);obtain ⟨fn,b,bn⟩:=p;simp only [rA] at *;clear hs hs' hcm hM hat hpr hp;obtain ⟨L2,hL2⟩:=Zt (L'.set (L.length+2) (Blk.miter (some ip) pc (seen++[bn]) pc));have hl2:L'.length=L2.length:=by rw [<- hL2];simp
   rw [hL2] at hM2 ⊢;clear hL2;have hat:=hM2.at (i:=L.length+2) abz;have hib:=hM2.at (i:=L.length+1) (b:=.cells [.int .i64 id]) (by simp);have hpr:=hM2.ix.pr;have hBb:B b:=(hM2.own b).2 (by simp only [ZF,ZD];exact .inr (.inr (.inr (.inr (.inr (.inl (rz hgp)))))));obtain ⟨xs,ck,s1,s2,s3,s4⟩:=hM2.ix.ps _ _ hgp;have hS:=mI.del s1 id s2 s3 s4;have hM3:=hid ((hM2.ownSet hBb (hM2.ix.pmSet hgp hS)).iff (Q':=fun f x=>x∈kx l f/\¬ (x=id/\f∈(ps++[(fn,b,bn)]).map (·.1))) fun f x _=>by
    by_cases e:f=fn
    ·subst e;rw [if_pos rfl];simp only [Z7,ZD,ZK,abr,ZS,or_true,and_true];constructor
     ·rintro ⟨⟨q1,_⟩,q2⟩;exact ⟨q1,q2⟩
     ·rintro ⟨q1,q2⟩;exact ⟨⟨q1,fun w=>q2 w.1⟩,q2⟩
    ·rw [if_neg e];simp only [Z7,ZD,ZK,abr,ZS,e,or_false])
   have hbl:=(Zz.1 s1).1;rcases mu (va:=AV.bool) nD s2 id with ⟨j',w,p1,p2,p3⟩|⟨p2,p3⟩
   ·clear p1 s2 s3 s4 hS hM2 hgp hBb;refine sk ?_;refine wk ?_;exact aj _ _ _ hlt.out (CutL (b:=by simp;omega)) ⟨_,_,rfl,hcm',hM3,rfl⟩
   ·have hset:L2.set b (.map (aY (AV.int .i64) AV.bool xs) ck)=L2:=Sp s1;rw [p3,hset] at hM3;clear p3 s2 s3 s4 hS hM2 hgp hBb;refine sk ?_;refine wk ?_;exact aj _ _ _ hlt.out (CutL (b:=by simp;omega)) ⟨_,_,rfl,hcm',hM3,rfl⟩
set_option maxHeartbeats 8000000
set_option maxRecDepth 100000
theorem Ov {L:List Blk} {it:Nat} {tm:TMp} {l:List bf} {B:Nat->Prop} (ho:IxO L it tm l B) (hg:IxG tm l) {id:Int} {a:List Atr} (hao:Kr a) {cap:Option Nat} {K:Zy}
  (h:∀ L' B',IxO L' it tm (kU id a l) B'->bA B L L'->(∀ i,B' i->B i\/L.length<=i)->K (.tup []) L') :
  Zx 21 [.ptr it 0,.int .i64 id,.sl (be a) a.length cap] L K:=by
 have kD:Hid (∀ {K:Zy},(∀ L1 B1,Hid (IxO L1 it tm (bU id l) B1/\bA B (L++[.cells [.ptr it 0],.cells [.int .i64 id]]) L1/\∀ i,B1 i->B i\/L.length+2<=i)->K (.tup []) L1)->Zx 35 [.ptr it 0,.int .i64 id] (L++[.cells [.ptr it 0],.cells [.int .i64 id]]) K):=@hid _ (by
  intro K q;refine Pw (ho.app _) hg fun L1 B1 g1 g2 g3=>q L1 B1 (hid ⟨g1,g2,fun i hi=>?_⟩)
  have:=g3 i hi;simpa using this)
 have hlt:=hid (fun i (hi:B i)=>ho.lt hi);have hri:=hid ho.rise;replace h:=hid h;replace hg:=hid hg;replace hao:=hid hao;clear ho;refine Zw Da ?_;refine kD.out fun L1 B1 h1=>?_
 clear kD;have hbx:L1[L.length]?=some (.cells [.ptr it 0]):=by
  refine h1.out.2.1.get (by simp) fun e=>?_
  have:=hlt.out _ e;omega
 have hbi:L1[L.length+1]?=some (.cells [.int .i64 id]):=by
  refine h1.out.2.1.get (by simp) fun e=>?_
  have:=hlt.out _ e;omega
 have hM0:Hid (∃ im ie ip ii em ec pm pc dm dc,iU L B B1 it im ie ip ii tm em ec pm pc dm dc [(L.length+1,.cells [.int .i64 id]),(L.length,.cells [.ptr it 0])] (fun f x=>x∈kx (bU id l) f) (fun k x=>x∈eE (gu tm) (bU id l) k) L1/\GX em (bU id l)):=hid (by
  obtain ⟨⟨im,ie,ip,ii,em,ec,pm,pc,dm,dc,g1,g2,g3,g4⟩,g5,g6⟩:=h1.out;refine ⟨im,ie,ip,ii,em,ec,pm,pc,dm,dc,⟨g1,g4,?_,fun i hi=>?_,fun p hp=>?_⟩,g2⟩
  ·exact ⟨by have:=g5.len;simp at this;omega,fun i hi hn=>by rw [g5.eq i (by simp;omega) hn,ZM hi]⟩
  ·rcases g6 i hi with e|e
   ·exact .inl e
   ·exact .inr (by omega)
  ·have key:∀ i,L.length<=i->i<L.length+2->¬ B1 i:=fun i i1 i2 e=>by
    rcases g6 i e with e|e
    ·have:=hlt.out i e;omega
    ·omega
   simp only [ZF,abj,or_false] at hp;rcases hp with rfl|rfl
   ·exact ⟨key _ (by simp) (by simp),hbi,by simp⟩
   ·exact ⟨key _ (by simp) (by simp),hbx,by simp⟩)
 clear h1 hbx hbi;have hall:=hid hao.out.len;refine wk ?_;refine cG (l:=[]) (n:=0) 6 2 rfl (aae 2).symm ?_;refine ak (fun m T' L'=>∃ (k:Nat) (C:List AV) (X:List Blk),m=a.length - k/\k<=a.length/\C=be (a.take k)/\T'=[(17,.int .i64 (k:Int)),(16,.int .i64 a.length),(15,.sl (be a) a.length cap),(6,.gsl C k L1.length 2),(4,.ptr (L.length+1) 0),(3,.ptr L.length 0)]/\L'=L1++(.spare k 2::X)) (CutS (b:=by simp)) ⟨0,[],[],rfl,ZI _,rfl,rfl,rfl⟩ ?_;rintro _ _ _ ⟨k,C,X,rfl,hk,hC,rfl,rfl⟩;have hall2:=hall.out;by_cases hlk:k<a.length
 ·have g1:(k:Int)<(a.length:Int):=by omega
  have g2:=Zv k (by omega);have e3:=l3 hlk;have e4:k * 2+2<=(be a).length:=by rw [kO];omega
  obtain ⟨⟨nm,vs⟩,ha⟩:∃ x,a.getD k ([],[])=x:=⟨_,rfl⟩;have htk:be (a.take (k+1))=be (a.take k)++[.str nm,.sl (vs.map AV.str) vs.length none]:=by
   rw [ZY hlk,IQ,show a[k]=(nm,vs) by rw [<- ha];simp [hlk]];rfl
  have hvs:=(hao.out.sz (nm,vs) (by rw [<- ha];simp [hlk])).2;simp only at hvs;rw [ha] at e3;simp only [atA] at e3;have e0:AV.frzL (vs.map AV.str)=vs.map AV.str:=dD vs;replace htk:=hid htk;replace hC:=hid hC;have kk1:Hid (∀ {c:Option Nat} {L:List Blk} {K:Zy},K (.sl (vs.map AV.str) vs.length none) L->Zx 51 [.sl (vs.map AV.str) vs.length c] L K):=@hid _ (by intro c L K q;exact VQ (by omega) q);clear ha;refine wk ?_;exact aj _ _ _ (by omega) (CutL (b:=by simp)) ⟨k+1,_,_,rfl,hlk,by rw [htk.out,hC.out],rfl,rfl⟩
 ·have hke:k=a.length:=by omega
  subst hke;have g1:¬ (a.length:Int)<(a.length:Int):=by omega
  rw [ZW] at hC;subst hC;obtain ⟨im,ie,ip,ii,em,ec,pm,pc,dm,dc,hM1,hem⟩:=hM0.out;have hM:=hM1.apps (.spare a.length 2::X);obtain ⟨L2,hL2⟩:=Zt (L1 ++ .spare a.length 2::X);have hl12:L1.length+1<=L2.length:=by rw [<- hL2];simp
  rw [hL2] at hM ⊢;clear hM1 hL2 hM0;refine Xy (T':=[(17,.int .i64 a.length),(16,.int .i64 a.length),(6,.sl (AV.frzL (be a)) a.length none),(4,.ptr (L.length+1) 0),(3,.ptr L.length 0)]) (L':=L2) (CutS (b:=ZA _)) ?_;rw [gq];have hno:cH em id=none:=hem.out.2 fun b hb=>by have:=dQ.1 hb;simp at this
  rcases da (va:=atV) nD hM.ix.eok id a with ⟨j,w,q1,_⟩|⟨_,q2,q3,q4⟩
  ·rw [hno] at q1;cases q1
  have hem2:GX (mf em id a ec) (kU id a l):=hem.put a;have hes:mf em id a ec=em++[(id,a,ec)]:=by unfold mf;rw [if_neg q4]
  rw [hes] at hem2 q3;have hie:ie<L2.length:=(Zz.1 hM.ix.en).1;obtain ⟨n1,n2,n3,n4,m1,m2,m3,m4,m5,m6,m7,m8,m9,m10⟩:=hM.ix.ne;have hM3:=hM.ownSet ((hM.own ie).2 (by simp)) (hM.ix.enSet (hM.ix.eok.add q4 (w:=a)));have hM4:=hM3.app (.miter (some im) tm.length [] tm.length);rw [acm] at hM4;have hbx:=hM.at (i:=L.length) (b:=.cells [.ptr it 0]) (by simp);have hbi:=hM.at (i:=L.length+1) (b:=.cells [.int .i64 id]) (by simp);have hl02:L.length+2<=L2.length:=(Zz.1 hbi).1;have hst:=hM.ix.st;have hen:=hM.ix.en;have b1:∀ c,(L2.set ie c)[L.length]?=some (.cells [.ptr it 0]):=fun c=>by
   rw [ZU fun e=>by rw [<- e,hen] at hbx;cases hbx];exact hbx
  have b2:∀ c,(L2.set ie c)[it]?=some (.cells [.lmap im,.lmap ie,.lmap ip,.lmap ii]):=fun c=>by
   rw [ZU m2.symm];exact hst
  have b3:∀ c,(L2.set ie c)[im]?=some (.map (aY AV.str tyV tm) tm.length):=fun c=>by
   rw [ZU m5.symm];exact hM.ix.ty
  have b5:∀ c,(L2.set ie c).length=L2.length:=fun c=>by simp
  have hki:bC .int (.int .i64 id)=true:=rfl;replace hM4:=hid hM4;replace hem2:=hid hem2;clear hM3 hM hem hno q4 hes n1 n2 n3 n4 m1 m2 m3 m4 m5 m6 m7 m8 m9 m10 hie hk hlk hall2;refine wk ?_;refine ak (fun n T' L'=>∃ (seen:List Nat) (ps:TMp),n=(tm.filter fun r => !seen.contains r.2.2).length/\Hid (ra tm ps seen)/\Hid (iU L B B1 it im ie ip ii tm (em++[(id,a,ec)]) (ec+1) pm pc dm dc [(L2.length,.miter (some im) tm.length seen tm.length),(L.length+1,.cells [.int .i64 id]),(L.length,.cells [.ptr it 0])] (fun f x=>x∈kx (bU id l) f\/(x=id/\f∈ps.map (·.1)/\dz a f≠[])) (fun k x=>x∈eE (gu tm) (bU id l) k) L')/\T'=[(41,.ptr L2.length 0),(6,.sl (be a) a.length none),(4,.ptr (L.length+1) 0),(3,.ptr L.length 0)]) (CutS (b:=by simp)) ⟨[],[],rfl,hid ra.nil,hid (hM4.out.iff fun f x _=>by simp),rfl⟩ ?_;clear hM4 b1 b2 b3 b5 hbx hbi hst hen q2 q3;rintro _ _ L' ⟨seen,ps,rfl,hcm,hM,rfl⟩;have hat:=hM.out.at (i:=L2.length) abz;have hty:=hM.out.ix.ty;have hnl:L2.length+1<=L'.length:=(Zz.1 hat).1;refine bb ?_;refine K2 (i:=L2.length) (j:=im) (es:=aY AV.str tyV tm) (by kernel_rfl) rfl hat hty (fun e he=>?_) (ZA _) (fun hal2=>?_) (fun e he hs=>?_)
  ·obtain ⟨p,hp,rfl⟩:=ZC.1 he;exact hg.out.ok.lt p hp
  ·have hall2:=hcm.out.all hg.out.ok fun x hx=>hal2 (rA AV.str tyV x) (ZC.2 ⟨x,hx,rfl⟩)
   have hx:=hM.out.at (i:=L.length) (b:=.cells [.ptr it 0]) (by simp);have kk1:Hid (∀ {K:Zy},(∀ L3,EaI (JX it im ie ip ii tm (em++[(id,a,ec)]) (ec+1) pm pc L.length (L.length+1) id (fun f x=>x∈kx (bU id l) f\/(x=id/\f∈ps.map (·.1)/\dz a f≠[])) (MM (fun k x=>x∈eE (gu tm) (bU id l) k) id)) (fun i=>i=L.length\/i=L.length+1\/B1 i) L' [] (fun k=>k∈ek (gu tm) a) L3->K (AV.tup []) L3)->Zx 53 [.ptr it 0,.sl (be a) a.length none,.func 54 [.ptr L.length 0,.ptr (L.length+1) 0]] L' K):=@hid _ (fun {K} q=>by
    refine VI (JX.dok fun ks B L k K hj hk=>WU hj hk) hao.out.len hao.out.rise hao.out.sz hg.out.ok hg.out.key (hM.out.jx (by simp) (by simp) fun k x=>?_) q;simp [MM])
   replace hall2:=hid hall2;clear hal2 hcm hat hty;refine sk ?_;refine wk ?_;intro L3 he;obtain ⟨B',f1,f2,f3⟩:=hM.out.done (by simp) (by simp) he (SG hri.out) hem2.out (fun f x hf=>by
    have h1:f∈ps.map (·.1):=by
     obtain ⟨e,he,rfl⟩:=ZC.1 hf;exact ZC.2 ⟨e,(hall2.out e).2 he,rfl⟩
    rw [No,UJ];simp only [h1,true_and]) (fun ks hk k x=>UH hk k x)
   refine aP (by kernel_rfl) ?_;exact dG rfl trivial (aa (h.out L3 B' f1 f2 f3))
  ·obtain ⟨p,hp,rfl⟩:=ZC.1 he;clear he;have hs':seen.contains p.2.2=false:=hs;have hlt2:=hid (XU hp hs');have hcm':=hid (hcm.out.next hp);have hmat:=U7 (ka:=AV.str) (va:=tyV) (ck:=tm.length) (seen:=seen) hg.out.ok.born hp;have hfr:=hg.out.key p hp;have hpin:p.1∈tm.map (·.1):=ZC.2 ⟨p,hp,rfl⟩;have hM2:=hM.out.turn (.miter (some im) tm.length (seen++[p.2.2]) tm.length) (by simp;omega);obtain ⟨fn,ty,bn⟩:=p;simp only [rA] at *;clear hs hs' hcm hM hat hty hp;obtain ⟨L4,hL4⟩:=Zt (L'.set L2.length (Blk.miter (some im) tm.length (seen++[bn]) tm.length));have hl4:L'.length=L4.length:=by rw [<- hL4];simp
   rw [hL4] at hM2 ⊢;clear hL4;have hat:=hM2.at (i:=L2.length) abz;have hty:=hM2.ix.ty;obtain ⟨vs,hvs⟩:=Zt (dz a fn);have kk1:Hid (Ctr Tryz.prog 52 [.sl (be a) a.length none,.str fn] (G9 vs)):=@hid _ (fun {L K} q=>VH hao.out.len hao.out.rise hao.out.sz hfr (by rw [hvs];exact q));by_cases hv0:vs=[]
   ·have hM3:=hid (hM2.iff (Q':=fun f x=>x∈kx (bU id l) f\/(x=id/\f∈(ps++[(fn,ty,bn)]).map (·.1)/\dz a f≠[])) fun f x _=>by
     have:f=fn->dz a f=[]:=fun e=>by rw [e,hvs,hv0]
     by_cases e:f=fn
     ·simp [this e]
     ·simp [e])
    subst hv0;clear hM2 hvs;refine sk ?_;refine wk ?_;exact aj _ _ _ hlt2.out (CutL (b:=by simp;omega)) ⟨_,_,rfl,hcm',hM3,rfl⟩
   ·obtain ⟨b,hgb⟩:∃ b,cH pm fn=some b:=by
     cases hq:cH pm fn with
     | some b=>exact ⟨b,rfl⟩
     | none=>exact absurd ((hM2.ix.pk fn).2 hpin) (qR.1 hq)
    have hBb:B1 b:=(hM2.own b).2 (by simp only [ZF,ZD];exact .inr (.inr (.inr (.inr (.inr (.inl (rz hgb)))))));obtain ⟨xs,ck,s1,s2,s3,s4⟩:=hM2.ix.ps _ _ hgb;have hS:=mI.add s1 (hM2.ix.ps _ _ hgb) id s2 s3 s4;have hM3:=hid ((hM2.ownSet hBb (hM2.ix.pmSet hgb hS)).iff (Q':=fun f x=>x∈kx (bU id l) f\/(x=id/\f∈(ps++[(fn,ty,bn)]).map (·.1)/\dz a f≠[])) fun f x _=>by
     by_cases e:f=fn
     ·subst e;rw [if_pos rfl];simp only [Z7,ZD,ZK,abr,ZS,or_true,true_and,hvs];constructor
      ·rintro ((q|⟨q,_⟩)|q)
       ·exact .inl q
       ·exact .inr ⟨q,hv0⟩
       ·exact .inr ⟨q,hv0⟩
      ·rintro (q|⟨q,_⟩)
       ·exact .inl (.inl q)
       ·exact .inr q
     ·rw [if_neg e];simp only [Z7,ZD,ZK,abr,ZS,e,or_false])
    obtain ⟨j0,w0,y1,y2,_⟩:=mA (va:=AV.lmap) nC (xs:=pm) (k:=fn) 0 hM2.ix.pok.keys ((hM2.ix.pk fn).2 hpin);rw [hgb] at y1;cases y1;rw [aaN] at y2;have hbx:=hM2.at (i:=L.length) (b:=.cells [.ptr it 0]) (by simp);have hbi:=hM2.at (i:=L.length+1) (b:=.cells [.int .i64 id]) (by simp);have hst:=hM2.ix.st;have hpr:=hM2.ix.pr;have hks:bC .str (.str fn)=true:=rfl;have hv1:(vs.length:Int) > 0:=by have:=aaQ.2 hv0;omega
    have hv2:(0:Int)<(vs.length:Int):=hv1;rcases da (va:=AV.bool) nD s2 id true with ⟨j',w,p1,p2,p3,p4⟩|⟨p1,p2,p3,p4⟩
    ·have hck:ckS xs id ck=ck:=if_pos p4;rw [hck] at hM3;clear hck p1 p4 s2 s3 s4 hS hM2 hgb hBb hvs hv0 hpin;refine sk ?_;refine wk ?_;exact aj _ _ _ hlt2.out (CutL (b:=by simp;omega)) ⟨_,_,rfl,hcm',hM3,rfl⟩
    ·have hck:ckS xs id ck=ck+1:=if_neg p4;rw [hck] at hM3;clear hck p1 p4 s2 s3 s4 hS hM2 hgb hBb hvs hv0 hpin;refine sk ?_;refine wk ?_;exact aj _ _ _ hlt2.out (CutL (b:=by simp;omega)) ⟨_,_,rfl,hcm',hM3,rfl⟩
open Go Go.MapKept
variable {L:List Blk} {K:Zy}
theorem Ys {P:Program} {f:FuncId} {fn:Func} (hf:P.funcs[f]?=some fn) (hb:fn.body.isSome=true) (hn:(fn.name == "runtime.NumGoroutine")=false) (args:Array Value) (w:World):(callFunc f args).run P w=.ok (.enter f args) w:=by
 simp only [callFunc,ZG,run_program,ZH,hf,hn];cases h:fn.body with
 | none=>simp [h] at hb
 | some c=>simp
theorem QB {i ck:Nat} {es:List (AV×AV×Nat)} (hi:L[i]?=some (.map es ck)) (h:K (.lmap L.length) (L++[.map es ck])):Zx 40 [.lmap i] L K:=fun w0 S0 E w vs hR hv=>by
 simp only [VRL] at hv;obtain ⟨v,_,rfl,hv,rfl⟩:=hv;obtain ⟨c,rs,hc,rfl,hb,hmr⟩:=rp hR hi hv;refine .inl ⟨Ys Tryz.func40 rfl (by kernel_rfl) _ _,(AnyW.maps_Clone Tryz.cloneM c.blk rs ck w hb).mono ?_⟩;rintro e w' ⟨rfl,rfl⟩;have hle:E.le { E with loc:=fun j=>if j=L.length then some ⟨w.heap.size,0,0⟩ else E.loc j }:=Env.le_loc _ (hR.fresh _ (ZA _));have r1:=hR.push (.map rs ck) (.map es ck) ⟨w.heap.size,0,0⟩ rfl rfl ⟨⟨w.heap.size,0,0⟩,rs,by simp,by simp,hmr.mono hle⟩;refine ⟨_,_,_,_,rfl,r1.1,h,?_,r1.2⟩;simp only [VR];exact ⟨⟨w.heap.size,0,0⟩,by simp,rfl⟩
end Go.Proofs.YtcmfcpjnhephaaaGreatDoor.Av
