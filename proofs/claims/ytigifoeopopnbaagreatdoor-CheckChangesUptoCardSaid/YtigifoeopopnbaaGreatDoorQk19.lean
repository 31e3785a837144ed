/- Joined texts of the walk, made small by a program. -/
import Derived.Test.YtigifoeopopnbaaGreatDoorQk13
import Derived.Test.YtigifoeopopnbaaGreatDoorQk14
import Derived.Test.YtigifoeopopnbaaGreatDoorQk6
set_option linter.unusedSimpArgs false
set_option linter.unusedVariables false
namespace Go.Proofs.YtigifoeopopnbaaGreatDoor.Av
open Go
variable {L:List Blk} {K:aef}
set_option maxHeartbeats 8000000
set_option maxRecDepth 100000
theorem Qr {C rest z:List AV} {k m:Nat} (hz:z.length=m) (hk:k+m<=C.length):cq (cq (C++rest) k (C.drop (k+m))) (C.length - m) z=C.take k++C.drop (k+m)++(z++rest):=by
 have e1:cq (C++rest) k (C.drop (k+m))=C.take k++C.drop (k+m)++(C++rest).drop (C.length - m):=by
  unfold cq;rw [aeY (by omega)]
  congr 2
  simp;omega
 have hl:(C.take k++C.drop (k+m)).length=C.length - m:=by simp;omega
 rw [e1];unfold cq;rw [aeY (by omega),aeV (by omega),hz,show C.length - m+m=C.length by omega];have e2:List.drop C.length (C.take k++C.drop (k+m)++(C++rest).drop (C.length - m))=rest:=by
  rw [List.drop_append,ag7 (by omega),hl,List.drop_drop,aeR,show C.length - m+(C.length - (C.length - m))=C.length by omega,afA (aeg _)];simp
 rw [e2,aeu (C.take k++C.drop (k+m)) z]
theorem acl {α:Type} (l:List α) (k:Nat):l.take k++l.drop (k+1)=l.eraseIdx k:=(List.eraseIdx_eq_take_drop_succ l k).symm
theorem lU {α β:Type} (f:α->β):∀ (l:List α) (k:Nat),(l.map f).eraseIdx k=(l.eraseIdx k).map f
 | [],_=>rfl
 | _::_,0=>rfl
 | a::l,k+1=>by simp [lU f l k]
theorem ada {C:List AV} {n k:Nat} {i:Nat} {rest:List AV} (hn:n<=1100000) (hk:k<n) (hC:C.length=n) (hone:C.all AV.one=true) (hL:L[i]?=some (.cells (C++rest)))
  (h:K (.lsl i 0 (n - 1) none 1) (L.set i (.cells (C.take k++C.drop (k+1)++([.str []]++rest))))) :
  aee 106 [.lsl i 0 n none 1,.int .i64 k,.int .i64 ((k:Int)+1)] L K:=by
 have hi:i<L.length:=(aeh.1 hL).1;have hset:∀ c,(L.set i c)[i]?=some c:=fun c=>by simp [hi]
 have hone':=ael.1 hone;have ho1:∀ j,(C.drop j).all AV.one=true:=fun j=>ael.2 fun a ha=>hone' a (afU ha)
 have hsp:=Qr (C:=C) (rest:=rest) (z:=[.str []]) (k:=k) (m:=1) rfl (by omega);replace hone':=hid hone';refine af iB (by simp [db]) ?_;simp only [db,aq];refine T9 0 rfl fun cp hcp=>?_
 have g1:¬ (k:Int)=(k:Int)+1:=by omega
 have hd:List.take (n - (k+1)) (List.drop (k+1) (C++rest))=C.drop (k+1):=by
  rw [afA (by omega),aeY (by simp;omega),aeV (by simp;omega)]
 have e1:((k:Int)+1).toNat=k+1:=by omega
 have e2:((k:Int)+((n - (k+1):Nat):Int)).toNat=n - 1:=by omega
 have e3:n - (n - 1)=1:=by omega
 have e4:de [AV.str []] 1=[AV.str []]:=rfl;have e5:k+(n - (k+1))=n - 1:=by omega
 have e6:([AV.str []]:List AV).length=1:=rfl;have e7:n - 1<=cp:=by omega
 simp only [cq,aeu,hC,e6,aeT,aeR] at hsp;have hl:n - 1+1<=(List.take k (C++rest)).length+((C.drop (k+1)).length+(List.drop (k+(C.drop (k+1)).length) (C++rest)).length):=by simp;omega
 rw [aeu] at h;replace h:=hid h;replace hsp:=hid hsp
 repeat' first
  | refine aY ?_
  | (first|refine aO (by kernel_rfl) ?_|refine aA (by kernel_rfl) ?_|refine aB ?_|refine bw ?_|refine a6 (fun _=>?_)|refine ax ?_|refine aR ?_)
    simp (config:={ maxSteps:=2000000 }) only [afp,Kon,push_cast,reduceIte,Nat.reduceEqDiff,Nat.reduceAdd,Nat.reduceMul,Nat.reduceSub,Nat.reduceLT,Nat.reduceLeDiff,Int.reduceLT,Int.reduceLE,Int.reduceAdd,Int.reduceSub,Int.reduceNeg,Int.reduceToNat,Int.reduceEq,reduceCtorEq, *]
  | (first|refine aK (by kernel_rfl) ?_|refine aP ?_|refine aQ ?_|refine bd (aw ?_))
    refine sl ?_
  | exact a7
  | first|apply a8|apply aL|apply ba|apply aM|apply bc|apply aN
  | refine aE ?_
  | first|refine aC rfl ?_|refine aD rfl ?_|refine ap rfl ?_ ?_|refine aG rfl (fun _=>?_) (fun _=>?_)|refine aF rfl (fun _=>?_) (fun _=>?_)
  | ((first|refine ao (fun _=>?_) (fun _=>?_)|refine au (fun _=>?_) (fun _=>?_))<;>try simp (config:={ maxSteps:=2000000 }) only [afp,Kon,push_cast,reduceIte,Nat.reduceEqDiff,Nat.reduceAdd,Nat.reduceMul,Nat.reduceSub,Nat.reduceLT,Nat.reduceLeDiff,Int.reduceLT,Int.reduceLE,Int.reduceAdd,Int.reduceSub,Int.reduceNeg,Int.reduceToNat,Int.reduceEq,reduceCtorEq, *])
  | refine And.intro trivial ?_
  | refine And.intro (by omega) ?_
  | refine aI rfl (fun _=>?_) (fun _=>?_)
  | refine And.intro ?_ ?_
 rw [hsp.out];refine N3 (ac ?_);exact h.out
theorem adc {C:List AV} {n k:Nat} {i:Nat} {rest:List AV} (hn:n<=1100000) (hk:k<n) (hC:C.length=n * 2) (hone:C.all AV.one=true) (hL:L[i]?=some (.cells (C++rest)))
  (h:K (.lsl i 0 (n - 1) none 2) (L.set i (.cells (C.take (k * 2)++C.drop ((k+1) * 2)++([.str [],.sl [] 0 (some 0)]++rest))))) :
  aee 87 [.lsl i 0 n none 2,.int .i64 k,.int .i64 ((k:Int)+1)] L K:=by
 have hi:i<L.length:=(aeh.1 hL).1;have hset:∀ c,(L.set i c)[i]?=some c:=fun c=>by simp [hi]
 have hone':=ael.1 hone;have ho1:∀ j,(C.drop j).all AV.one=true:=fun j=>ael.2 fun a ha=>hone' a (afU ha)
 have hsp:=Qr (C:=C) (rest:=rest) (z:=[.str [],.sl [] 0 (some 0)]) (k:=k * 2) (m:=2) rfl (by omega);replace hone':=hid hone';refine af gD (by simp [cA]) ?_;simp only [cA,aq];refine T9 0 rfl fun cp hcp=>?_
 have g1:¬ (k:Int)=(k:Int)+1:=by omega
 have hd:List.take ((n - (k+1)) * 2) (List.drop ((k+1) * 2) (C++rest))=C.drop ((k+1) * 2):=by
  rw [afA (by omega),aeY (by simp;omega),aeV (by simp;omega)]
 have e1:((k:Int)+1).toNat=k+1:=by omega
 have e2:((k:Int)+((n - (k+1):Nat):Int)).toNat=n - 1:=by omega
 have e3:n - (n - 1)=1:=by omega
 have e4:de [AV.str [],.sl [] 0 (some 0)] 1=[AV.str [],.sl [] 0 (some 0)]:=rfl;have e5:k+(n - (k+1))=n - 1:=by omega
 have e6:([AV.str [],.sl [] 0 (some 0)]:List AV).length=2:=rfl;have e7:n - 1<=cp:=by omega
 rw [hC,show n * 2 - 2=(n - 1) * 2 by omega,show k * 2+2=(k+1) * 2 by omega] at hsp;simp only [cq,aeu,e6,aeT,aeR] at hsp;have hl:((n - 1)+1) * 2<=(List.take (k * 2) (C++rest)).length+((C.drop ((k+1) * 2)).length+(List.drop (k * 2+(C.drop ((k+1) * 2)).length) (C++rest)).length):=by simp;omega
 rw [aeu] at h;replace h:=hid h;replace hsp:=hid hsp
 repeat' first
  | refine aY ?_
  | (first|refine aO (by kernel_rfl) ?_|refine aA (by kernel_rfl) ?_|refine aB ?_|refine bw ?_|refine a6 (fun _=>?_)|refine ax ?_|refine aR ?_)
    simp (config:={ maxSteps:=2000000 }) only [afp,Kon,push_cast,reduceIte,Nat.reduceEqDiff,Nat.reduceAdd,Nat.reduceMul,Nat.reduceSub,Nat.reduceLT,Nat.reduceLeDiff,Int.reduceLT,Int.reduceLE,Int.reduceAdd,Int.reduceSub,Int.reduceNeg,Int.reduceToNat,Int.reduceEq,reduceCtorEq, *]
  | (first|refine aK (by kernel_rfl) ?_|refine aP ?_|refine aQ ?_|refine bd (aw ?_))
    refine sl ?_
  | exact a7
  | first|apply a8|apply aL|apply ba|apply aM|apply bc|apply aN
  | refine aE ?_
  | first|refine aC rfl ?_|refine aD rfl ?_|refine ap rfl ?_ ?_|refine aG rfl (fun _=>?_) (fun _=>?_)|refine aF rfl (fun _=>?_) (fun _=>?_)
  | ((first|refine ao (fun _=>?_) (fun _=>?_)|refine au (fun _=>?_) (fun _=>?_))<;>try simp (config:={ maxSteps:=2000000 }) only [afp,Kon,push_cast,reduceIte,Nat.reduceEqDiff,Nat.reduceAdd,Nat.reduceMul,Nat.reduceSub,Nat.reduceLT,Nat.reduceLeDiff,Int.reduceLT,Int.reduceLE,Int.reduceAdd,Int.reduceSub,Int.reduceNeg,Int.reduceToNat,Int.reduceEq,reduceCtorEq, *])
  | refine And.intro trivial ?_
  | refine And.intro (by omega) ?_
  | refine aI rfl (fun _=>?_) (fun _=>?_)
  | refine And.intro ?_ ?_
 rw [hsp.out];refine N3 (ac ?_);exact h.out
theorem adb {u:List (List UInt8)} {k:Nat} {i:Nat} {rest:List AV} (hn:u.length<=1100000) (hk:k<u.length) (hL:L[i]?=some (.cells (u.map AV.str++rest)))
  (h:K (.lsl i 0 (u.length - 1) none 1) (L.set i (.cells ((u.eraseIdx k).map AV.str++(.str []::rest))))) :
  aee 106 [.lsl i 0 u.length none 1,.int .i64 k,.int .i64 ((k:Int)+1)] L K:=by
 refine ada hn hk (by simp) (NB u) hL ?_;rw [acl,lU];exact h
theorem aag {ps:List PAt} {k:Nat} {i:Nat} {rest:List AV} (hn:ps.length<=1100000) (hk:k<ps.length) (hL:L[i]?=some (.cells (psC ps++rest)))
  (h:K (.lsl i 0 (ps.length - 1) none 2) (L.set i (.cells (psC (ps.eraseIdx k)++(.str [] :: .sl [] 0 (some 0)::rest))))) :
  aee 87 [.lsl i 0 ps.length none 2,.int .i64 k,.int .i64 ((k:Int)+1)] L K:=by
 refine adc hn hk (fq ps) (WS ps) hL ?_;rw [QH,Nt,<- Tl,acl];exact h
theorem Wq {syn:Int} {l:List (List UInt8)} {v:List UInt8} {vs:List (List UInt8)} (h:ci syn v=none):hG syn l (v::vs)=([],21):=by rw [hG,h]
theorem Wp {syn:Int} {l:List (List UInt8)} {v n:List UInt8} {vs:List (List UInt8)} (h:ci syn v=some n):hG syn l (v::vs)=if inM syn l n=false then ([],16) else hG syn (l.filter fun x=>decide (bP syn x≠n)) vs:=by rw [hG,h]
theorem XW {syn:Int} {u:List (List UInt8)} {n:List UInt8} (hu:InV syn u) (hf:lP (bP syn) u n=true) :
  bQ (bP syn) u n<u.length/\(u.filter fun x=>decide (bP syn x≠n))=u.eraseIdx (bQ (bP syn) u n)/\InV syn (u.eraseIdx (bQ (bP syn) u n)):=by
 have h0:=jv (key:=bP syn) (k:=n) hu.1 (d:=[]);rw [hf] at h0;obtain ⟨h1,h2⟩:=(aek _ _).mp h0.symm;have h3:bQ (bP syn) u n<u.length:=by simpa using h1
 have h4:bP syn u[bQ (bP syn) u n]=n:=by
  have:=of_decide_eq_true h2;simpa [h3] using this
 have he:=ux hu.1 u[bQ (bP syn) u n] (by simp [h3]) h4;refine ⟨h3,he,?_⟩;rw [<- he];exact ⟨hu.1.filter _,fun x hx=>hu.2 x (afv.1 hx).1⟩
theorem W4 {l:List Atr} {n:List UInt8} (hr:fI bq l) (h:lP bq l (aa n)=true):fp n [] true l=l.eraseIdx (bQ bq l (aa n)):=by
 rw [gV];rw [jv hr (d:=([],[])),aek,decide_eq_true_eq,decide_eq_true_eq] at h;obtain ⟨hc,h⟩:=h;exact ux hr l[bQ bq l (aa n)] (by simp [hc]) (by simpa [hc] using h)
theorem gr.less {L L2:List Blk} {b p c r:Nat} {s1 s2:AV} {ps:List PAt} {rest:List AV} (h:gr L b p s1 s2 ps) (hc:c<ps.length) (hkeep:∀ q∈ps,q.1≠(ps.getD c noP).1->L2[q.1]?=L[q.1]?)
  (hLp:L2[p]?=some (.cells [s1,s2,.lsl r 0 (ps.length - 1) none 2])) (hLr:L2[r]?=some (.cells (psC (ps.eraseIdx c)++rest))) (hbr:b<=r) (hrp:r≠p) (hqr:∀ q∈ps,q.1≠r) :
  gr L2 b p s1 s2 (ps.eraseIdx c):=by
 obtain ⟨g1,g2,g3,g4⟩:=h;have hcg:ps[c]?=some (ps.getD c noP):=by simp [hc]
 have hm:∀ q∈ps.eraseIdx c,q∈ps/\q.1≠(ps.getD c noP).1:=fun q hq=>by
  obtain ⟨i,hi,e⟩:=List.mem_eraseIdx_iff_getElem?.1 hq;exact ⟨aeQ e,Tw g2 e hcg hi⟩
 refine ⟨g1,g2.sublist ((List.eraseIdx_sublist ps c).map _),fun q hq=>?_,.inr ⟨r,rest,?_,hLr,hbr,hrp,fun q hq=>hqr q (hm q hq).1⟩⟩
 ·obtain ⟨h1,h2⟩:=hm q hq;obtain ⟨q1,q2,qr,q3⟩:=g3 q h1;exact ⟨q1,q2,qr,by rw [hkeep q h1 h2];exact q3⟩
 ·rw [aha hc];exact hLp
theorem abM {ty:Typ} {vs:List (List UInt8)} {capV:Option Nat} {b p:Nat} {s1 s2:AV} {ps:List PAt} {L:List Blk} (hb:b<=L.length) (hH:gr L b p s1 s2 ps) (hl:ps.length<=1100000)
  (hz:∀ q∈ps,am q.2.1/\q.2.2.length<=1100000/\q.2.2≠[]) (hvs:vs.length<=1100000) (hty:am ty.1) (hr:fI bq (ps.map (·.2))) (hin:∀ q∈ps,aa q.2.1=aa ty.1->q.2.1=ty.1/\InV ty.2.1 q.2.2)
  {R:List (List UInt8)×Int} (hR:hG ty.2.1 (bu (ps.map (·.2)) ty.1) vs=R) {K:aef}
  (h:∀ (code:Int) (L':List Blk),Kpt b L L'->code=(if vs=[]/\bu (ps.map (·.2)) ty.1=[] then 16 else R.2)->(code=0->∃ ps',gr L' b p s1 s2 ps'/\ps'.map (·.2)=fp ty.1 (if vs=[] then [] else R.1) (if vs=[] then true else R.1.isEmpty) (ps.map (·.2)))->K (.int .i64 code) L') :
  aee 86 [.ptr p 0,.agg (tyC ty),.sl (vs.map AV.str) vs.length capV] L K:=by
 obtain ⟨row,hp,hrow,hcase⟩:=hH.row;obtain ⟨c,hc⟩:=aea (bQ bq (ps.map (·.2)) (aa ty.1));obtain ⟨fd,hfd⟩:=aea (lP bq (ps.map (·.2)) (aa ty.1));have hpl:p<L.length:=(aeh.1 hp).1;have hL1:∀ (i:Nat) (k:Blk),L[i]?=some k->(L++[Blk.cells (tyC ty)])[i]?=some k:=fun i k hk=>by
  rw [aem (aeh.1 hk).1];exact hk
 have hpl1:=hL1 p _ hp;have hpc:∀ {K:aef},K (.tup [.int .i64 c,.bool fd]) (L++[Blk.cells (tyC ty)])->aee 45 [row,.str ty.1] (L++[Blk.cells (tyC ty)]) K:=fun {K} q=>by
  refine Nv (l:=ps.map (·.2)) (C:=psC ps) (by simp;omega) (Tk rfl) ?_ hr hty (fun a ha=>?_) (by rw [hc,hfd];exact q)
  ·rw [aeS];rcases hrow with ⟨cap,e⟩|⟨i,cp,rest,e,hi⟩
   ·exact .inl ⟨cap,e⟩
   ·exact .inr ⟨i,cp,rest,e,hL1 _ _ hi⟩
  ·obtain ⟨q,hq,rfl⟩:=aey.1 ha;exact (hz q hq).1
 replace hpc:=@hid _ @hpc;replace h:=hid h;replace hH:=hid hH;replace hz:=hid hz;replace hin:=hid hin;refine af DF (by simp [gS]) ?_;simp only [gS,aq];have kk1:=@hid _ @hpc.out;have hfc:fd=true->c<ps.length/\aa (ps.getD c noP).2.1=aa ty.1:=fun e=>by
  have h0:=jv (key:=bq) (k:=aa ty.1) hr (d:=([],[]));rw [hfd,hc,e] at h0;have h1:=(aek _ _).mp h0.symm;have h2:c<ps.length:=by simpa using h1.1
  refine ⟨h2,?_⟩;have h3:=of_decide_eq_true h1.2;simpa [h2] using h3
 obtain ⟨u0,hu0⟩:=aea (bu (ps.map (·.2)) ty.1);have hv0:u0=if fd=true then (ps.getD c noP).2.2 else []:=by
  rw [<- hu0,LN hr,hfd,hc];rcases fd with _|_
  ·rfl
  ·obtain ⟨h1,h2⟩:=hfc rfl;simp [h1]
 rw [hu0] at hR h;obtain ⟨cur,hcur⟩:∃ v,v=if fd=true then AV.lsl (ps.getD c noP).1 0 (ps.getD c noP).2.2.length none 1 else .sl [] 0 (some 0):=⟨_,rfl⟩
 clear hu0;replace hv0:=hid hv0;replace hR:=hid hR;replace hcur:=hid hcur
 iterate 5 first
  | refine aY ?_
  | (first|refine aO (by kernel_rfl) ?_|refine aA (by kernel_rfl) ?_|refine aB ?_|refine bw ?_|refine a6 (fun _=>?_)|refine ax ?_|refine aR ?_)
    simp (config:={ maxSteps:=2000000 }) only [Kon,push_cast,reduceIte,Nat.reduceEqDiff,Nat.reduceAdd,Nat.reduceMul,Nat.reduceSub,Nat.reduceLT,Nat.reduceLeDiff,Int.reduceLT,Int.reduceLE,Int.reduceAdd,Int.reduceSub,Int.reduceNeg,Int.reduceToNat,Int.reduceEq,reduceCtorEq, *]
  | (first|refine aK (by kernel_rfl) ?_|refine aP ?_|refine aQ ?_|refine bd (aw ?_))
    simp only [push_cast,reduceIte,Nat.reduceEqDiff,Nat.reduceAdd,Nat.reduceMul,Nat.reduceSub,Nat.reduceLT,Nat.reduceLeDiff,Int.reduceLT,Int.reduceLE,Int.reduceAdd,Int.reduceSub,Int.reduceNeg,Int.reduceToNat,Int.reduceEq,reduceCtorEq, *]
  | exact a7
  | first|apply a8|apply aL|apply ba|apply aM|apply bc|apply aN
  | refine aE ?_
  | first|refine aC rfl ?_|refine aD rfl ?_|refine ap rfl ?_ ?_|refine aG rfl (fun _=>?_) (fun _=>?_)|refine aF rfl (fun _=>?_) (fun _=>?_)
  | ((first|refine ao (fun _=>?_) (fun _=>?_)|refine au (fun _=>?_) (fun _=>?_))<;>try simp (config:={ maxSteps:=2000000 }) only [Kon,push_cast,reduceIte,Nat.reduceEqDiff,Nat.reduceAdd,Nat.reduceMul,Nat.reduceSub,Nat.reduceLT,Nat.reduceLeDiff,Int.reduceLT,Int.reduceLE,Int.reduceAdd,Int.reduceSub,Int.reduceNeg,Int.reduceToNat,Int.reduceEq,reduceCtorEq, *])
  | refine And.intro trivial ?_
  | refine And.intro (by omega) ?_
  | refine aI rfl (fun _=>?_) (fun _=>?_)
  | refine And.intro ?_ ?_
 refine aS (kk1.out ⟨rfl,rfl⟩) ?_;refine sk ?_
 iterate 4 first
  | refine aY ?_
  | (first|refine aO (by kernel_rfl) ?_|refine aA (by kernel_rfl) ?_|refine aB ?_|refine bw ?_|refine a6 (fun _=>?_)|refine ax ?_|refine aR ?_)
    simp (config:={ maxSteps:=2000000 }) only [Kon,push_cast,reduceIte,Nat.reduceEqDiff,Nat.reduceAdd,Nat.reduceMul,Nat.reduceSub,Nat.reduceLT,Nat.reduceLeDiff,Int.reduceLT,Int.reduceLE,Int.reduceAdd,Int.reduceSub,Int.reduceNeg,Int.reduceToNat,Int.reduceEq,reduceCtorEq, *]
  | (first|refine aK (by kernel_rfl) ?_|refine aP ?_|refine aQ ?_|refine bd (aw ?_))
    simp only [push_cast,reduceIte,Nat.reduceEqDiff,Nat.reduceAdd,Nat.reduceMul,Nat.reduceSub,Nat.reduceLT,Nat.reduceLeDiff,Int.reduceLT,Int.reduceLE,Int.reduceAdd,Int.reduceSub,Int.reduceNeg,Int.reduceToNat,Int.reduceEq,reduceCtorEq, *]
  | exact a7
  | first|apply a8|apply aL|apply ba|apply aM|apply bc|apply aN
  | refine aE ?_
  | first|refine aC rfl ?_|refine aD rfl ?_|refine ap rfl ?_ ?_|refine aG rfl (fun _=>?_) (fun _=>?_)|refine aF rfl (fun _=>?_) (fun _=>?_)
  | ((first|refine ao (fun _=>?_) (fun _=>?_)|refine au (fun _=>?_) (fun _=>?_))<;>try simp (config:={ maxSteps:=2000000 }) only [Kon,push_cast,reduceIte,Nat.reduceEqDiff,Nat.reduceAdd,Nat.reduceMul,Nat.reduceSub,Nat.reduceLT,Nat.reduceLeDiff,Int.reduceLT,Int.reduceLE,Int.reduceAdd,Int.reduceSub,Int.reduceNeg,Int.reduceToNat,Int.reduceEq,reduceCtorEq, *])
  | refine And.intro trivial ?_
  | refine And.intro (by omega) ?_
  | refine aI rfl (fun _=>?_) (fun _=>?_)
  | refine And.intro ?_ ?_
 refine uW (fun T2 L2=>T2=[(9,cur),(8,.bool fd),(7,.int .i64 c),(4,.ptr L.length 0),(0,.ptr p 0),(2,.sl (vs.map AV.str) vs.length capV)]/\L2=L++[Blk.cells (tyC ty)]) ?_ ?_
 ·rcases fd with _|_
  ·have hcur:=hcur.out;rw [if_neg (by simp)] at hcur;subst hcur;clear hfc hcase hv0 hH hin hz;refine wk ?_;exact gT _ _ (CutL (b:=by simp)) ⟨rfl,rfl⟩
  ·obtain ⟨h1,h2⟩:=hfc rfl;have hcur:=hcur.out;rw [if_pos rfl] at hcur;rcases hcase with ⟨_,rfl⟩|⟨r,rest,rfl,hLr,_⟩
   ·simp at h1
   have hLr1:=hL1 r _ hLr;have e5:=WT h1 rest;rw [<- hcur] at e5;have e6:(c:Int)<(ps.length:Int):=by omega
   have e7:c * 2+1<(psC ps).length+rest.length:=by rw [fq];omega
   clear hfc hv0 hH hin hz h2 hcur hLr hL1 hpc kk1 hrow hp;refine wk ?_;exact gT _ _ (CutL (b:=by simp)) ⟨rfl,rfl⟩
 rintro _ _ ⟨rfl,rfl⟩ -;have hhold:=hH.out;obtain ⟨hbp,hnd,hps,hrw⟩:=hhold;obtain ⟨jat,hjat⟩:∃ j,j=if fd=true then (ps.getD c noP).1 else L.length+1:=⟨_,rfl⟩
 have hpj:p≠jat/\L.length≠jat/\b<=jat:=by
  rw [hjat];rcases fd with _|_
  ·simp;omega
  ·obtain ⟨h1,_⟩:=hfc rfl;have:=hps (ps.getD c noP) (by simp [h1]);rw [if_pos rfl];obtain ⟨q1,q2,rest,q3⟩:=this;have:=(aeh.1 q3).1;omega
 replace hjat:=hid hjat;replace hps:=hid hps;replace hrw:=hid hrw;replace hnd:=hid hnd;replace hfc:=hid hfc;replace hcase:=hid hcase;replace hrow:=hid hrow;obtain ⟨hpj1,hpj2,hpj3⟩:=hpj;refine wk ?_;refine ai (fun n T' L'=>∃ (i:Nat) (u:List (List UInt8)) (w:AV),n=vs.length - i/\i<=vs.length/\u.length<=u0.length/\Hid (hG ty.2.1 u (vs.drop i)=R)/\Hid (InV ty.2.1 u)/\T'=[(36,.int .i64 (i:Int)),(35,.int .i64 vs.length),(34,.sl (vs.map AV.str) vs.length capV),(9,w),(8,.bool fd),(7,.int .i64 c),(4,.ptr L.length 0),(0,.ptr p 0),(2,.sl (vs.map AV.str) vs.length capV)] /\
  L.length+1<=L'.length/\(∀ k,k<L.length+1->k≠jat->L'[k]?=(L++[Blk.cells (tyC ty)])[k]?)/\((w=.sl [] 0 (some 0)/\u=[]/\fd=false/\i=0)\/∃ rest,w=.lsl jat 0 u.length none 1/\fd=true/\L'[jat]?=some (.cells (u.map AV.str++rest))))
  (CutS (b:=by simp)) ⟨0,u0,cur,rfl,aej _,aeg _,hid (by simpa using hR.out),hid ?_,rfl,by simp,fun _ _ _=>rfl,?_⟩ ?_
 ·rw [hv0.out];rcases fd with _|_
  ·exact ⟨List.Pairwise.nil,fun v hv=>by cases hv⟩
  ·obtain ⟨h1,h2⟩:=hfc.out rfl;exact (hin.out (ps.getD c noP) (by simp [h1]) h2).2
 ·have hv:=hv0.out;have hcu:=hcur.out;have hja:=hjat.out;rcases fd with _|_
  ·exact .inl ⟨by simpa using hcu,by simpa using hv,rfl,rfl⟩
  ·obtain ⟨h1,h2⟩:=hfc.out rfl;rw [if_pos rfl] at hv hcu hja;have hm:ps.getD c noP∈ps:=by simp [h1]
   obtain ⟨_,_,rest,q3⟩:=hps.out _ hm;exact .inr ⟨rest,by rw [hcu,hja,hv],rfl,by rw [hja,hv];exact hL1 _ _ q3⟩
 rintro _ _ L' ⟨i,u,w,rfl,hi,hul,hI,hu,rfl,hlen,hfr,hw⟩;replace hfr:=hid hfr;have hty4:L'[L.length]?=some (.cells (tyC ty)):=by
  rw [hfr.out _ (by omega) hpj2];simp
 have hu0l:u0.length<=1100000:=by
  rw [hv0.out];rcases fd with _|_
  ·simp
  ·obtain ⟨h1,_⟩:=hfc.out rfl;have:=(hz.out (ps.getD c noP) (by simp [h1])).2.1;simpa using this
 have hkp:Kpt b L L':=⟨by omega,fun k hk=>by rw [hfr.out k (by omega) (by omega),aem (by omega)]⟩;replace hkp:=hid hkp;simp only [tyC] at hty4;by_cases hlt:i<vs.length
 ·have hvne:vs≠[]:=fun e=>by rw [e] at hlt;simp at hlt
  have hh:∀ (code:Int) (L':List Blk),Kpt b L L'->code=R.2->(code=0->False)->K (.int .i64 code) L':=fun code L' h1 h2 h3=>h.out code L' h1 (by rw [if_neg (fun e=>hvne e.1)];exact h2) (fun e=>(h3 e).elim)
  replace hh:=hid hh;have g1:(i:Int)<(vs.length:Int):=by omega
  have g2:=aec i (by omega);obtain ⟨v,hv⟩:=aea (vs.getD i []);have g3:(vs.map AV.str).getD i .undef=.str v:=by rw [<- hv];simp [hlt]
  have hdr:vs.drop i=v::vs.drop (i+1):=by rw [aeH hlt,<- hv];simp [hlt]
  have hI2:=hI.out;rw [hdr] at hI2;have hu1:u.length<=1100000:=by omega
  have hrow':Vs L' (u.map AV.str) u.length 1 w:=by
   rcases hw with ⟨rfl,rfl,_⟩|⟨rest,rfl,_,h1⟩
   ·exact .inl ⟨_,rfl⟩
   ·exact .inr ⟨jat,none,rest,rfl,h1⟩
  have hval:∀ {K:aef},K (Ud ty.2.1 u v) L'->aee 53 [.agg [.str ty.1,.int .i64 ty.2.1,.bool ty.2.2.1,.bool ty.2.2.2],w,.str v] L' K:=fun q=>Q8 hu1 hrow' hu.out.1 q
  replace hval:=@hid _ @hval;replace hw:=hid hw;replace hrow':=hid hrow';clear hv hdr hI hfc hjat hps hrw hnd hH hz hin hv0 hcur hcase hpc kk1 hR h hvne;refine wk ?_;refine hval.out ?_;unfold Ud;rcases hn:ci ty.2.1 v with _|n
  ·rw [Wq hn] at hI2;have hf:=hh.out 21 L' hkp.out (by rw [<- hI2]) (fun e=>by cases e);replace hf:=hid hf;simp only;clear hI2 hn hw;refine sk ?_;refine wk ?_;exact ac hf.out
  rw [Wp hn] at hI2;simp only;rcases hfn:lP (bP ty.2.1) u n with _|_
  ·rw [if_pos (show inM ty.2.1 u n=false from hfn)] at hI2;have hf:=hh.out 16 L' hkp.out (by rw [<- hI2]) (fun e=>by cases e);replace hf:=hid hf;clear hI2 hn hw hfn;refine sk ?_;refine wk ?_;exact ac hf.out
  have hfn':inM ty.2.1 u n=true:=hfn;rw [if_neg (by rw [hfn'];simp)] at hI2;obtain ⟨hck,hmo,hu'⟩:=XW hu.out hfn;rw [hmo] at hI2;obtain ⟨k,hk⟩:=aea (bQ (bP ty.2.1) u n);rw [hk] at hI2 hu' hck ⊢;replace hI2:=hid hI2;replace hu':=hid hu';clear hfn' hfn hn hmo hk;rcases hw.out with ⟨rfl,rfl,_⟩|⟨rest,rfl,rfl,hLj⟩
  ·simp at hck
  have hjl:jat<L'.length:=(aeh.1 hLj).1;have g4:=aec k (by omega);have kk1:Hid (∀ {K:aef},K (.lsl jat 0 (u.length - 1) none 1) (L'.set jat (.cells ((u.eraseIdx k).map AV.str++(.str []::rest))))->aee 106 [.lsl jat 0 u.length none 1,.int .i64 (k:Nat),.int .i64 ((k:Int)+1)] L' K):=hid fun q=>adb hu1 hck hLj q
  obtain ⟨u',hu'e⟩:=aea (u.eraseIdx k);have hu'l:u.length - 1=u'.length:=by rw [<- hu'e,aha hck]
  rw [hu'e] at kk1 hI2 hu';rw [hu'l] at kk1;clear hu'e;refine sk ?_;refine wk ?_;refine ag _ _ _ (by omega) (CutL (b:=by simp;omega)) ⟨i+1,u',.lsl jat 0 u'.length none 1,rfl,hlt,by omega,hI2,hu',rfl,by simp;omega,fun k hk hkj=>?_,.inr ⟨.str []::rest,rfl,?_⟩⟩
  ·rw [aeA (by omega)];exact hfr.out k hk hkj
  ·simp [hjl]
 ·have hke:i=vs.length:=by omega
  subst hke;have g1:¬ (vs.length:Int)<(vs.length:Int):=by omega
  have hI2:=hI.out;rw [aeC,hG] at hI2;rcases hw with ⟨rfl,rfl,rfl,hv00⟩|⟨rest,rfl,rfl,hLj⟩
  ·have hvn:vs=[]:=ae3.1 hv00;have hu00:u0=[]:=by rw [hv0.out];simp
   have hf:=h.out 16 L' hkp.out (by rw [if_pos ⟨hvn,hu00⟩]) (fun e=>by cases e);replace hf:=hid hf;clear hI hI2 hfc hjat hps hrw hnd hH hz hin hv0 hcur hcase hpc kk1 hR h hvn hv00;refine wk ?_;exact ac hf.out
  obtain ⟨h1,h2⟩:=hfc.out rfl;have hjj:jat=(ps.getD c noP).1:=by rw [hjat.out];simp
  have hu00:u0≠[]:=by
   rw [hv0.out,if_pos rfl];exact (hz.out (ps.getD c noP) (by simp [h1])).2.2
  have hh:∀ (L':List Blk),Kpt b L L'->(∃ ps',gr L' b p s1 s2 ps'/\ps'.map (·.2)=fp ty.1 (if vs=[] then [] else u) (if vs=[] then true else u.isEmpty) (ps.map (·.2)))->K (.int .i64 0) L':=fun L' h1 h2=>h.out 0 L' h1 (by rw [if_neg (fun e=>hu00 e.2),<- hI2]) (fun _=>by rw [<- hI2];exact h2)
  replace hh:=hid hh;rcases hrw.out with ⟨_,e⟩|⟨r,rest2,hLp,hLr,hbr,hrp,hqr⟩
  ·rw [e] at h1;simp at h1
  have hm:ps.getD c noP∈ps:=by simp [h1]
  have hrj:r≠jat:=by rw [hjj];exact (hqr _ hm).symm
  have hrl:r<L.length:=(aeh.1 hLr).1;have hLp':L'[p]?=some (.cells [s1,s2,.lsl r 0 ps.length none 2]):=by rw [hfr.out p (by omega) hpj1];exact hL1 _ _ hLp
  have hLr':L'[r]?=some (.cells (psC ps++rest2)):=by rw [hfr.out r (by omega) hrj];exact hL1 _ _ hLr
  have e6:(c:Int)<(ps.length:Int):=by omega
  have e7:c * 2+1+1<=(psC ps).length+rest2.length:=by rw [fq];omega
  have hpl':p<L'.length:=by omega
  have hnm:=(hin.out _ hm h2).1;replace hnm:=hid hnm;replace hLp:=hid hLp;replace hLr:=hid hLr;replace hqr:=hid hqr;replace hpl1:=hid hpl1;replace hp:=hid hp;replace h2:=hid h2;replace hu:=hid hu;by_cases hgo:vs=[]\/u=[]
  ·have gg:(decide ((vs.length:Int)=0) || decide ((u.length:Int)=0))=true:=by
    rcases hgo with rfl|rfl<;>simp
   have g4:=aec c (by omega);have kk1:Hid (∀ {K:aef},K (.lsl r 0 (ps.length - 1) none 2) (L'.set r (.cells (psC (ps.eraseIdx c)++(.str [] :: .sl [] 0 (some 0)::rest2))))->aee 87 [.lsl r 0 ps.length none 2,.int .i64 (c:Nat),.int .i64 ((c:Int)+1)] L' K):=hid fun q=>aag hl h1 hLr' q
   have ep:∀ Y:Blk,(L'.set r Y)[p]?=some (.cells [s1,s2,.lsl r 0 ps.length none 2]):=fun Y=>by rw [aeA hrp];exact hLp'
   have hfin:Hid (K (.int .i64 0) ((L'.set r (.cells (psC (ps.eraseIdx c)++(.str [] :: .sl [] 0 (some 0)::rest2)))).set p (.cells [s1,s2,.lsl r 0 (ps.length - 1) none 2]))):=hid (hh.out _ (hkp.out.trans ⟨by simp;omega,fun k hk=>by rw [aeA (by omega),aeA (by omega)]⟩) ⟨ps.eraseIdx c,?_,?_⟩);rotate_left
   ·refine gr.less (r:=r) (rest:=.str [] :: .sl [] 0 (some 0)::rest2) hH.out h1 (fun q hq hqn=>?_) ?_ ?_ hbr hrp hqr.out
    ·obtain ⟨_,q2,_,q3⟩:=hps.out q hq;have:=(aeh.1 q3).1;rw [aeA (Ne.symm q2),aeA (Ne.symm (hqr.out q hq)),hfr.out _ (by omega) (by rw [hjj];exact hqn),aem this]
    ·rw [agt (by simpa using hpl')]
    ·rw [aeA (Ne.symm hrp),agt (by omega)]
   ·have e1:(if vs=[] then [] else u)=[]:=by
     rcases hgo with e|e
     ·rw [if_pos e]
     ·rw [e];simp
    have e2:(if vs=[] then true else u.isEmpty)=true:=by
     rcases hgo with e|e
     ·rw [if_pos e]
     ·rw [e];simp
    rw [e1,e2,W4 hr hfd,hc,lU]
   clear hfc hpc hcase hrow hcur hI hI2 hjat hps hrw hnd hH hz hin hv0 hR h hh hgo hu00 h2;refine wk ?_;exact ac hfin.out
  ·have hv1:vs≠[]:=fun e=>hgo (.inl e)
   have hu1:u≠[]:=fun e=>hgo (.inr e)
   have q1:¬ (vs.length:Int)=0:=fun e=>hv1 (ae3.1 (by omega))
   have q2:¬ (u.length:Int)=0:=fun e=>hu1 (ae3.1 (by omega))
   replace hv1:=hid hv1;replace hu1:=hid hu1;replace hLj:=hid hLj;replace hjj:=hid hjj;clear hgo;clear hfc kk1 hpc;refine wk ?_;have e8:(psC ps++rest2).take (c * 2+1)++AV.lsl jat 0 u.length none 1::(psC ps++rest2).drop (c * 2+1+1)=psC (ps.set c (jat,(ps.getD c noP).2.1,u))++rest2:=by
    rw [<- Tj _ _ _ _ h1,List.set_eq_take_append_cons_drop,if_pos (by rw [fq];omega),aeY (by rw [fq];omega),afA (by rw [fq];omega)];simp
   rw [e8];refine ac (hh.out _ (hkp.out.trans ⟨by simp;omega,fun k hk=>by rw [aeA (by omega)]⟩) ⟨_,hH.out.vals (l0:=L.length+1) h1 (by omega) hjj.out (fun k hk hkj=>?_) (.inl rfl) hLj.out hLp.out hLr.out hbr hrp hqr.out rfl,?_⟩)
   ·by_cases hkl:k<L.length
    ·exact .inl (by rw [hfr.out k hk hkj,aem hkl])
    ·exact .inr (by omega)
   ·have hem:u.isEmpty=false:=by simpa using hu1.out
    rw [if_neg hv1.out,if_neg hv1.out,hnm.out,List.map_set];simp only;rw [hem,VG hr hfd,hc]
theorem YL (n:List UInt8) (l:List Atr):bu (l.filter fun a=>decide (aa a.1≠aa n)) n=[]:=Uc fun a ha=>by
 have:=(afv.1 ha).2;simpa using this
theorem Q9 {l:List Atr} {n:List UInt8} (hr:fI bq l) (h:lP bq l (aa n)=true):l.eraseIdx (bQ bq l (aa n))=l.filter fun a=>decide (aa a.1≠aa n):=by
 rw [<- W4 hr h,gV]
theorem Y1 {l:List Atr} {n:List UInt8} {vs:List (List UInt8)} (hr:fI bq l) (h:lP bq l (aa n)=true) :
  fp n vs vs.isEmpty (l.eraseIdx (bQ bq l (aa n)))=fp n vs vs.isEmpty l:=by
 have e1:=Q9 hr h;rcases vs with _|⟨v,vs⟩
 ·rw [List.isEmpty_nil,gV,gV,e1,List.filter_filter];simp
 ·rw [List.isEmpty_cons,VG hr h];have h0:=h;rw [jv hr (d:=([],[])),aek,decide_eq_true_eq,decide_eq_true_eq] at h0;obtain ⟨hc,h1⟩:=h0;have hg:l[bQ bq l (aa n)]?=some l[bQ bq l (aa n)]:=by simp [hc]
  have hr2:fI bq (l.eraseIdx (bQ bq l (aa n))):=by rw [e1];exact hr.filter _
  have hn:lP bq (l.eraseIdx (bQ bq l (aa n))) (aa n)=false:=by
   rw [e1];simp only [lP,afe,decide_eq_true_eq];intro a ha;have:=(afv.1 ha).2;simpa using this
  rw [WM hr2 hn,SN hr _ hg,Ss hc]
abbrev mdC (m:Mdf):List AV:=[.int .i64 m.1,.str m.2.1,.sl (m.2.2.map AV.str) m.2.2.length none]
theorem ac8 {ts:List Typ} {capT:Option Nat} {c2:List AV} {n2:Nat} {cap2:Option Nat} {m:Mdf} {b p:Nat} {ps:List PAt} {L:List Blk} (hts:LI ts) (hb:b<=L.length) (hH:gr L b p (.sl (aW ts) ts.length capT) (.sl c2 n2 cap2) ps) (hl:ps.length+1<=1100000)
  (hin:InA ts (ps.map (·.2))) (hz:∀ q∈ps,q.2.2.length+m.2.2.length<=1100000) (hvs:m.2.2.length<=1100000) (hn:am m.2.1)
  {R:List Atr×Int} (hR:Od ts (ps.map (·.2)) m=R) {K:aef}
  (h:∀ (code:Int) (L':List Blk),Kpt b L L'->code=R.2->(code=0->∃ ps',gr L' b p (.sl (aW ts) ts.length capT) (.sl c2 n2 cap2) ps'/\ps'.map (·.2)=R.1)->K (.int .i64 code) L') :
  aee 60 [.ptr p 0,.agg (mdC m)] L K:=by
 obtain ⟨o,n,vs⟩:=m;simp only at hz hvs hn;simp only [mdC];obtain ⟨row,hp,hrow,hcase⟩:=hH.row;have hpl:p<L.length:=(aeh.1 hp).1;obtain ⟨sT,hsT⟩:=aea (AV.sl (aW ts) ts.length capT);obtain ⟨sC,hsC⟩:=aea (AV.sl c2 n2 cap2);have hfind:∀ (X:List Blk) {K:aef},K (oH (ef ts n)) X->aee 51 [.agg [sT,sC],.str n] X K:=fun X {K} q=>by
  rw [<- hsT,<- hsC];exact TF hts.1 hts.2.1 hn q
 rw [hsT,hsC] at hH hp h;clear hsT hsC;obtain ⟨mc,hmc⟩:=aea ([AV.int .i64 o,.str n,.sl (vs.map AV.str) vs.length none]);have hp1:∀ X:List Blk,(L++X)[p]?=some (.cells [sT,sC,row]):=fun X=>by rw [aem hpl];exact hp
 replace h:=hid h;replace hH:=hid hH;replace hz:=hid hz;replace hin:=hid hin;replace hrow:=hid hrow;replace hcase:=hid hcase;replace hp:=hid hp;replace hmc:=hid hmc;refine af HW (by simp [iE]) ?_;simp only [iE,aq];by_cases ho:o<0\/2<o
 ·have gg:(decide (o<0) || decide (2<o))=true:=by
   rcases ho with e|e
   ·rw [decide_eq_true e,af5]
   ·rw [decide_eq_true e,ago]
  have hf:=h.out 2 (L++[Blk.cells [.int .i64 o,.str n,.sl (vs.map AV.str) vs.length none]]) (Kpt.app hb _) (by rw [<- hR];unfold Od;rw [if_pos ho]) (fun e=>by cases e);replace hf:=hid hf;clear h hR ho hfind;refine wk ?_;exact ac hf.out
 have gg:(decide (o<0) || decide (2<o))=false:=by
  rw [decide_eq_false (fun e=>ho (.inl e)),decide_eq_false (fun e=>ho (.inr e))];rfl
 unfold Od at hR;rw [if_neg ho] at hR;simp only at hR;rcases hty:ef ts n with _|ty
 ·rw [hty] at hR;simp only at hR;have kk1:Hid (Ctr Tryz.prog 51 [.agg [sT,sC],.str n] (.tup [.agg (tyC gk),.bool false])):=hid fun q=>hfind _ (by rw [hty];exact q)
  have hf:=fun (X:List Blk)=>h.out 17 (L++X) (Kpt.app hb _) (by rw [<- hR]) (fun e=>by cases e)
  replace hf:=hid hf;simp only [tyC] at kk1;clear h hR ho hfind hty;refine wk ?_;refine ⟨aS (kk1.out ⟨rfl,rfl⟩) rfl,?_⟩;refine wk ?_;exact ac (hf.out _)
 rw [hty] at hR;simp only at hR;have htn:=lS hty;have htt:=hts.2.2 ty htn.1;have htr:=hts.2.1 ty htn.1;have kk1:Hid (Ctr Tryz.prog 51 [.agg [sT,sC],.str n] (.tup [.agg (tyC ty),.bool true])):=hid fun q=>hfind _ (by rw [hty];exact q)
 simp only [tyC] at kk1;have hvf:bu (ps.map (·.2)) n=bu (ps.map (·.2)) ty.1:=Qm htn.2.symm _;rw [hvf] at hR;have hq:∀ q∈ps,am q.2.1/\q.2.2≠[]:=fun q hq=>Ig hts hin.out (aey.2 ⟨q,hq,rfl⟩)
 replace hts:=hid hts;replace hq:=hid hq;clear hfind hvf;have hkA:∀ X:List Blk,Kpt b L (L++X):=fun X=>Kpt.app hb X
 have hHA:∀ X:List Blk,gr (L++X) b p sT sC ps:=fun X=>hH.out.frame fun k hk=>by rw [aem hk]
 replace hkA:=hid hkA;replace hHA:=hid hHA;replace hR:=hid hR;refine wk ?_;refine ⟨aS (kk1.out ⟨rfl,rfl⟩) rfl,?_⟩;replace hR:=hR.out;by_cases h1:o=1
 ·subst h1;rw [if_pos rfl] at hR;have hdrop:∀ (X:List Blk) {K:aef},(∀ (code:Int) (L3:List Blk),Kpt b L L3->code=R.2->(code=0->∃ ps',gr L3 b p sT sC ps'/\ps'.map (·.2)=R.1)->K (.int .i64 code) L3) ->
    aee 86 [.ptr p 0,.agg [.str ty.1,.int .i64 ty.2.1,.bool ty.2.2.1,.bool ty.2.2.2],.sl (vs.map AV.str) vs.length none] (L++X) K:=fun X {K} q=>by
   refine abM (by simp;omega) (hHA.out X) (by omega) (fun q hq'=>?_) hvs htr hin.out.1 (fun q hq' e=>HC hin.out (aey.2 ⟨q,hq',rfl⟩) htt e) rfl fun code L3 hk3 hc hHd=>?_
   ·have:=hz.out q hq';exact ⟨(hq.out q hq').1,by omega,(hq.out q hq').2⟩
   ·refine q code L3 ((hkA.out X).trans hk3) ?_ fun e=>?_
    ·rw [hc,<- hR];split
     ·rfl
     ·split
      ·rfl
      ·rename_i e;simpa using e
    ·obtain ⟨ps',h1,h2⟩:=hHd e;refine ⟨ps',h1,?_⟩;rw [h2];rw [e] at hc;split at hc
     ·cases hc
     ·rename_i hne
      have e0:=hR;rw [if_neg hne,if_neg (show ¬ (hG ty.2.1 (bu (ps.map (·.2)) ty.1) vs).2≠0 by rw [<- hc];simp)] at e0;rw [<- e0]
  replace hdrop:=@hid _ @hdrop;clear hR hin hts;refine wk ?_;refine hdrop.out _ fun code L3 hk3 hc hHd=>?_
  have hf:=h.out code L3 hk3 hc hHd;replace hf:=hid hf;clear hdrop hk3 hc hHd h;refine sk ?_;refine wk ?_;exact ac hf.out
 rw [if_neg h1] at hR;by_cases h0:o=0
 ·subst h0;by_cases hv:vs=[]
  ·rw [if_pos ⟨rfl,hv⟩] at hR;subst hv;have hf:=fun (X:List Blk)=>h.out 2 (L++X) (Kpt.app hb _) (by rw [<- hR]) (fun e=>by cases e)
   replace hf:=hid hf;clear h hR ho hin hts h1;refine wk ?_;exact ac (hf.out _)
  rw [if_neg (fun e=>hv e.2),if_neg (show ¬ ((0:Int)=2) by decide)] at hR;have g5:¬ (vs.length:Int)=0:=fun e=>hv (ae3.1 (by omega))
  have hadd:∀ (X:List Blk) {K:aef},(∀ (code:Int) (L3:List Blk),Kpt b L L3->code=R.2->(code=0->∃ ps',gr L3 b p sT sC ps'/\ps'.map (·.2)=R.1)->K (.int .i64 code) L3) ->
    aee 88 [.ptr p 0,.agg [.str ty.1,.int .i64 ty.2.1,.bool ty.2.2.1,.bool ty.2.2.2],.sl (vs.map AV.str) vs.length none] (L++X) K:=fun X {K} q=>by
   refine Wo (by simp;omega) (hHA.out X) (by omega) (fun q hq'=>?_) hvs htr hin.out.1 (fun q hq' e=>HC hin.out (aey.2 ⟨q,hq',rfl⟩) htt e) rfl fun code L3 hk3 hc hHd=>?_
   ·have:=hz.out q hq';exact ⟨(hq.out q hq').1,by omega,(hq.out q hq').2⟩
   ·refine q code L3 ((hkA.out X).trans hk3) ?_ fun e=>?_
    ·rw [hc,<- hR];split
     ·rfl
     ·rename_i e;simpa using e
    ·obtain ⟨ps',h1,h2⟩:=hHd e;refine ⟨ps',h1,?_⟩;rw [h2,<- hR,if_neg (by rw [<- hc];simpa using e)]
  replace hadd:=@hid _ @hadd;clear hR hin hts hv h1;refine wk ?_;refine hadd.out _ fun code L3 hk3 hc hHd=>?_
  have hf:=h.out code L3 hk3 hc hHd;replace hf:=hid hf;clear hadd hk3 hc hHd h;refine sk ?_;refine wk ?_;exact ac hf.out
 have h2:o=2:=by omega
 subst h2;rw [if_neg (fun e=>by cases e.1),if_pos rfl] at hR;obtain ⟨c,hc⟩:=aea (bQ bq (ps.map (·.2)) (aa ty.1));obtain ⟨fd,hfd⟩:=aea (lP bq (ps.map (·.2)) (aa ty.1));have hpc:∀ (X:List Blk) {K:aef},K (.tup [.int .i64 c,.bool fd]) (L++X)->aee 45 [row,.str ty.1] (L++X) K:=fun X {K} q=>by
  refine Nv (l:=ps.map (·.2)) (C:=psC ps) (by simp;omega) (Tk rfl) ?_ hin.out.1 htr (fun a ha=>?_) (by rw [hc,hfd];exact q)
  ·rw [aeS];rcases hrow.out with ⟨cap,e⟩|⟨i,cp,rest,e,hi⟩
   ·exact .inl ⟨cap,e⟩
   ·exact .inr ⟨i,cp,rest,e,aeb hi⟩
  ·obtain ⟨q,hq',rfl⟩:=aey.1 ha;exact (hq.out q hq').1
 replace hpc:=@hid _ @hpc;have hv0:fd=false->bu (ps.map (·.2)) ty.1=[]:=fun e=>by rw [LN hin.out.1,hfd,e];simp
 cases fd with
 | false =>
   have hadd:∀ (X:List Blk) {K:aef},(∀ (code:Int) (L3:List Blk),Kpt b L L3->code=R.2->(code=0->∃ ps',gr L3 b p sT sC ps'/\ps'.map (·.2)=R.1)->K (.int .i64 code) L3) ->
     aee 88 [.ptr p 0,.agg [.str ty.1,.int .i64 ty.2.1,.bool ty.2.2.1,.bool ty.2.2.2],.sl (vs.map AV.str) vs.length none] (L++X) K:=fun X {K} q=>by
    refine Wo (by simp;omega) (hHA.out X) (by omega) (fun q hq'=>?_) hvs htr hin.out.1 (fun q hq' e=>HC hin.out (aey.2 ⟨q,hq',rfl⟩) htt e) rfl fun code L3 hk3 hc hHd=>?_
    ·have:=hz.out q hq';exact ⟨(hq.out q hq').1,by omega,(hq.out q hq').2⟩
    ·rw [hv0 rfl] at hc hHd;refine q code L3 ((hkA.out X).trans hk3) ?_ fun e=>?_
     ·rw [hc,<- hR];split
      ·rfl
      ·rename_i e;simpa using e
     ·obtain ⟨ps',h1,h2⟩:=hHd e;refine ⟨ps',h1,?_⟩;rw [h2,<- hR,if_neg (by rw [<- hc];simpa using e)]
   replace hadd:=@hid _ @hadd;have kk2:Hid (∀ {K:aef},K (.tup [.int .i64 c,.bool false]) (L++[Blk.cells [.int .i64 2,.str n,.sl (vs.map AV.str) vs.length none],Blk.cells [.str ty.1,.int .i64 ty.2.1,.bool ty.2.2.1,.bool ty.2.2.2]])->aee 45 [row,.str ty.1] (L++[Blk.cells [.int .i64 2,.str n,.sl (vs.map AV.str) vs.length none],Blk.cells [.str ty.1,.int .i64 ty.2.1,.bool ty.2.2.1,.bool ty.2.2.2]]) K):=hid fun q=>hpc.out _ q
   clear hR hin hts h1 h0 hpc hv0 hc hfd;refine wk ?_;refine hadd.out _ fun code L3 hk3 hc hHd=>?_
   have hf:=h.out code L3 hk3 hc hHd;replace hf:=hid hf;clear hadd hk3 hc hHd h;refine sk ?_;refine wk ?_;exact ac hf.out
 | true =>
   obtain ⟨r,rest2,rfl,hLr,hbr,hrp,hqr⟩:=hcase.out.resolve_left (fun e=>by
    have:=hfd;rw [e.2] at this;cases this)
   have h3:=jv (key:=bq) (k:=aa ty.1) hin.out.1 (d:=([],[]));rw [hfd,hc] at h3;have hcl:c<ps.length:=by simpa using ((aek _ _).mp h3.symm).1
   have hrl:r<L.length:=(aeh.1 hLr).1;have e6:(c:Int)<(ps.length:Int):=by omega
   have g4:=aec c (by omega);obtain ⟨Y,hY⟩:=aea (Blk.cells (psC (ps.eraseIdx c)++(.str [] :: .sl [] 0 (some 0)::rest2)));have hdel:∀ (X:List Blk) {K:aef},K (.lsl r 0 (ps.length - 1) none 2) ((L++X).set r Y)->aee 87 [.lsl r 0 ps.length none 2,.int .i64 (c:Nat),.int .i64 ((c:Int)+1)] (L++X) K:=fun X {K} q=>by
    refine aag (by omega) hcl (by rw [aem hrl];exact hLr) ?_;rw [hY];exact q
   have ep:∀ X:List Blk,((L++X).set r Y)[p]?=some (.cells [sT,sC,.lsl r 0 ps.length none 2]):=fun X=>by rw [aeA hrp,aem hpl];exact hp.out
   have hH2:∀ X:List Blk,gr (((L++X).set r Y).set p (.cells [sT,sC,.lsl r 0 (ps.length - 1) none 2])) b p sT sC (ps.eraseIdx c):=fun X=>by
    obtain ⟨_,_,hps,_⟩:=hH.out;refine gr.less (r:=r) (rest:=.str [] :: .sl [] 0 (some 0)::rest2) hH.out hcl (fun q hq hqn=>?_) ?_ (by rw [aeA (Ne.symm hrp),agt (by simp;omega),<- hY]) hbr hrp hqr
    ·obtain ⟨_,q2,_,q3⟩:=hps q hq;have:=(aeh.1 q3).1;rw [aeA (Ne.symm q2),aeA (Ne.symm (hqr q hq)),aem this]
    ·rw [agt (by simp;omega)]
   have hkY:∀ X:List Blk,Kpt b L (((L++X).set r Y).set p (.cells [sT,sC,.lsl r 0 (ps.length - 1) none 2])):=fun X=>⟨by simp;omega,fun k hk=>by
    have hbp:=hH.out.1;rw [aeA (by omega),aeA (by omega),aem (by omega)]⟩
   have hge:=Q9 hin.out.1 hfd;rw [hc] at hge;have hin2:InA ts ((ps.eraseIdx c).map (·.2)):=by
    rw [<- lU,hge,<- gV];exact TC ty.1 hin.out
   have hval2:bu ((ps.eraseIdx c).map (·.2)) ty.1=[]:=by
    rw [<- lU,hge];exact YL ty.1 _
   have hset2:∀ us:List (List UInt8),fp ty.1 us us.isEmpty ((ps.eraseIdx c).map (·.2))=fp ty.1 us us.isEmpty (ps.map (·.2)):=fun us=>by
    rw [<- lU,<- hc];exact Y1 hin.out.1 hfd
   have hadd:∀ (X:List Blk) {K:aef},(∀ (code:Int) (L3:List Blk),Kpt b L L3->code=R.2->(code=0->∃ ps',gr L3 b p sT sC ps'/\ps'.map (·.2)=R.1)->K (.int .i64 code) L3) ->
     aee 88 [.ptr p 0,.agg [.str ty.1,.int .i64 ty.2.1,.bool ty.2.2.1,.bool ty.2.2.2],.sl (vs.map AV.str) vs.length none] (((L++X).set r Y).set p (.cells [sT,sC,.lsl r 0 (ps.length - 1) none 2])) K:=fun X {K} q=>by
    refine Wo (by simp;omega) (hH2 X) (by rw [aha hcl];omega) (fun q hq'=>?_) hvs htr hin2.1 (fun q hq' e=>HC hin2 (aey.2 ⟨q,hq',rfl⟩) htt e) rfl fun code L3 hk3 hc hHd=>?_
    ·have hm:=List.mem_of_mem_eraseIdx hq';have:=hz.out q hm;exact ⟨(hq.out q hm).1,by omega,(hq.out q hm).2⟩
    ·rw [hval2] at hc hHd;refine q code L3 ((hkY X).trans hk3) ?_ fun e=>?_
     ·rw [hc,<- hR];split
      ·rfl
      ·rename_i e;simpa using e
     ·obtain ⟨ps',h1,h2⟩:=hHd e;refine ⟨ps',h1,?_⟩;rw [h2,hset2,<- hR,if_neg (by rw [<- hc];simpa using e)]
   replace hadd:=@hid _ @hadd;have kk2:Hid (∀ {K:aef},K (.tup [.int .i64 c,.bool true]) (L++[Blk.cells [.int .i64 2,.str n,.sl (vs.map AV.str) vs.length none],Blk.cells [.str ty.1,.int .i64 ty.2.1,.bool ty.2.2.1,.bool ty.2.2.2]])->aee 45 [.lsl r 0 ps.length none 2,.str ty.1] (L++[Blk.cells [.int .i64 2,.str n,.sl (vs.map AV.str) vs.length none],Blk.cells [.str ty.1,.int .i64 ty.2.1,.bool ty.2.2.1,.bool ty.2.2.2]]) K):=hid fun q=>hpc.out _ q
   have kk3:Hid (∀ {K:aef},K (.lsl r 0 (ps.length - 1) none 2) ((L++[Blk.cells [.int .i64 2,.str n,.sl (vs.map AV.str) vs.length none],Blk.cells [.str ty.1,.int .i64 ty.2.1,.bool ty.2.2.1,.bool ty.2.2.2]]).set r Y)->aee 87 [.lsl r 0 ps.length none 2,.int .i64 (c:Nat),.int .i64 ((c:Int)+1)] (L++[Blk.cells [.int .i64 2,.str n,.sl (vs.map AV.str) vs.length none],Blk.cells [.str ty.1,.int .i64 ty.2.1,.bool ty.2.2.1,.bool ty.2.2.2]]) K):=hid fun q=>hdel _ q
   have e1:∀ (X:List Blk) (Z:Blk),(((L++X).set r Y).set p Z)[L.length]?=X[0]?:=fun X Z=>by
    rw [aeA (by omega),aeA (by omega),aes (aeg _),afn]
   have e2:∀ (X:List Blk) (Z:Blk),(((L++X).set r Y).set p Z)[L.length+1]?=X[1]?:=fun X Z=>by
    rw [aeA (by omega),aeA (by omega),aes (by omega)];congr 1;omega
   replace hH2:=hid hH2;replace hkY:=hid hkY;replace hqr:=hid hqr;replace hLr:=hid hLr;clear hR hin hts h1 h0 hpc hv0 hc hfd hge hin2 hval2 hset2 hdel h3 hY;refine wk ?_;refine hadd.out _ fun code L3 hk3 hc hHd=>?_
   have hf:=h.out code L3 hk3 hc hHd;replace hf:=hid hf;clear hadd hk3 hc hHd h;refine sk ?_;refine wk ?_;exact ac hf.out
def Tc (b:Nat) (s:List Blk×List PAt) (a:Atr):List Blk×List PAt :=
 ((if s.2=[] then s.1 else s.1.set (s.1.length - 1) .dead)++[.cells (atA a),.cells (a.2.map AV.str),.cells (psC (s.2++[(b+s.1.length+1,a)]))],s.2++[(b+s.1.length+1,a)])
def twF (b:Nat) (l:List Atr):List Blk×List PAt:=l.foldl (Tc b) ([],[])
theorem Uh (b:Nat) {l:List Atr} {k:Nat} (hk:k<l.length):twF b (l.take (k+1))=Tc b (twF b (l.take k)) (l.getD k ([],[])):=by
 unfold twF;rw [aeL hk,agq];simp [hk]
theorem Td (b:Nat) {l:List Atr}:∀ {k:Nat},k<=l.length->(twF b (l.take k)).1.length=3 * k/\(twF b (l.take k)).2.length=k/\(twF b (l.take k)).2.map (·.2)=l.take k/\((twF b (l.take k)).2.map (·.1)).Nodup /\
  (∀ q∈(twF b (l.take k)).2,b<=q.1/\q.1+1<b+3 * k/\(twF b (l.take k)).1[q.1 - b]?=some (.cells (q.2.2.map AV.str)))/\(k≠0->(twF b (l.take k)).1[3 * k - 1]?=some (.cells (psC (twF b (l.take k)).2)))
 | 0,_=>by simp [twF]
 | k+1,hk=>by
   obtain ⟨h1,h2,h3,h4,h5,h6⟩:=@Td b l k (by omega);rw [Uh b (by omega)];obtain ⟨s,hs⟩:=aea (twF b (l.take k));rw [hs] at h1 h2 h3 h4 h5 h6 ⊢;obtain ⟨X,ps⟩:=s;simp only at h1 h2 h3 h4 h5 h6;obtain ⟨a,ha⟩:=aea (l.getD k ([],[]));rw [ha];obtain ⟨Y,hY⟩:=aea ((if ps=[] then X else X.set (X.length - 1) .dead));have hYl:Y.length=3 * k:=by rw [<- hY];split<;>simp [h1]
   have hYg:∀ i,i+1<3 * k->Y[i]?=X[i]?:=fun i hi=>by
    rw [<- hY];split
    ·rfl
    ·rw [aeA (by omega)]
   simp only [Tc,hY];refine ⟨by simp [hYl];omega,by simp [h2],?_,?_,fun q hq=>?_,fun _=>?_⟩
   ·rw [ae8,h3,aeL (by omega),<- ha];simp [show k<l.length by omega]
   ·rw [ae8,ag1];refine ⟨h4,by simp,fun x hx y hy=>?_⟩;obtain ⟨q,hq,rfl⟩:=aey.1 hx;have:=(h5 q hq).2.1;simp at hy;omega
   ·rcases aeo.1 hq with hq|hq
    ·obtain ⟨q1,q2,q3⟩:=h5 q hq;refine ⟨q1,by omega,?_⟩;rw [aem (by omega),hYg _ (by omega)];exact q3
    ·simp at hq;subst hq;refine ⟨by simp;omega,by simp;omega,?_⟩;rw [aes (by simp;omega),hYl,h1];simp only;rw [show b+3 * k+1 - b - 3 * k=1 by omega];rfl
   ·rw [aes (by omega),hYl,show 3 * (k+1) - 1 - 3 * k=2 by omega];rfl
def twV (b k:Nat):AV:=if k=0 then .sl [] 0 (some 0) else .lsl (b+3 * k - 1) 0 k none 2
theorem acu {l:List Atr} {cap:Option Nat} (hl:l.length<=1100000) (hz:∀ a∈l,a.2≠[]/\a.2.length<=1100000) (h:K (twV L.length l.length) (L++(twF L.length l).1)) :
  aee 59 [.sl (bh l) l.length cap] L K:=by
 replace h:=hid h;refine aed PX ?_;refine ai (fun m T' L'=>∃ (k:Nat) (w:AV) (X:List Blk),m=l.length - k/\k<=l.length/\w=twV L.length k/\X=(twF L.length (l.take k)).1/\T'=[(8,.int .i64 (k:Int)),(7,.int .i64 l.length),(6,.sl (bh l) l.length cap),(3,w)]/\L'=L++X) (CutS (b:=by simp)) ⟨0,_,_,rfl,aej _,rfl,rfl,rfl,by simp [twF]⟩ ?_;rintro _ _ _ ⟨k,w,X,rfl,hk,hw,hX,rfl,rfl⟩;obtain ⟨i1,i2,i3,i4,i5,i6⟩:=Td L.length hk;rw [<- hX] at i1 i5 i6;by_cases hlt:k<l.length
 ·have g1:(k:Int)<(l.length:Int):=by omega
  have g2:=aec k (by omega);have e3:=iH hlt;have e4:k * 2+2<=(bh l).length:=by rw [fZ];omega
  have hsu:=Uh L.length hlt;obtain ⟨⟨nm,vs⟩,ha⟩:∃ a,l.getD k ([],[])=a:=⟨_,rfl⟩;obtain ⟨hvn,hvs⟩:=hz (nm,vs) (by rw [<- ha];simp [hlt]);simp only at hvn hvs;rw [ha] at e3 hsu;simp only [atA] at e3;obtain ⟨ps,hps⟩:=aea ((twF L.length (l.take k)).2);rw [hps] at i2 i6;have hst:twF L.length (l.take k)=(X,ps):=by rw [hX,<- hps]
  rw [hst] at hsu;simp only [Tc,i1] at hsu;have hvl:vs.length≠0:=fun e=>hvn (ae3.1 e)
  have hLX:(L++X).length=L.length+3 * k:=by simp [i1]
  by_cases hk0:k=0
  ·have hp0:ps=[]:=ae3.1 (by omega);have hwv:w=.sl [] 0 (some 0):=by rw [hw,twV,if_pos hk0]
   rw [if_pos hp0,hp0] at hsu;replace hsu:=hid hsu;replace hk0:=hid hk0;subst hwv;clear hw hX hst ha i5 i6 i3 i4 hz hps hp0 i2;replace hLX:=hid hLX;replace i1:=hid i1;refine wk ?_;refine N4 (.lsl (L.length+(X.length+1)) 0 vs.length none 1) (L++(X++[.cells [.str nm,.sl (vs.map AV.str) vs.length none],.cells (vs.map AV.str)])) (Rk (L:=L++(X++[.cells [.str nm,.sl (vs.map AV.str) vs.length none]])) hvl hvs ⟨by simp,by simp⟩) rfl ?_;refine sk ?_;refine wk ?_;exact ag _ _ _ (by omega) (CutL (b:=by simp)) ⟨k+1,.lsl (L.length+(X.length+2)) 0 1 none 2,X++[.cells [.str nm,.sl (vs.map AV.str) vs.length none],.cells (vs.map AV.str),.cells [.str nm,.lsl (L.length+(X.length+1)) 0 vs.length none 1]],rfl,hlt,by
    have e1:=i1.out;have e2:=hk0.out;rw [twV,if_neg (Nat.succ_ne_zero k)]
    congr 1<;>omega,by
    rw [hsu.out,i1.out];simp [psC,pC,aff],rfl,rfl⟩
  ·obtain ⟨jr,hjr⟩:=aea (L.length+3 * k - 1);have hwv:w=.lsl jr 0 k none 2:=by rw [hw,twV,if_neg hk0,hjr]
   have hpn:ps≠[]:=fun e=>by rw [e] at i2;exact hk0 (by simpa using i2.symm)
   rw [if_neg hpn] at hsu;have hget:∀ Y:List Blk,(L++(X++Y))[jr]?=some (.cells (psC ps)):=fun Y=>by
    rw [aes (by omega),aem (by omega),<- hjr,show L.length+3 * k - 1 - L.length=3 * k - 1 by omega];exact i6 hk0
   have e8:List.take (k * 2) (psC ps)=psC ps:=aeV (by rw [fq,i2];exact aeg _);have e9:k * 2<=(psC ps).length:=by rw [fq,i2];exact aeg _
   have hset:∀ (a b c:Blk),(L++(X++[a,b])).set jr .dead++[c]=L++(X.set (X.length - 1) .dead++[a,b,c]):=fun a b c=>by
    rw [ae5 _ _ (by omega),show jr - L.length=X.length - 1 by omega,agD _ _ (by omega)];simp
   replace hset:=hid hset;replace hsu:=hid hsu;replace hk0:=hid hk0;replace hjr:=hid hjr;subst hwv;clear hw hX hst ha i5 i6 i3 i4 hz hps hpn i2;replace hLX:=hid hLX;replace i1:=hid i1;refine wk ?_;refine N4 (.lsl (L.length+(X.length+1)) 0 vs.length none 1) (L++(X++[.cells [.str nm,.sl (vs.map AV.str) vs.length none],.cells (vs.map AV.str)])) (Rk (L:=L++(X++[.cells [.str nm,.sl (vs.map AV.str) vs.length none]])) hvl hvs ⟨by simp,by simp⟩) rfl ?_;refine sk ?_;refine wk ?_;rw [hset.out];exact ag _ _ _ (by omega) (CutL (b:=by simp)) ⟨k+1,.lsl (L.length+(X.length+2)) 0 (k+1) none 2,X.set (X.length - 1) .dead++[.cells [.str nm,.sl (vs.map AV.str) vs.length none],.cells (vs.map AV.str),.cells (psC ps++[.str nm,.lsl (L.length+(X.length+1)) 0 vs.length none 1])],rfl,hlt,by
    have e1:=i1.out;rw [twV,if_neg (Nat.succ_ne_zero k)]
    congr 1;omega,by
    rw [hsu.out,i1.out];simp only [Tl,gi,show psC []=[] from rfl,aff],rfl,rfl⟩
 ·have hke:k=l.length:=by omega
  subst hke;have g1:¬ (l.length:Int)<(l.length:Int):=by omega
  rw [aeE] at hX;subst hw hX;refine wk ?_;exact ac h.out
def mC (ms:List Mdf):List AV:=ms.flatMap mdC
theorem ZC (ms:List Mdf):(mC ms).length=ms.length * 3:=by
 induction ms with
 | nil=>rfl
 | cons a l ih=>simp only [mC,ae4,aeF,mdC,aet,afk] at ih ⊢;omega
abbrev noM:Mdf:=(0,[],[])
theorem WY:∀ {ms:List Mdf} {k:Nat},k<ms.length->((mC ms).drop (k * 3)).take 3=mdC (ms.getD k noM)
 | a::l,0,_=>rfl
 | a::l,k+1,h=>by
   have ih:=@WY l k (by simpa using h);rw [show (k+1) * 3=k * 3+1+1+1 by omega];simpa [mC,mdC] using ih
theorem U6 {syn:Int}:∀ {vs l:List (List UInt8)},(hG syn l vs).1.length<=l.length
 | [],l=>aeg _
 | v::vs,l=>by
   rw [hG];rcases hv:ci syn v with _|n
   ·simp
   ·simp only;split
    ·simp
    ·exact aeM U6 (agK _ _)
theorem abt {ts:List Typ} {l:List Atr} {m:Mdf} {B:Nat} (hB:∀ a∈l,a.2.length<=B):(Od ts l m).1.length<=l.length+1/\∀ a∈(Od ts l m).1,a.2.length<=B+m.2.2.length:=by
 have nil:([]:List Atr).length<=l.length+1/\∀ a∈([]:List Atr),a.2.length<=B+m.2.2.length:=⟨by simp,fun a ha=>by cases ha⟩;have set:∀ (n:List UInt8) (us:List (List UInt8)) (d:Bool),us.length<=B+m.2.2.length->(fp n us d l).length<=l.length+1/\∀ a∈fp n us d l,a.2.length<=B+m.2.2.length:=fun n us d hu=>by
  refine ⟨?_,fun a ha=>?_⟩
  ·have:=@P4 n us d l;split at this<;>omega
  ·rcases LY ha with e|e
   ·rw [e];exact hu
   ·have:=hB a e;omega
 have hv:∀ n,(bu l n).length<=B:=fun n=>Ql hB
 unfold Od;split
 ·exact nil
 rcases hty:ef ts m.2.1 with _|ty
 ·exact nil
 simp only;split
 ·split
  ·exact nil
  ·split
   ·exact nil
   ·refine set _ _ _ ?_;split
    ·simp
    ·have:=@U6 ty.2.1 m.2.2 (bu l m.2.1);have:=hv m.2.1;omega
 ·split
  ·exact nil
  ·obtain ⟨was,hwas⟩:=aea ((if m.1=2 then [] else bu l m.2.1));have hwl:was.length<=B:=by
    rw [<- hwas];split
    ·simp
    ·exact hv m.2.1
   rw [hwas];split
   ·exact nil
   ·rename_i hc
    simp only [ne_eq,agI] at hc;have h1:=N1 hc;refine set _ _ _ ?_;omega
theorem aaf {ts:List Typ} {capT:Option Nat} {c2:List AV} {n2:Nat} {cap2:Option Nat} {l:List Atr} {ms:List Mdf} {cap capM:Option Nat} (hts:LI ts) (hin:InA ts l) (hl:l.length<=100000) (hv:∀ a∈l,a.2.length<=100000) (hm:ms.length<=100) (hmv:∀ m∈ms,am m.2.1/\m.2.2.length<=1000)
  {R:List Atr×Int} (hR:TV ts l ms=R) {L:List Blk} {K:aef} (h:K (.tup [.sl (bh R.1) R.1.length none,.int .i64 R.2]) L) :
  aee 36 [.agg [.sl (aW ts) ts.length capT,.sl c2 n2 cap2],.sl (bh l) l.length cap,.sl (mC ms) ms.length capM] L K:=by
 obtain ⟨i1,i2,i3,i4,i5,i6⟩:=Td (L.length+1) (l:=l) (k:=l.length) (aeg _);rw [aeE] at i1 i2 i3 i4 i5 i6;obtain ⟨s,hs⟩:=aea (twF (L.length+1) l);have htw:∀ S:Blk,aee 59 [.sl (bh l) l.length cap] (L++[S]) fun v L'=>v=twV (L.length+1) l.length/\L'=L++(S::s.1):=fun S=>by
  refine acu (by omega) (fun a ha=>⟨?_,by have:=hv a ha;omega⟩) ⟨by simp,?_⟩
  ·obtain ⟨_,_,_,h3,_⟩:=hin.2 a ha;exact h3
  ·rw [aeF,agR,hs];simp
 rw [hs] at i1 i2 i3 i4 i5 i6;obtain ⟨X,ps0⟩:=s;simp only at i1 i2 i3 i4 i5 i6 htw;obtain ⟨row,hrow⟩:=aea (twV (L.length+1) l.length);rw [hrow] at htw;replace h:=hid h;refine af OK (by simp [o9]) ?_;simp only [o9,aq]
 iterate 3 first
  | refine aY ?_
  | (first|refine aO (by kernel_rfl) ?_|refine aA (by kernel_rfl) ?_|refine aB ?_|refine bw ?_|refine a6 (fun _=>?_)|refine ax ?_|refine aR ?_)
    simp (config:={ maxSteps:=2000000 }) only [Kon,push_cast,reduceIte,Nat.reduceEqDiff,Nat.reduceAdd,Nat.reduceMul,Nat.reduceSub,Nat.reduceLT,Nat.reduceLeDiff,Int.reduceLT,Int.reduceLE,Int.reduceAdd,Int.reduceSub,Int.reduceNeg,Int.reduceToNat,Int.reduceEq,reduceCtorEq, *]
  | (first|refine aK (by kernel_rfl) ?_|refine aP ?_|refine aQ ?_|refine bd (aw ?_))
    simp only [push_cast,reduceIte,Nat.reduceEqDiff,Nat.reduceAdd,Nat.reduceMul,Nat.reduceSub,Nat.reduceLT,Nat.reduceLeDiff,Int.reduceLT,Int.reduceLE,Int.reduceAdd,Int.reduceSub,Int.reduceNeg,Int.reduceToNat,Int.reduceEq,reduceCtorEq, *]
  | exact a7
  | first|apply a8|apply aL|apply ba|apply aM|apply bc|apply aN
  | refine aE ?_
  | first|refine aC rfl ?_|refine aD rfl ?_|refine ap rfl ?_ ?_|refine aG rfl (fun _=>?_) (fun _=>?_)|refine aF rfl (fun _=>?_) (fun _=>?_)
  | ((first|refine ao (fun _=>?_) (fun _=>?_)|refine au (fun _=>?_) (fun _=>?_))<;>try simp (config:={ maxSteps:=2000000 }) only [Kon,push_cast,reduceIte,Nat.reduceEqDiff,Nat.reduceAdd,Nat.reduceMul,Nat.reduceSub,Nat.reduceLT,Nat.reduceLeDiff,Int.reduceLT,Int.reduceLE,Int.reduceAdd,Int.reduceSub,Int.reduceNeg,Int.reduceToNat,Int.reduceEq,reduceCtorEq, *])
  | refine And.intro trivial ?_
  | refine And.intro (by omega) ?_
  | refine aI rfl (fun _=>?_) (fun _=>?_)
  | refine And.intro ?_ ?_
 obtain ⟨sT,hsT⟩:=aea (AV.sl (aW ts) ts.length capT);obtain ⟨sC,hsC⟩:=aea (AV.sl c2 n2 cap2);rw [hsT,hsC];refine uW (fun T2 L2=>T2=[(8,.ptr (L.length+(X.length+1)) 0),(2,.sl (mC ms) ms.length capM)]/\L2=L++(.cells [sT,sC]::(X++[.cells [sT,sC,row]]))) ?_ ?_
 ·rcases (show row=.sl [] 0 (some 0)\/∃ j,row=.lsl j 0 l.length none 2 by
   rw [<- hrow,twV];split
   ·exact .inl rfl
   ·exact .inr ⟨_,rfl⟩) with e|⟨jr,e⟩
  all_goals
   subst e;clear hrow hR hin hs i1 i2 i3 i4 i5 i6 hmv hv hts;replace htw:=hid htw;refine wk ?_;refine N4 _ _ (htw.out _) rfl ?_;refine sk ?_;refine wk ?_;exact gT _ _ (CutL (b:=by simp)) ⟨rfl,rfl⟩
 rintro _ _ ⟨rfl,rfl⟩ -;obtain ⟨p,hp⟩:=aea (L.length+(X.length+1));rw [hp];obtain ⟨L1,hL1⟩:=aea (L++(.cells [sT,sC]::(X++[.cells [sT,sC,row]])));have hgX:∀ i,i<X.length->L1[L.length+1+i]?=X[i]?:=fun i hi=>by
  rw [<- hL1,aes (by omega),show L.length+1+i - L.length=i+1 by omega,aeN,aem hi]
 have hgp:L1[p]?=some (.cells [sT,sC,row]):=by
  rw [<- hL1,<- hp,aes (by omega),show L.length+(X.length+1) - L.length=X.length+1 by omega,aeN,aes (aeg _),afn];rfl
 have hH0:gr L1 L.length p sT sC ps0:=by
  refine ⟨by omega,i4,fun q hq=>?_,?_⟩
  ·obtain ⟨q1,q2,q3⟩:=i5 q hq;refine ⟨by omega,by omega,[],?_⟩;have:=hgX (q.1 - (L.length+1)) (by omega);rw [show L.length+1+(q.1 - (L.length+1))=q.1 by omega,q3] at this;rw [this,aeJ]
  ·by_cases hn:l.length=0
   ·refine .inl ⟨?_,ae3.1 (by omega)⟩;rw [hgp,<- hrow,twV,if_pos hn]
   ·refine .inr ⟨L.length+1+3 * l.length - 1,[],?_,?_,by omega,by omega,fun q hq=>?_⟩
    ·rw [hgp,<- hrow,twV,if_neg hn,i2]
    ·have:=hgX (3 * l.length - 1) (by omega);rw [show L.length+1+(3 * l.length - 1)=L.length+1+3 * l.length - 1 by omega,i6 hn] at this;rw [this,aeJ]
    ·have:=(i5 q hq).2.1;omega
 have hk0:Kpt L.length L L1:=by rw [<- hL1];exact Kpt.app (aeg _) _
 have hb0:∀ q∈ps0,q.2.2.length<=100000:=fun q hq=>by
  refine hv q.2 ?_;rw [<- i3];exact aey.2 ⟨q,hq,rfl⟩
 have hLl1:L.length<=L1.length:=hk0.1;have hL1l:L1.length=p+1:=by rw [<- hL1,<- hp];simp;omega
 rw [hL1];clear hgX hgp hL1 hp htw hs hrow i1 i4 i5 i6 hv;replace hR:=hid hR;replace hmv:=hid hmv;refine wk ?_;refine ai (fun n T' L'=>∃ (i:Nat) (ps:List PAt),n=ms.length - i/\i<=ms.length/\Hid (TV ts (ps.map (·.2)) (ms.drop i)=R)/\Hid (InA ts (ps.map (·.2)))/\ps.length<=l.length+i/\Hid (∀ q∈ps,q.2.2.length<=100000+1000 * i)/\T'=[(19,.int .i64 (i:Int)),(18,.int .i64 ms.length),(17,.sl (mC ms) ms.length capM),(8,.ptr p 0)] /\
  Hid (Kpt L.length L L')/\Hid (gr L' L.length p sT sC ps)) (CutS (b:=by simp)) ⟨0,ps0,rfl,aej _,hid (by rw [i3];simpa using hR.out),hid (by rw [i3];exact hin),by omega,hid (by simpa using hb0),rfl,hid hk0,hid hH0⟩ ?_
 clear hk0 hH0 hb0 i2 i3 hin ps0;rintro _ _ L' ⟨i,ps,rfl,hi,hI,hin,hpl,hlen,rfl,hkp,hH⟩;obtain ⟨row',hp,_,_⟩:=hH.out.row;have hpl1:p<L'.length:=(aeh.1 hp).1;have hLl:L.length<=L'.length:=hkp.out.1;by_cases hlt:i<ms.length
 ·have g1:(i:Int)<(ms.length:Int):=by omega
  have g2:=aec i (by omega);have e3:=WY hlt;have e4:i * 3+3<=(mC ms).length:=by rw [ZC];omega
  obtain ⟨m,ha⟩:=aea (ms.getD i noM);have hdr:ms.drop i=m::ms.drop (i+1):=by rw [aeH hlt,<- ha];simp [hlt]
  obtain ⟨hnm,hvs⟩:=hmv.out m (by rw [<- ha];simp [hlt]);rw [ha] at e3;simp only [mdC] at e3;have hI2:=hI.out;rw [hdr,TV] at hI2;obtain ⟨A,hA⟩:=aea (Od ts (ps.map (·.2)) m);have hbd:=abt (ts:=ts) (l:=ps.map (·.2)) (m:=m) (B:=100000+1000 * i) (fun a ha=>by
   obtain ⟨q,hq,rfl⟩:=aey.1 ha;exact hlen.out q hq)
  rw [hA] at hI2 hbd;have hmod:∀ (Y:List Blk) {K:aef},(∀ (code:Int) (L3:List Blk),Kpt L.length (L'++Y) L3->code=A.2->(code=0->∃ ps',gr L3 L.length p sT sC ps'/\ps'.map (·.2)=A.1)->K (.int .i64 code) L3) ->
    aee 60 [.ptr p 0,.agg [.int .i64 m.1,.str m.2.1,.sl (m.2.2.map AV.str) m.2.2.length none]] (L'++Y) K:=fun Y {K} q=>by
   have hH2:=hH.out.frame (L':=L'++Y) fun k hk=>by rw [aem hk]
   rw [<- hsT,<- hsC] at hH2 q;exact ac8 hts (by simp;omega) hH2 (by omega) hin.out (fun q hq=>by have:=hlen.out q hq;omega) (by omega) hnm hA q
  replace hmod:=@hid _ @hmod;have hin1:A.2=0->InA ts A.1:=fun e=>by rw [<- hA] at e ⊢;exact abr hin.out e
  replace hin1:=hid hin1;replace hbd:=hid hbd;replace hI2:=hid hI2;clear hI hdr ha hA hp;refine wk ?_;refine hmod.out _ fun code L3 hk3 hc hHd=>?_
  have hkL3:Kpt L.length L L3:=hkp.out.trans ⟨hk3.1,fun k hk=>by rw [hk3.2 k hk,aem (by omega)]⟩;by_cases hc0:code=0
  ·subst hc0;obtain ⟨ps',hH',hps'⟩:=hHd rfl;have hI3:=hI2.out;rw [if_neg (by rw [<- hc];simp),<- hps'] at hI3;have hin':=hin1.out hc.symm;rw [<- hps'] at hin';have hb1:=hbd.out;rw [<- hps'] at hb1;have hl':ps'.length<=l.length+(i+1):=by
    have:=hb1.1;simp only [aeS] at this;omega
   have hq':∀ q∈ps',q.2.2.length<=100000+1000 * (i+1):=fun q hq=>by
    have:=hb1.2 q.2 (aey.2 ⟨q,hq,rfl⟩);omega
   have hL3:=hkL3.1;obtain ⟨row3,hp3,_,_⟩:=hH'.row;have hpl3:p<L3.length:=(aeh.1 hp3).1;replace hI3:=hid hI3;replace hin':=hid hin';replace hq':=hid hq';replace hkL3:=hid hkL3;replace hH':=hid hH';clear hHd hc hI2 hmod hps' hb1 hbd hin1 hk3 hp3;refine sk ?_;refine wk ?_;exact ag _ _ _ (by omega) (CutL (b:=by omega)) ⟨i+1,ps',rfl,hlt,hI3,hin',hl',hq',rfl,hkL3,hH'⟩
  ·have hI3:=hI2.out;rw [if_pos (by rw [<- hc];exact hc0)] at hI3;have h':=h.out;rw [<- hI3,<- hc] at h';replace h':=hid h';replace hkL3:=hid hkL3;clear hHd hc hI2 hmod hI3 hk3 hbd hin1;refine sk ?_;refine wk ?_;obtain ⟨X,rfl⟩:=hkL3.out.eq rfl;exact aZ (ab rfl h'.out)
 ·have hke:i=ms.length:=by omega
  subst hke;have g1:¬ (ms.length:Int)<(ms.length:Int):=by omega
  have hI2:=hI.out;rw [aeC,TV] at hI2;have h':=h.out;rw [<- hI2] at h';rw [aeS] at h';replace h':=hid h';clear hI hI2 hR hmv;refine wk ?_;exact aaI (fun _ _=>rfl) rfl (aeg _) hH.out hkp.out hp rfl h'.out
end Go.Proofs.YtigifoeopopnbaaGreatDoor.Av
