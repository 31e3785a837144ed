/- Joined texts of the walk, made small by a program. -/
import Derived.Test.YtkkgmgmgcgiffaaGreatDoorUT5
import Derived.Test.YtkkgmgmgcgiffaaGreatDoorUP5
set_option linter.unusedSimpArgs false
set_option linter.unusedVariables false
namespace Go.Proofs.YtkkgmgmgcgiffaaGreatDoor.Av
open Go
variable {L:List Blk} {K:AV→List Blk→Prop}
set_option maxHeartbeats 8000000
set_option maxRecDepth 100000
theorem Qy {k:Int} {a v:List UInt8} {A B:List AV} {n m:Nat} {c d:Option Nat} (hA:∀ q,AV.refsL q A=true) (hB:∀ q,AV.refsL q B=true) (h:K (.agg [.int .i64 2,.str [],.str [],.sl [] 0 (some 0),.sl [.int .i64 k,.str a,.str v,.sl A n c,.sl B m d] 1 (some 1)]) L) :
   ad Tryz.prog 14 [.agg [.int .i64 k,.str a,.str v,.sl A n c,.sl B m d]] L K:=by
 replace h:=hid h
 replace hA:=hid hA
 replace hB:=hid hB
 refine ae rM (by simp [ek]) ?_
 simp only [ek,ar]
 refine wk ?_
 exact ab (by simp only [AV.refs,AV.refsL,hA.out,hB.out,Bool.and_self]) h.out
theorem wU {ts:List Typ} {cs:List Cls} {R:List Atr} {capT capC:Option Nat} (hts:O4 ts) (hin:InA ts R) (h1:R.length≤100) (h2:∀ a∈R,a.2.length≤6000) {k:Int} {x y:Flt} {k1 k2:Int} {a1 v1 a2 v2:List UInt8} {A1 B1 A2 B2:List AV} {n1 m1 n2 m2:Nat} {c1 d1 c2 d2:Option Nat} (hx:Dp x) (hy:Dp y)
   (e1:AV.frzL [.int .i64 k1,.str a1,.str v1,.sl A1 n1 c1,.sl B1 m1 d1]=fA x) (e2:AV.frzL [.int .i64 k2,.str a2,.str v2,.sl A2 n2 c2,.sl B2 m2 d2]=fA y) {p q:Nat} {L:List Blk} (hp:L[p]?=some (.cells [.sl (bc ts) ts.length capT,.sl (df cs) cs.length capC])) (hq:L[q]?=some (.cells [.sl (bn R) R.length none]))
   {r:Int} (hr:ofM ts R (.mk k [] [] [] [x,y])=r) {K:AV→List Blk→Prop} (h:K (.int .i64 r) L):ad Tryz.prog 15 [.int .i64 k,.agg [.int .i64 k1,.str a1,.str v1,.sl A1 n1 c1,.sl B1 m1 d1],.agg [.int .i64 k2,.str a2,.str v2,.sl A2 n2 c2,.sl B2 m2 d2],.ptr p 0,.ptr q 0] L K:=by
 have f1:(∀ {L:List Blk} {K:AV→List Blk→Prop},K (.int .i64 r) L→ad Tryz.prog 11 [.agg [.sl (bc ts) ts.length capT,.sl (df cs) cs.length capC],.agg [.int .i64 k,.str [],.str [],.sl [] 0 (some 0),.sl [.int .i64 k1,.str a1,.str v1,.sl A1 n1 c1,.sl B1 m1 d1,.int .i64 k2,.str a2,.str v2,.sl A2 n2 c2,.sl B2 m2 d2] 2 (some 2)],.sl (bn R) R.length none] L K):=fun {L K} z=>by
   refine fH ?_
   have:=V2 (capT:=none) (cap:=none) (c2:=AV.frzL (df cs)) (n2:=cs.length) (cap2:=none) hts hin (by omega) (fun a ha=>by have:=h2 a ha;omega) (.mk k [] [] [] [x,y]) (by simp only [Dp,FlB,LA];simpa using ⟨hx,hy⟩) (L:=L) (K:=K) (by rw [hr];exact z)
   rw [ky] at this
   have e3:fsA [x,y]=AV.frzL [.int .i64 k1,.str a1,.str v1,.sl A1 n1 c1,.sl B1 m1 d1,.int .i64 k2,.str a2,.str v2,.sl A2 n2 c2,.sl B2 m2 d2]:=by
     rw [fsA,fsA,fsA,← e1,← e2];rfl
   rw [e3] at this
   simpa only [AV.frzL,AV.frz,wT,Dl,b9,List.flatMap_nil,List.length_cons,List.length_nil,Nat.zero_add,Nat.reduceAdd] using this
 have kk1:=@hid _ @f1
 clear f1 hr e1 e2 hx hy
 replace h:=hid h
 have b1:∀ X:List Blk,(L++X)[p]?=some (.cells [.sl (bc ts) ts.length capT,.sl (df cs) cs.length capC]):=fun X=>by rw [List.getElem?_append_left (List.getElem?_eq_some_iff.1 hp).1];exact hp
 have b2:∀ X:List Blk,(L++X)[q]?=some (.cells [.sl (bn R) R.length none]):=fun X=>by rw [List.getElem?_append_left (List.getElem?_eq_some_iff.1 hq).1];exact hq
 clear h2 hin hts
 refine ae rL (by simp [eh]) ?_
 simp only [eh,ar]
 refine wk ?_
 exact ab rfl h.out
theorem wkT {A B:Prop} (h:B) (e:Hid B→A:=by
   intro hB_
   repeat' first
     | refine a8 ?_
     | (first|refine aP (by kernel_rfl) ?_|refine aB (by kernel_rfl) ?_|refine aC ?_|refine bj ?_|refine aX (fun _=>?_)|refine ay ?_|refine aS ?_|refine kk1.out _ _ ?_|refine kk1.out ?_|refine kk2.out _ _ ?_|refine kk2.out ?_|refine kk3.out _ _ ?_|refine kk3.out ?_|refine kk4.out _ _ ?_|refine kk4.out ?_|refine kk5.out _ _ ?_|refine kk5.out ?_|refine kk6.out _ _ ?_|refine kk6.out ?_|refine kk7.out _ _ ?_|refine kk7.out ?_|refine aK (kk1.out _ _ ⟨rfl,rfl⟩) (kk1.out _ _ ⟨rfl,rfl⟩) ?_|refine aK (kk1.out ⟨rfl,rfl⟩) (kk1.out ⟨rfl,rfl⟩) ?_|refine aK (kk2.out _ _ ⟨rfl,rfl⟩) (kk2.out _ _ ⟨rfl,rfl⟩) ?_|refine aK (kk2.out ⟨rfl,rfl⟩) (kk2.out ⟨rfl,rfl⟩) ?_|refine aq (q2.out ⟨rfl,rfl⟩) ?_|refine aq (q4.out ⟨rfl,rfl⟩) ?_|refine aq (q5.out ⟨rfl,rfl⟩) ?_|refine aq (q6.out ⟨rfl,rfl⟩) ?_|refine aq (q7.out ⟨rfl,rfl⟩) ?_|refine aq (q8.out ⟨rfl,rfl⟩) ?_|refine aq (q9.out ⟨rfl,rfl⟩) ?_|refine aq (q10.out ⟨rfl,rfl⟩) ?_|refine aq (kk1.out _ _ ⟨rfl,rfl⟩) ?_|refine aq (kk1.out ⟨rfl,rfl⟩) ?_|refine aq (kk2.out _ _ ⟨rfl,rfl⟩) ?_|refine aq (kk2.out ⟨rfl,rfl⟩) ?_|refine aq (kk3.out _ _ ⟨rfl,rfl⟩) ?_|refine aq (kk3.out ⟨rfl,rfl⟩) ?_|refine aq (kk4.out _ _ ⟨rfl,rfl⟩) ?_|refine aq (kk4.out ⟨rfl,rfl⟩) ?_|refine aq (kk5.out _ _ ⟨rfl,rfl⟩) ?_|refine aq (kk5.out ⟨rfl,rfl⟩) ?_|refine aq (kk6.out _ _ ⟨rfl,rfl⟩) ?_|refine aq (kk6.out ⟨rfl,rfl⟩) ?_|refine aq (kk7.out _ _ ⟨rfl,rfl⟩) ?_|refine aq (kk7.out ⟨rfl,rfl⟩) ?_)
       refine sm ?_
     | (first|refine aL (by kernel_rfl) ?_|refine aQ ?_|refine aR ?_|refine ba (ax ?_))
       refine sl ?_
     | exact aY
     | first|apply aZ|apply aM|apply a6|apply aN|apply a7|apply aO
     | refine aF ?_
     | first|refine aD rfl ?_|refine aE rfl ?_|refine ap rfl ?_ ?_
     | ((first|refine ao (fun _=>?_) (fun _=>?_)|refine aw (fun _=>?_) (fun _=>?_))<;>try refine sm ?_)
     | refine And.intro trivial ?_
     | refine And.intro (by omega) ?_
     | refine aI rfl (fun _=>?_) (fun _=>?_)
   exact hB_.out):A:=e (hid h)
theorem RH (ts:List Typ) (R:List Atr) (x y:Flt):ofM ts R (.mk 0 [] [] [] [x,y])=rQ [ofM ts R x,ofM ts R y]:=by
 rw [ofM,if_pos (.inl rfl),CK];rfl
theorem RG (ts:List Typ) (R:List Atr) (x y:Flt):ofM ts R (.mk 1 [] [] [] [x,y])=orV [ofM ts R x,ofM ts R y]:=by
 rw [ofM,if_pos (.inr (.inl rfl)),CK];rfl
theorem N0 (ts:List Typ) (R:List Atr) (x:Flt):ofM ts R (.mk 2 [] [] [] [x])=il (ofM ts R x):=by
 rw [ofM,if_pos (.inr (.inr rfl)),CK];rfl
theorem QO {x:Flt} (h:Dp x):Dp (.mk 2 [] [] [] [x]):=by simp only [Dp,FlB,LA];simpa using h
theorem VD {ts:List Typ} {cs:List Cls} {l:List Atr} {f g:Flt} (hs:WB ts cs) (hl:WI l) (hf:Ro f) (hg:Ro g) (h:K (.bool true) L) :
   ad Tryz.prog 4 [.agg [.sl (bc ts) ts.length none,.sl (df cs) cs.length none],.agg (.sl (bn l) l.length none::fA f),.agg (fA g)] L K:=by
 obtain ⟨kf,af,vf,pf,sf⟩:=f
 obtain ⟨kg,ag,vg,pg,sg⟩:=g
 have kk1:Hid (Ctr Tryz.prog 10 [] (.bool true)):=hid fun q=>S5 q
 have mk:∀ {L:List Blk} {K:AV→List Blk→Prop},(∀ C n c,K (.tup [.sl C n c,.bool false]) L)→(∀ R:List Atr,O4 ts→InA ts R→R.length≤100→(∀ a∈R,a.2.length≤6000)→Dp (.mk kf af vf pf sf)→K (.tup [.sl (bn R) R.length none,.bool true]) L)→ad Tryz.prog 9 [.agg [.sl (bc ts) ts.length none,.sl (df cs) cs.length none],.agg (.sl (bn l) l.length none::fA (.mk kf af vf pf sf))] L K:=fun a b=>Xg hs hl hf a b
 have h20:∀ {L:List Blk} {K:AV→List Blk→Prop},(∀ b:Bool,(b=true→Dp (.mk kg ag vg pg sg))→K (.bool b) L)→ad Tryz.prog 13 [.agg (fA (.mk kg ag vg pg sg))] L K:=fun q=>Ol hg q
 simp only [ky] at mk h20 ⊢
 replace mk:=@hid _ @mk
 replace h20:=@hid _ @h20
 replace h:=hid h
 refine ae Dg (by simp [iw]) ?_
 simp only [iw,ar]
 refine wk ?_
 refine mk.out (fun C n c=>?_) (fun R hts hin h1 h2 hfs=>?_)
 · refine sk ?_
   refine wk ?_
   exact ab rfl h.out
 replace hfs:=hid hfs
 clear mk hs hl hf hg
 refine sk ?_
 refine wk ?_
 refine h20.out fun b hb=>?_
 cases b with
 | false =>
   clear hb hts hin h1 h2
   refine sk ?_
   refine wk ?_
   exact ab rfl h.out
 | true =>
 have hgs:=hid (hb rfl)
 clear hb h20
 have nfs:=hid (QO hfs.out)
 have ngs:=hid (QO hgs.out)
 obtain ⟨x,hx⟩:∃ x,ofM ts R (.mk kf af vf pf sf)=x:=⟨_,rfl⟩
 obtain ⟨y,hy⟩:∃ x,ofM ts R (.mk kg ag vg pg sg)=x:=⟨_,rfl⟩
 have tx:Tr x:=by rw [← hx];exact T7 _ _ _
 have ty:Tr y:=by rw [← hy];exact T7 _ _ _
 obtain ⟨t1,t2,t3,t4,t5,t6⟩:=Up tx ty
 have ef:AV.frzL [.int .i64 kf,.str af,.str vf,.sl (b9 pf) pf.length none,.sl (fsA sf) sf.length none]=fA (.mk kf af vf pf sf):=by rw [← ky,Rf]
 have eg:AV.frzL [.int .i64 kg,.str ag,.str vg,.sl (b9 pg) pg.length none,.sl (fsA sg) sg.length none]=fA (.mk kg ag vg pg sg):=by rw [← ky,Rf]
 have enf:AV.frzL [.int .i64 2,.str [],.str [],.sl [] 0 (some 0),.sl [.int .i64 kf,.str af,.str vf,.sl (b9 pf) pf.length none,.sl (fsA sf) sf.length none] 1 (some 1)]=fA (.mk 2 [] [] [] [.mk kf af vf pf sf]):=by
   simp only [AV.frzL,AV.frz] at ef ⊢
   rw [ky 2,fsA,fsA,List.append_nil,← ef];rfl
 have eng:AV.frzL [.int .i64 2,.str [],.str [],.sl [] 0 (some 0),.sl [.int .i64 kg,.str ag,.str vg,.sl (b9 pg) pg.length none,.sl (fsA sg) sg.length none] 1 (some 1)]=fA (.mk 2 [] [] [] [.mk kg ag vg pg sg]):=by
   simp only [AV.frzL,AV.frz] at eg ⊢
   rw [ky 2,fsA,fsA,List.append_nil,← eg];rfl
 obtain ⟨LL,hLL⟩:∃ M:List Blk,M=(L++[.cells [.sl (bc ts) ts.length none,.sl (df cs) cs.length none],.cells [.sl (bn l) l.length none,.int .i64 kf,.str af,.str vf,.sl (b9 pf) pf.length none,.sl (fsA sf) sf.length none],.cells [.int .i64 kg,.str ag,.str vg,.sl (b9 pg) pg.length none,.sl (fsA sg) sg.length none],.cells [.sl (bn R) R.length none],.cells [.int .i64 kf,.str af,.str vf,.sl (b9 pf) pf.length none,.sl (fsA sf) sf.length none]]):=⟨_,rfl⟩
 have l1:LL[L.length]?=some (.cells [.sl (bc ts) ts.length none,.sl (df cs) cs.length none]):=by rw [hLL];simp
 have l2:LL[L.length+3]?=some (.cells [.sl (bn R) R.length none]):=by rw [hLL];simp
 have q2:∀ {K:AV→List Blk→Prop},K (.int .i64 (rQ [x,y])) LL→ad Tryz.prog 15 [.int .i64 0,.agg [.int .i64 kf,.str af,.str vf,.sl (b9 pf) pf.length none,.sl (fsA sf) sf.length none],.agg [.int .i64 kg,.str ag,.str vg,.sl (b9 pg) pg.length none,.sl (fsA sg) sg.length none],.ptr L.length 0,.ptr (L.length+3) 0] LL K:=fun z=>wU (x:=(.mk kf af vf pf sf)) (y:=(.mk kg ag vg pg sg)) hts hin h1 h2 hfs.out hgs.out ef eg l1 l2 (by rw [RH];simp only [hx,hy]) z
 have q4:∀ {K:AV→List Blk→Prop},K (.int .i64 (il (rQ [x,y]))) LL→ad Tryz.prog 15 [.int .i64 1,.agg [.int .i64 2,.str [],.str [],.sl [] 0 (some 0),.sl [.int .i64 kf,.str af,.str vf,.sl (b9 pf) pf.length none,.sl (fsA sf) sf.length none] 1 (some 1)],.agg [.int .i64 2,.str [],.str [],.sl [] 0 (some 0),.sl [.int .i64 kg,.str ag,.str vg,.sl (b9 pg) pg.length none,.sl (fsA sg) sg.length none] 1 (some 1)],.ptr L.length 0,.ptr (L.length+3) 0] LL K:=fun z=>wU (x:=(.mk 2 [] [] [] [.mk kf af vf pf sf])) (y:=(.mk 2 [] [] [] [.mk kg ag vg pg sg])) hts hin h1 h2 nfs.out ngs.out enf eng l1 l2 (by rw [RG,N0,N0];simp only [hx,hy];exact t1.symm) z
 have q5:∀ {K:AV→List Blk→Prop},K (.int .i64 (orV [x,y])) LL→ad Tryz.prog 15 [.int .i64 1,.agg [.int .i64 kf,.str af,.str vf,.sl (b9 pf) pf.length none,.sl (fsA sf) sf.length none],.agg [.int .i64 kg,.str ag,.str vg,.sl (b9 pg) pg.length none,.sl (fsA sg) sg.length none],.ptr L.length 0,.ptr (L.length+3) 0] LL K:=fun z=>wU (x:=(.mk kf af vf pf sf)) (y:=(.mk kg ag vg pg sg)) hts hin h1 h2 hfs.out hgs.out ef eg l1 l2 (by rw [RG];simp only [hx,hy]) z
 have q6:∀ {K:AV→List Blk→Prop},K (.int .i64 (il (orV [x,y]))) LL→ad Tryz.prog 15 [.int .i64 0,.agg [.int .i64 2,.str [],.str [],.sl [] 0 (some 0),.sl [.int .i64 kf,.str af,.str vf,.sl (b9 pf) pf.length none,.sl (fsA sf) sf.length none] 1 (some 1)],.agg [.int .i64 2,.str [],.str [],.sl [] 0 (some 0),.sl [.int .i64 kg,.str ag,.str vg,.sl (b9 pg) pg.length none,.sl (fsA sg) sg.length none] 1 (some 1)],.ptr L.length 0,.ptr (L.length+3) 0] LL K:=fun z=>wU (x:=(.mk 2 [] [] [] [.mk kf af vf pf sf])) (y:=(.mk 2 [] [] [] [.mk kg ag vg pg sg])) hts hin h1 h2 nfs.out ngs.out enf eng l1 l2 (by rw [RH,N0,N0];simp only [hx,hy];exact t2.symm) z
 have q7:∀ {K:AV→List Blk→Prop},K (.int .i64 (x)) LL→ad Tryz.prog 15 [.int .i64 0,.agg [.int .i64 kf,.str af,.str vf,.sl (b9 pf) pf.length none,.sl (fsA sf) sf.length none],.agg [.int .i64 kf,.str af,.str vf,.sl (b9 pf) pf.length none,.sl (fsA sf) sf.length none],.ptr L.length 0,.ptr (L.length+3) 0] LL K:=fun z=>wU (x:=(.mk kf af vf pf sf)) (y:=(.mk kf af vf pf sf)) hts hin h1 h2 hfs.out hfs.out ef ef l1 l2 (by rw [RH];simp only [hx,hy];exact t3) z
 have q8:∀ {K:AV→List Blk→Prop},K (.int .i64 (x)) LL→ad Tryz.prog 15 [.int .i64 1,.agg [.int .i64 kf,.str af,.str vf,.sl (b9 pf) pf.length none,.sl (fsA sf) sf.length none],.agg [.int .i64 kf,.str af,.str vf,.sl (b9 pf) pf.length none,.sl (fsA sf) sf.length none],.ptr L.length 0,.ptr (L.length+3) 0] LL K:=fun z=>wU (x:=(.mk kf af vf pf sf)) (y:=(.mk kf af vf pf sf)) hts hin h1 h2 hfs.out hfs.out ef ef l1 l2 (by rw [RG];simp only [hx,hy];exact t4) z
 have q9:∀ {K:AV→List Blk→Prop},K (.int .i64 (rQ [x,y])) LL→ad Tryz.prog 15 [.int .i64 0,.agg [.int .i64 kg,.str ag,.str vg,.sl (b9 pg) pg.length none,.sl (fsA sg) sg.length none],.agg [.int .i64 kf,.str af,.str vf,.sl (b9 pf) pf.length none,.sl (fsA sf) sf.length none],.ptr L.length 0,.ptr (L.length+3) 0] LL K:=fun z=>wU (x:=(.mk kg ag vg pg sg)) (y:=(.mk kf af vf pf sf)) hts hin h1 h2 hgs.out hfs.out eg ef l1 l2 (by rw [RH];simp only [hx,hy];exact t5.symm) z
 have q10:∀ {K:AV→List Blk→Prop},K (.int .i64 (orV [x,y])) LL→ad Tryz.prog 15 [.int .i64 1,.agg [.int .i64 kg,.str ag,.str vg,.sl (b9 pg) pg.length none,.sl (fsA sg) sg.length none],.agg [.int .i64 kf,.str af,.str vf,.sl (b9 pf) pf.length none,.sl (fsA sf) sf.length none],.ptr L.length 0,.ptr (L.length+3) 0] LL K:=fun z=>wU (x:=(.mk kg ag vg pg sg)) (y:=(.mk kf af vf pf sf)) hts hin h1 h2 hgs.out hfs.out eg ef l1 l2 (by rw [RG];simp only [hx,hy];exact t6.symm) z
 have kk2:Hid (Ctr Tryz.prog 11 [.agg [.sl (bc ts) ts.length none,.sl (df cs) cs.length none],.agg [.int .i64 kf,.str af,.str vf,.sl (b9 pf) pf.length none,.sl (fsA sf) sf.length none],.sl (bn R) R.length none] (.int .i64 x)):=hid fun z=>by
   rw [← ky]
   exact V2 hts hin (by omega) (fun a ha=>by have:=h2 a ha;omega) _ hfs.out (by rw [hx];exact z)
 have n1:(∀ {L:List Blk} {K:AV→List Blk→Prop},K (.int .i64 x) L→ad Tryz.prog 11 [.agg [.sl (bc ts) ts.length none,.sl (df cs) cs.length none],.agg [.int .i64 2,.str [],.str [],.sl [] 0 (some 0),.sl [.int .i64 2,.str [],.str [],.sl [] 0 (some 0),.sl [.int .i64 kf,.str af,.str vf,.sl (b9 pf) pf.length none,.sl (fsA sf) sf.length none] 1 (some 1)] 1 (some 1)],.sl (bn R) R.length none] L K):=fun {L K} z=>by
   refine fH ?_
   have:=V2 (capT:=none) (cap:=none) (c2:=AV.frzL (df cs)) (n2:=cs.length) (cap2:=none) hts hin (by omega) (fun a ha=>by have:=h2 a ha;omega) (.mk 2 [] [] [] [(.mk 2 [] [] [] [.mk kf af vf pf sf])]) (QO nfs.out) (L:=L) (K:=K) (by rw [N0,N0,hx,V3 tx];exact z)
   rw [ky 2,fsA,fsA,List.append_nil,← enf] at this
   simpa only [AV.frzL,AV.frz,wT,Dl,b9,List.flatMap_nil,List.length_cons,List.length_nil,Nat.zero_add,Nat.reduceAdd] using this
 have kk3:=@hid _ @n1
 have kk4:Hid (∀ {v:Int} {L:List Blk} {K:AV→List Blk→Prop},K (.int .i64 (il v)) L→ad Tryz.prog 16 [.int .i64 v] L K):=hid fun z=>GN z
 have kk5:Hid (Ctr Tryz.prog 14 [.agg [.int .i64 kf,.str af,.str vf,.sl (b9 pf) pf.length none,.sl (fsA sf) sf.length none]] (.agg [.int .i64 2,.str [],.str [],.sl [] 0 (some 0),.sl [.int .i64 kf,.str af,.str vf,.sl (b9 pf) pf.length none,.sl (fsA sf) sf.length none] 1 (some 1)])):=hid fun z=>Qy (Jf · _) (CR · _) z
 have kk6:Hid (Ctr Tryz.prog 14 [.agg [.int .i64 kg,.str ag,.str vg,.sl (b9 pg) pg.length none,.sl (fsA sg) sg.length none]] (.agg [.int .i64 2,.str [],.str [],.sl [] 0 (some 0),.sl [.int .i64 kg,.str ag,.str vg,.sl (b9 pg) pg.length none,.sl (fsA sg) sg.length none] 1 (some 1)])):=hid fun z=>Qy (Jf · _) (CR · _) z
 have kk7:Hid (Ctr Tryz.prog 14 [.agg [.int .i64 2,.str [],.str [],.sl [] 0 (some 0),.sl [.int .i64 kf,.str af,.str vf,.sl (b9 pf) pf.length none,.sl (fsA sf) sf.length none] 1 (some 1)]] (.agg [.int .i64 2,.str [],.str [],.sl [] 0 (some 0),.sl [.int .i64 2,.str [],.str [],.sl [] 0 (some 0),.sl [.int .i64 kf,.str af,.str vf,.sl (b9 pf) pf.length none,.sl (fsA sf) sf.length none] 1 (some 1)] 1 (some 1)])):=hid fun z=>Qy (fun _=>rfl) (fun q=>by simp only [AV.refsL,AV.refs,Jf,CR,Bool.and_self]) z
 replace q2:=@hid _ @q2
 replace q4:=@hid _ @q4
 replace q5:=@hid _ @q5
 replace q6:=@hid _ @q6
 replace q7:=@hid _ @q7
 replace q8:=@hid _ @q8
 replace q9:=@hid _ @q9
 replace q10:=@hid _ @q10
 clear n1 t1 t2 t3 t4 t5 t6 tx ty hx hy ef eg enf eng hts hin h1 h2 nfs ngs l1 l2
 subst hLL
 refine sk ?_
 refine wkT ?_
 exact ab rfl h.out
end Go.Proofs.YtkkgmgmgcgiffaaGreatDoor.Av
