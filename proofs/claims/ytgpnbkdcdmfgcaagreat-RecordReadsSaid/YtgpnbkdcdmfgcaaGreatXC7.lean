/- Joined texts of the walk, made small by a program. -/
import Derived.Test.YtgpnbkdcdmfgcaaGreatXC6
import Derived.Test.YtgpnbkdcdmfgcaaGreatXC4
import Derived.Test.YtgpnbkdcdmfgcaaGreatXC2
import Derived.Test.YtgpnbkdcdmfgcaaGreatXR2
import Derived.Test.YtgpnbkdcdmfgcaaGreatXC5
set_option linter.unusedSimpArgs false
set_option linter.unusedVariables false
namespace Go.Proofs.YtgpnbkdcdmfgcaaGreat.Av
open Go
set_option maxHeartbeats 8000000
set_option maxRecDepth 100000
theorem Kz (s:List UInt8):slN s 0 s.length=s:=by simp [slN]
theorem D1 {s:List UInt8} (hs:s.length≤1100000) {L:List Blk} {K:AV→List Blk→Prop} (h:K (AH (dq 64 s)) L):ad Tryz.prog 53 [.str s] L K:=by
 obtain ⟨⟨n,p,b⟩,hel⟩:∃ x,elN 64 s s.length 0=x:=⟨_,rfl⟩
 have he:=GU 64 (Nat.zero_le s.length) (Nat.le_refl s.length)
 unfold ElP at he
 rw [Kz,hel] at he
 have kk1:Hid (∀ {A:List Blk} {x:Blk} {K:AV→List Blk→Prop},K (.agg [.int .i64 n.tag,.str n.data,.sl (ai n.kids) n.kids.length none]) (A++[x,.cells [.str s,.int .i64 (p:Int),.int .i64 b]])→ad Tryz.prog 78 [.ptr (A.length+1) 0,.int .i64 (s.length:Int),.int .i64 1] (A++[x,.cells [.str s,.int .i64 0,.int .i64 0]]) K):=@hid _ (by
   intro A x K q
   refine MG 64 (e:=s.length) (pos:=0) hs (by omega) (by omega) (Nat.le_refl _) (Nat.zero_le _) (r:=A.length+1) (by simp [rdB]) ?_
   rw [hel]
   simp only
   rw [aP]
   simpa [rdB] using q)
 have e0:=aS n.kids
 rcases hp:dq 64 s with e|⟨n',r⟩
 · rw [hp] at h he
   simp only at he
   subst he
   have hb:b≠0:=jQ 64 s b hp
   simp only [AH] at h
   replace h:=hid h
   clear hp hel
   refine ac mY (by simp [eK]) ?_
   simp only [eK,aj]
   refine wk ?_
   refine ao ?_
   exact aa rfl h.out
 · rw [hp] at h he
   obtain ⟨p',h2,_,h3,rfl⟩:=he
   cases h2
   simp only [AH,aP] at h
   replace h:=hid h
   have g1:(p:Int)≤(s.length:Int):=by omega
   have g2:(s.drop p).take (s.length - p)=slN s p s.length:=rfl
   clear hp hel
   refine ac mY (by simp [eK]) ?_
   simp only [eK,aj]
   refine wk ?_
   refine aa ?_ h.out
   simp only [AV.refs,AV.refsL,cf];rfl
theorem D0 {s:List UInt8} (hs:s.length≤1100000) {L:List Blk} {K:AV→List Blk→Prop} (h:K (HJ (m8 s)) L):ad Tryz.prog 36 [.str s] L K:=by
 unfold m8 at h
 rcases hp:dq 64 s with e|⟨n,r⟩
 · rw [hp] at h
   replace h:=hid h
   have he:=jQ _ _ _ hp
   have kk1:Hid (∀ {L:List Blk} {K:AV→List Blk→Prop},K (.tup [.agg [.int .i64 0,.str [],.sl [] 0 none],.str [],.int .i64 e]) L→ad Tryz.prog 53 [.str s] L K):=@hid _ (by intro L K q;exact D1 hs (by rw [hp];exact q))
   clear hp
   refine ac fO (by simp [cP]) ?_
   simp only [cP,aj]
   refine wk ?_
   exact ao (aa rfl h.out)
 · rw [hp] at h
   simp only at h
   have kk1:Hid (∀ {L:List Blk} {K:AV→List Blk→Prop},K (.tup [.agg [.int .i64 n.tag,.str n.data,.sl (ai n.kids) n.kids.length none],.str r,.int .i64 0]) L→ad Tryz.prog 53 [.str s] L K):=@hid _ (by intro L K q;exact D1 hs (by rw [hp,AH,aP];exact q))
   have e0:=aS n.kids
   by_cases hr:r=[]
   · rw [if_pos hr] at h
     rw [HJ,aP] at h
     replace h:=hid h
     subst hr
     clear hp
     refine ac fO (by simp [cP]) ?_
     simp only [cP,aj]
     refine wk ?_
     refine aa ?_ h.out
     simp only [AV.refs,AV.refsL,cf];rfl
   · rw [if_neg hr] at h
     replace h:=hid h
     have g1:(0:Int)<(r.length:Int):=by have:=List.length_pos_iff.2 hr;omega
     clear hp
     refine ac fO (by simp [cP]) ?_
     simp only [cP,aj]
     refine wk ?_
     exact ao (aa rfl h.out)
set_option maxHeartbeats 8000000
set_option maxRecDepth 100000
theorem I0 {t:Int} {d:List UInt8} {row:AV} {L:List Blk} {K:AV→List Blk→Prop} (h:K (.bool (decide (t=4))) L):ad Tryz.prog 38 [.agg [.int .i64 t,.str d,row]] L K:=by
 replace h:=hid h
 refine ac Cc (by simp [np]) ?_
 simp only [np,aj]
 refine wk ?_
 exact aa rfl h.out
def LH (s:List UInt8):Option Upd→Upd×Int
 | none=>(uN,4)
 | some u=>if (wrU u).2≠0∨(wrU u).1≠s then (uN,4) else (u,0)
theorem KF {s:List UInt8} {n:Nd} (h:m8 s=.ok n):Gh s=LH s (fY n):=by rw [Gh,h];rfl
theorem Fw {l:List Nd} {k:Nat} (h:k<l.length):(ai l).getD (k * 3) .undef=.int .i64 (l.getD k aB).tag:=by
 have h3:=congrArg (fun l=>l[0]?) (db h)
 simp only [List.getElem?_take_of_lt (show 0<3 by omega),List.getElem?_drop,Nat.add_zero] at h3
 rw [List.getD_eq_getElem?_getD,h3,aP];rfl
theorem Ff (tg:Int) (dt:List UInt8) (l:List Nd):fY (.mk tg dt l) =
   if tg≠48∨l.length<2∨(l.getD 0 aB).tag≠2∨(l.getD 0 aB).data.length≠1 then none else
   if (((l.getD 0 aB).data.getD 0 0).toNat:Int)<1∨4<(((l.getD 0 aB).data.getD 0 0).toNat:Int)∨l.length≠1+(if (((l.getD 0 aB).data.getD 0 0).toNat:Int)=4 then 2 else 1)+(if (((l.getD 0 aB).data.getD 0 0).toNat:Int)=2 then 0 else 1) then none else
   if (c8 (l.getD 1 aB).data).2≠0∨(l.getD 1 aB).tag≠4 then none else
   if (((l.getD 0 aB).data.getD 0 0).toNat:Int)=4∧((c8 (l.getD 2 aB).data).2≠0∨(l.getD 2 aB).tag≠4) then none else
   if (((l.getD 0 aB).data.getD 0 0).toNat:Int)=2 then some ⟨(((l.getD 0 aB).data.getD 0 0).toNat:Int),(c8 (l.getD 1 aB).data).1,[],[]⟩ else
   if (l.getD (l.length - 1) aB).tag≠48 then none else
   (fI (l.getD (l.length - 1) aB).kids).map fun a=>⟨(((l.getD 0 aB).data.getD 0 0).toNat:Int),(c8 (l.getD 1 aB).data).1,if (((l.getD 0 aB).data.getD 0 0).toNat:Int)=4 then (c8 (l.getD 2 aB).data).1 else [],a⟩:=rfl
theorem Jb {tg:Int} {dt:List UInt8} {l:List Nd} {u:Upd} (h:fY (.mk tg dt l)=some u):(∀ r∈u.dn,∀ a∈r,a.1.length≤32)∧∀ r∈u.to,∀ a∈r,a.1.length≤32:=by
 rw [Ff] at h
 repeat' split at h
 all_goals first
   | (cases h;done)
   | (simp only [Option.some.injEq] at h;subst h;exact ⟨CS _,by simp⟩)
   | (rw [Option.map_eq_some_iff] at h
      obtain ⟨a,_,rfl⟩:=h
      refine ⟨CS _,?_⟩
      first|exact CS _|simp)
theorem KE {s:List UInt8} (hs:s.length≤1100000) {L:List Blk} {K:AV→List Blk→Prop} (h:K (rdA (Gh s)) L):ad Tryz.prog 14 [.str s] L K:=by
 rcases hw:m8 s with e|n
 · have h':K (.tup [.agg [.int .i64 0,.sl [] 0 none,.sl [] 0 none,.sl [] 0 none],.int .i64 e]) L:=by rw [Gh,hw] at h;exact h
   replace h':=hid h'
   have he:=G7 hw
   have kk1:Hid (∀ {L:List Blk} {K:AV→List Blk→Prop},K (.tup [.agg [.int .i64 0,.str [],.sl [] 0 none],.int .i64 e]) L→ad Tryz.prog 36 [.str s] L K):=@hid _ (by intro L K q;exact D0 hs (by rw [hw];exact q))
   clear hw h
   refine ac bh (by simp [az]) ?_
   simp only [az,aj]
   refine wk ?_
   exact ao (aa rfl h'.out)
 rw [KF hw] at h
 have hz:szB 1100000 4 n:=yy (by omega) (F7 hw 4)
 obtain ⟨tg,dt,l⟩:=n
 have kk1:Hid (∀ {L:List Blk} {K:AV→List Blk→Prop},K (.tup [.agg [.int .i64 tg,.str dt,.sl (ai l) l.length none],.int .i64 0]) L→ad Tryz.prog 36 [.str s] L K):=@hid _ (by intro L K q;exact D0 hs (by rw [hw,HJ,aM];exact q))
 have hsz:∀ u,fY (.mk tg dt l)=some u→dnR u.dn∧dnR u.to∧rr u:=fun u hu=>by
   obtain ⟨b1,b2,b3⟩:=Et hs hw (CG hu)
   obtain ⟨c1,c2⟩:=Jb hu
   exact ⟨⟨b1.1,fun r hr=>⟨b1.2 r hr,fun a ha=>by have:=c1 r hr a ha;omega⟩⟩,⟨b2.1,fun r hr=>⟨b2.2 r hr,fun a ha=>by have:=c2 r hr a ha;omega⟩⟩,b3⟩
 clear hw
 obtain ⟨_,hzl,hzk⟩:=hz
 simp only [Nd.kids] at hzl hzk
 obtain ⟨S,hS⟩:∃ S,fY (.mk tg dt l)=S:=⟨_,rfl⟩
 rw [hS] at h hsz
 have hno:S=none→Hid (K (.tup [.agg [.int .i64 0,.sl [] 0 none,.sl [] 0 none,.sl [] 0 none],.int .i64 4]) L):=fun e=>by rw [e] at h;exact hid h
 have hyes:∀ u,S=some u→Hid (K (rdA (LH s (some u))) L):=fun u e=>by rw [e] at h;exact hid h
 replace hno:=hid hno
 replace hyes:=hid hyes
 replace hsz:=hid hsz
 clear h
 obtain ⟨n0,hn0⟩:∃ x,l.getD 0 aB=x:=⟨_,rfl⟩
 rw [Ff,hn0] at hS
 by_cases a1:tg=48
 case neg =>
   rw [if_pos (.inl a1)] at hS
   have h':=hno.out hS.symm
   clear hS hno hyes hsz hzk
   refine ac bh (by simp [az]) ?_
   simp only [az,aj]
   refine wk ?_
   exact ao (aa rfl h'.out)
 by_cases a2:l.length<2
 · rw [if_pos (.inr (.inl a2))] at hS
   have h':=hno.out hS.symm
   have g1:(l.length:Int)<2:=by omega
   clear hS hno hyes hsz hzk
   subst a1
   refine ac bh (by simp [az]) ?_
   simp only [az,aj]
   refine wk ?_
   exact ao (aa rfl h'.out)
 have g1:¬ (l.length:Int)<2:=by omega
 have g2:(0:Int)<(l.length:Int):=by omega
 have f0:(ai l).getD 0 .undef=.int .i64 n0.tag:=by rw [← hn0];exact Fw (k:=0) (by omega)
 have f1:(ai l).getD 1 .undef=.str n0.data:=by rw [← hn0];exact eQ (k:=0) (by omega)
 have f2:=bU l
 have b0:0<(ai l).length:=by omega
 have b1:1<(ai l).length:=by omega
 by_cases a3:n0.tag=2
 case neg =>
   rw [if_pos (.inr (.inr (.inl a3)))] at hS
   have h':=hno.out hS.symm
   clear hS hno hyes hsz hzk
   subst a1
   refine ac bh (by simp [az]) ?_
   simp only [az,aj]
   refine wk ?_
   exact ao (aa rfl h'.out)
 rw [a3] at f0
 by_cases a4:n0.data.length=1
 case neg =>
   rw [if_pos (.inr (.inr (.inr a4)))] at hS
   have h':=hno.out hS.symm
   have g3:¬ (n0.data.length:Int)=1:=by omega
   clear hS hno hyes hsz hzk
   subst a1
   refine ac bh (by simp [az]) ?_
   simp only [az,aj]
   refine wk ?_
   exact ao (aa rfl h'.out)
 rw [if_neg (by simp [a1,a2,a3,a4])] at hS
 obtain ⟨c,hc⟩:∃ c,n0.data=[c]:=by
   rcases hd:n0.data with _|⟨c,_|⟨c2,r⟩⟩
   · rw [hd] at a4;cases a4
   · exact ⟨c,rfl⟩
   · rw [hd] at a4;simp at a4
 rw [hc] at f1 hS
 simp only [List.getD_cons_zero] at hS
 obtain ⟨k,hk⟩:∃ k:Int,((c.toNat:Nat):Int)=k:=⟨_,rfl⟩
 rw [hk] at hS
 have hk256:=c.toNat_lt
 have wk0:IntKind.i64.wrap (c.toNat:Int)=k:=by rw [ab (by omega) (by omega),hk]
 obtain ⟨nm,hnm⟩:∃ x:Int,(if k=4 then 2 else 1)=x:=⟨_,rfl⟩
 obtain ⟨ls,hls⟩:∃ x:Int,(if k=2 then 0 else 1)=x:=⟨_,rfl⟩
 subst a1
 clear a2 a3 a4 hn0 hc
 obtain ⟨b4,c4⟩:∃ b,decide (k=4)=b:=⟨_,rfl⟩
 obtain ⟨b2,c2⟩:∃ b,decide (k=2)=b:=⟨_,rfl⟩
 have hway:(b4=true∧b2=false∧nm=2∧ls=1)∨(b4=false∧b2=true∧nm=1∧ls=0)∨(b4=false∧b2=false∧nm=1∧ls=1):=by
   by_cases k4:k=4
   · have k2:¬ k=2:=by omega
     left
     exact ⟨by rw [← c4];simpa using k4,by rw [← c2];simpa using k2,by rw [← hnm,if_pos k4],by rw [← hls,if_neg k2]⟩
   · right
     by_cases k2:k=2
     · left
       exact ⟨by rw [← c4];simpa using k4,by rw [← c2];simpa using k2,by rw [← hnm,if_neg k4],by rw [← hls,if_pos k2]⟩
     · right
       exact ⟨by rw [← c4];simpa using k4,by rw [← c2];simpa using k2,by rw [← hnm,if_neg k4],by rw [← hls,if_neg k2]⟩
 have v2:IntKind.i64.wrap 2=2:=by decide
 have v3:IntKind.i64.wrap 3=3:=by decide
 have v4:IntKind.i64.wrap 4=4:=by decide
 by_cases k1:k<1
 · rw [if_pos (.inl k1)] at hS
   have h':=hno.out hS.symm
   have hw3:b4=false∧b2=false:=⟨by rw [← c4];simp;omega,by rw [← c2];simp;omega⟩
   obtain ⟨rfl,rfl⟩:=hw3
   clear hS hno hyes hsz hzk hway hnm hls hk
   refine ac bh (by simp [az]) ?_
   simp only [az,aj]
   refine wk ?_
   exact ao (aa rfl h'.out)
 by_cases k5:4<k
 · rw [if_pos (.inr (.inl k5))] at hS
   have h':=hno.out hS.symm
   have hw3:b4=false∧b2=false:=⟨by rw [← c4];simp;omega,by rw [← c2];simp;omega⟩
   obtain ⟨rfl,rfl⟩:=hw3
   clear hS hno hyes hsz hzk hway hnm hls hk
   refine ac bh (by simp [az]) ?_
   simp only [az,aj]
   refine wk ?_
   exact ao (aa rfl h'.out)
 have hlen:(l.length≠1+(if k=4 then 2 else 1)+(if k=2 then 0 else 1))↔¬ (l.length:Int)=1+nm+ls:=by
   rw [← hnm,← hls]
   split<;>split<;>omega
 by_cases k6:(l.length:Int)=1+nm+ls
 case neg =>
   rw [if_pos (.inr (.inr (hlen.2 k6)))] at hS
   have h':=hno.out hS.symm
   clear hS hno hyes hsz hzk hlen hnm hls hk
   rcases hway with ⟨rfl,rfl,rfl,rfl⟩|⟨rfl,rfl,rfl,rfl⟩|⟨rfl,rfl,rfl,rfl⟩
   all_goals
     simp only [Int.reduceAdd] at k6
     refine ac bh (by simp [az]) ?_
     simp only [az,aj]
     refine wk ?_
     exact ao (aa rfl h'.out)
 rw [if_neg (by simp only [not_or];exact ⟨k1,k5,fun e=>hlen.1 e k6⟩)] at hS
 clear hlen
 have k24:k=4→b4=true:=fun e=>by rw [← c4];simpa using e
 have k42:b4=true→k=4:=fun e=>by rw [e] at c4;simpa using c4
 have k22:b2=true→k=2:=fun e=>by rw [e] at c2;simpa using c2
 have k21:k=2→b2=true:=fun e=>by rw [← c2];simpa using e
 obtain ⟨n1,hn1⟩:∃ x,l.getD 1 aB=x:=⟨_,rfl⟩
 obtain ⟨n2,hn2⟩:∃ x,l.getD 2 aB=x:=⟨_,rfl⟩
 have g3:(1:Int)<(l.length:Int):=by omega
 have f3:(ai l).getD 4 .undef=.str n1.data:=by rw [← hn1];exact eQ (k:=1) (by omega)
 have f4:((ai l).drop 3).take 3=[.int .i64 n1.tag,.str n1.data,.sl (ai n1.kids) n1.kids.length none]:=by rw [← aP,← hn1];exact db (k:=1) (by omega)
 have b3:4<(ai l).length:=by omega
 have b5:6≤(ai l).length:=by omega
 rw [hn1,hn2] at hS
 obtain ⟨⟨d1,e1⟩,hp1⟩:∃ q,c8 n1.data=q:=⟨_,rfl⟩
 obtain ⟨⟨d2,e2⟩,hp2⟩:∃ q,c8 n2.data=q:=⟨_,rfl⟩
 have kk2:Hid (∀ {L:List Blk} {K:AV→List Blk→Prop},K (.tup [dnA d1,.int .i64 e1]) L→ad Tryz.prog 37 [.str n1.data] L K):=@hid _ (by intro L K q;exact Fg (by rw [hp1];exact q))
 have kk4:Hid (∀ {L:List Blk} {K:AV→List Blk→Prop},K (.tup [dnA d2,.int .i64 e2]) L→ad Tryz.prog 37 [.str n2.data] L K):=@hid _ (by intro L K q;exact Fg (by rw [hp2];exact q))
 have kk3:Hid (∀ {t:Int} {d:List UInt8} {row:AV} {L:List Blk} {K:AV→List Blk→Prop},K (.bool (decide (t=4))) L→ad Tryz.prog 38 [.agg [.int .i64 t,.str d,row]] L K):=@hid _ (by intro t d row L K q;exact I0 q)
 rw [hp1,hp2] at hS
 simp only at hS
 obtain ⟨xq,hxq⟩:∃ x,l.getD (l.length - 1) aB=x:=⟨_,rfl⟩
 rw [hxq] at hS
 obtain ⟨N0,hN0⟩:∃ b,Blk.cells [.int .i64 48,.str dt,.sl (ai l) l.length none]=b:=⟨_,rfl⟩
 obtain ⟨to',hto⟩:∃ x,(if k=4 then d2 else [])=x:=⟨_,rfl⟩
 rw [hto] at hS
 replace hN0:=hid hN0
 have hnm1:1≤nm∧nm≤2:=by rw [← hnm];split<;>omega
 replace hS:=hid hS
 replace hzk:=hid hzk
 have f5:nm=2→Hid ((ai l).getD 7 .undef=.str n2.data∧((ai l).drop 6).take 3=[.int .i64 n2.tag,.str n2.data,.sl (ai n2.kids) n2.kids.length none]∧(2:Int)<(l.length:Int)∧7<(ai l).length∧9≤(ai l).length):=fun e=>hid (by
   have:2<l.length:=by rw [← hls] at k6;split at k6<;>omega
   refine ⟨by rw [← hn2];exact eQ (k:=2) this,by rw [← aP,← hn2];exact db (k:=2) this,by omega,by omega,by omega⟩)
 replace f5:=hid f5
 replace hnm:=hid hnm
 replace hls:=hid hls
 replace k24:=hid k24
 replace k42:=hid k42
 replace k22:=hid k22
 replace k21:=hid k21
 replace hk:=hid hk
 clear hn1 hn2 hp1 hp2
 rcases hway with ⟨rfl,rfl,hn,hl0⟩|⟨rfl,rfl,hn,hl0⟩|⟨rfl,rfl,hn,hl0⟩
 all_goals
   rw [hn,hl0] at k6
   simp only [Int.reduceAdd] at k6
   have k7:=hid k6
   refine ac bh (by simp [az]) ?_
   simp only [az,aj]
   refine wk ?_
   rw [hN0.out]
   have hno':=hno
   refine ak (fun m T' L'=>∃ (j:Nat) (U:List AV),m=3 - j∧((j=1∧U=[.int .i64 k,.sl [] 0 (some 0),.sl [] 0 (some 0),.sl [] 0 (some 0)])∨(j=2∧e1=0∧n1.tag=4∧U=[.int .i64 k,dnA d1,.sl [] 0 (some 0),.sl [] 0 (some 0)])∨(j=3∧nm=2∧e1=0∧n1.tag=4∧e2=0∧n2.tag=4∧U=[.int .i64 k,dnA d1,dnA d2,.sl [] 0 (some 0)]))∧T'=[(10,.int .i64 (j:Int)),(9,.int .i64 ls),(8,.int .i64 nm),(7,.ptr (L.length+2) 0),(6,.sl (ai l) l.length none),(2,.ptr L.length 0),(0,.str s)]∧L'=L++(.cells [.int .i64 0,.sl [] 0 (some 0),.sl [] 0 (some 0),.sl [] 0 (some 0)]::N0::[.cells U])) (CutL (b:=by simp)) ⟨1,_,rfl,.inl ⟨rfl,rfl⟩,rfl,rfl⟩ ?_
   rintro _ _ _ ⟨j,U,rfl,hU,rfl,rfl⟩
   by_cases hjn:(j:Int)≤nm
   · rcases hU with ⟨rfl,rfl⟩|⟨rfl,u1,u2,rfl⟩|⟨rfl,u0,_⟩
     · have i1:(1:Int)≤nm:=by omega
       by_cases e1z:e1=0
       case neg =>
         have hS2:=hS.out
         rw [if_pos (.inl e1z)] at hS2
         have h':=hno.out hS2.symm
         clear hS2 hn hl0 hjn
         refine wk ?_
         exact ao (aa rfl h'.out)
       by_cases t1z:n1.tag=4
       case neg =>
         have hS2:=hS.out
         rw [if_pos (.inr t1z)] at hS2
         have h':=hno.out hS2.symm
         clear hS2 hn hl0 hjn
         subst e1z
         refine wk ?_
         exact ao (aa rfl h'.out)
       clear hn hl0 hjn
       rw [t1z] at f4
       replace t1z:=hid t1z
       subst e1z
       refine wk ?_
       exact an _ _ _ (by omega) (CutL (b:=by simp)) ⟨2,_,rfl,.inr (.inl ⟨rfl,t1z.out,rfl⟩),rfl,rfl⟩
     · have i1:(2:Int)≤nm:=by omega
       have i2:nm=2:=by omega
       obtain ⟨q1,q2,q3,q4,q5⟩:=(f5.out i2).out
       have hk4:k=4:=by have:=hnm.out;split at this<;>omega
       by_cases e2z:e2=0
       case neg =>
         have hS2:=hS.out
         rw [if_neg (by simp [u1,u2]),if_pos ⟨hk4,.inl e2z⟩] at hS2
         have h':=hno.out hS2.symm
         clear hS2 hn hl0 hjn hk4 u1 u2 i2
         refine wk ?_
         exact ao (aa rfl h'.out)
       by_cases t2z:n2.tag=4
       case neg =>
         have hS2:=hS.out
         rw [if_neg (by simp [u1,u2]),if_pos ⟨hk4,.inr t2z⟩] at hS2
         have h':=hno.out hS2.symm
         clear hS2 hn hl0 hjn hk4 u1 u2 i2
         subst e2z
         refine wk ?_
         exact ao (aa rfl h'.out)
       clear hn hl0 hjn hk4
       rw [t2z] at q2
       replace t2z:=hid t2z
       replace u1:=hid u1
       replace u2:=hid u2
       replace i2:=hid i2
       subst e2z
       refine wk ?_
       exact an _ _ _ (by omega) (CutL (b:=by simp)) ⟨3,_,rfl,.inr (.inr ⟨rfl,i2.out,u1.out,u2.out,t2z.out,rfl⟩),rfl,rfl⟩
     · omega
   obtain ⟨ct,hU2,u1,u2,u3⟩:∃ ct:Option Nat,U=[.int .i64 k,dnA d1,.sl (to'.map aH) to'.length ct,.sl [] 0 (some 0)]∧e1=0∧n1.tag=4∧(k=4→e2=0∧n2.tag=4):=by
     have:=hnm.out
     rcases hU with ⟨rfl,rfl⟩|⟨rfl,u1,u2,rfl⟩|⟨rfl,u0,u1,u2,u3,u4,rfl⟩
     · omega
     · have hk4:¬ k=4:=fun e=>by rw [if_pos e] at this;omega
       exact ⟨some 0,by rw [← hto,if_neg hk4];rfl,u1,u2,fun e=>absurd e hk4⟩
     · have hk4:k=4:=by split at this<;>omega
       exact ⟨none,by rw [← hto,if_pos hk4],u1,u2,fun _=>⟨u3,u4⟩⟩
   subst hU2
   have hS2:=hS.out
   rw [if_neg (by simp [u1,u2]),if_neg (by intro e;have:=u3 e.1;simp [this] at e)] at hS2
   clear hU u1 u2 u3 hS f3 f4 b3 b5 f5 f0 f1 b0 b1 kk1 kk2 kk4 g1 g2 g3
   have wr:∀ {a:List Atr} {AR:AV} {w:List UInt8} {e:Int},S=some ⟨k,d1,to',a⟩→AR.frz=.sl (bI a) a.length none→wrU ⟨k,d1,to',a⟩=(w,e) →
       Hid (∀ {L:List Blk} {K:AV→List Blk→Prop},K (.tup [.str w,.int .i64 e]) L→ad Tryz.prog 9 [.agg [.int .i64 k,dnA d1,.sl (to'.map aH) to'.length ct,AR]] L K) ∧
       (∀ X:List Blk,e=0→w=s→Fin L (.tup [.agg [.int .i64 k,dnA d1,.sl (to'.map aH) to'.length ct,AR],.int .i64 0]) (L++X) K) ∧
       (∀ X:List Blk,¬ (e=0∧w=s)→Fin L (.tup [.agg [.int .i64 0,.sl [] 0 (some 0),.sl [] 0 (some 0),.sl [] 0 (some 0)],.int .i64 4]) (L++X) K):=fun {a AR w e} h1 h2 h3=>by
     obtain ⟨z1,z2,z3⟩:=hsz.out _ h1
     have hy:=(hyes.out _ h1).out
     rw [LH,h3] at hy
     refine ⟨@hid _ ?_,fun X he hw=>?_,fun X hn=>?_⟩
     · intro L K q
       refine dL ?_
       simp only [AV.frzL,AV.frz,bJ,h2]
       exact I9 (u:=⟨k,d1,to',a⟩) z1 z2 z3 (by rw [h3];exact q)
     · rw [if_neg (by simp [he,hw])] at hy
       refine ao ?_
       simp only [AV.frzL,AV.frz,bJ,h2]
       exact aa (by simp only [AV.refs,AV.refsL,dm,m7];rfl) hy
     · rw [if_pos (by by_cases he:e=0;exact .inr (fun hw=>hn ⟨he,hw⟩);exact .inl he)] at hy
       exact ao (aa rfl hy)
   by_cases hl1:ls=1
   case neg =>
     have hk2:k=2:=by have:=hls.out;split at this<;>omega
     have hk4:¬ k=4:=by omega
     have ht0:to'=[]:=by rw [← hto,if_neg hk4]
     rw [if_pos hk2] at hS2
     have g9:ls=0:=by have:=hls.out;split at this<;>omega
     obtain ⟨⟨w,e⟩,hwe⟩:∃ q,wrU ⟨k,d1,to',[]⟩=q:=⟨_,rfl⟩
     obtain ⟨kk4,w1,w2⟩:=wr (AR:=.sl [] 0 (some 0)) (by rw [← hS2,ht0]) rfl hwe
     replace w1:=hid w1
     replace w2:=hid w2
     clear wr hk2 hk4 ht0 hS2 hwe hto hl0 hn hl1
     by_cases ez:e=0
     · by_cases hws:w=s
       · subst ez
         subst hws
         refine wk ?_
         exact w1.out _ rfl rfl
       · have w3:=fun X=>w2.out X (fun h=>hws h.2)
         replace w3:=hid w3
         subst ez
         refine wk ?_
         exact w3.out _
     · have w3:=fun X=>w2.out X (fun h=>ez h.1)
       replace w3:=hid w3
       refine wk ?_
       exact w3.out _
   have hk2:¬ k=2:=by have:=hls.out;split at this<;>omega
   rw [if_neg hk2] at hS2
   have hl9:ls=1:=hl1
   have hl2:2≤l.length:=by have:=k7.out;omega
   obtain ⟨q,hq⟩:∃ q,l.length - 1=q:=⟨_,rfl⟩
   have wq:IntKind.i64.wrap ((l.length:Int) - 1)=(q:Int):=by rw [ab (by omega) (by omega)];omega
   have g4:(q:Int)<(l.length:Int):=by omega
   have g5:q * 3+3≤(ai l).length:=by rw [f2];omega
   have f6:((ai l).drop (q * 3)).take 3=[.int .i64 xq.tag,.str xq.data,.sl (ai xq.kids) xq.kids.length none]:=by rw [← aP,← hxq,hq];exact db (by omega)
   obtain ⟨_,hxl,hxk⟩:=hzk.out xq (by rw [← hxq];simp [show l.length - 1<l.length by omega])
   by_cases hx48:xq.tag=48
   case neg =>
     rw [if_pos hx48] at hS2
     have h':=hno.out hS2.symm
     clear hS2 hno hyes hsz wr hl0 hn hxk hto hxq hk2 hno' k6 hq
     refine wk ?_
     exact ao (aa rfl h'.out)
   rw [if_neg (by simpa using hx48)] at hS2
   rw [hx48] at f6
   obtain ⟨xd,hxd⟩:∃ s,xq.data=s:=⟨_,rfl⟩
   obtain ⟨ks,hks⟩:∃ s,xq.kids=s:=⟨_,rfl⟩
   rw [hxd,hks] at f6
   rw [hks] at hS2 hxl hxk
   obtain ⟨A,hA⟩:∃ A,fI ks=A:=⟨_,rfl⟩
   rw [hA] at hS2
   replace hxk:=hid hxk
   replace wr:=@hid _ @wr
   replace hS2:=hid hS2
   clear hyes hsz hzk hl0 hn hto hxq hxd hks hx48 hk2 hl1 k6 hno' hq hN0 hnm hls hk k24 k42 k22 k21 k7 c4 c2
   refine wk ?_
   refine fo (L.length+2) 3 2 (c:=[.int .i64 k,dnA d1,.sl (to'.map aH) to'.length ct,.sl [] 0 (some 0)]) (l:=[]) (n:=0) (by simp) rfl (Nat.zero_mul 2).symm ?_
   obtain ⟨XB,hXB⟩:∃ b,Blk.cells [.int .i64 48,.str xd,.sl (ai ks) ks.length none]=b:=⟨_,rfl⟩
   rw [hXB]
   clear hXB f6 wq g4 g5 hjn
   refine ak (fun m T' L'=>∃ (acc:List Atr) (i:Nat) (D:List AV) (Y:List Blk),m=ks.length - i∧i≤ks.length∧Hid ((fI (ks.drop i)).map (fun r=>acc++r)=A)∧Hid (D=bI acc∧i=acc.length)∧T'=[(133,.int .i64 (i:Int)),(132,.int .i64 ks.length),(131,.sl (ai ks) ks.length none),(7,.ptr (L.length+2) 0),(2,.ptr L.length 0),(0,.str s)]∧L'=L++(.cells [.int .i64 0,.sl [] 0 (some 0),.sl [] 0 (some 0),.sl [] 0 (some 0)]::N0 :: .cells [.int .i64 k,dnA d1,.sl (to'.map aH) to'.length ct,.gsl D i (L.length+4) 2]::XB :: .spare i 2::Y)) (CutS (b:=by simp)) ⟨[],0,[],[],rfl,Nat.zero_le _,hid (by rw [List.drop_zero,hA];cases A<;>rfl),hid ⟨rfl,rfl⟩,rfl,by simp⟩ ?_
   rintro _ _ _ ⟨acc,i,D,Y,rfl,hi,hJ,hDj,rfl,rfl⟩
   by_cases hil:i<ks.length
   · have j1:(i:Int)<(ks.length:Int):=by omega
     have j2:IntKind.i64.wrap ((i:Int)+1)=(i:Int)+1:=ab (by omega) (by omega)
     have e3:=db hil
     have e4:i * 3+3≤(ai ks).length:=by rw [bU];omega
     obtain ⟨a,ha⟩:∃ a,ks.getD i aB=a:=⟨_,rfl⟩
     have hdr:ks.drop i=a::ks.drop (i+1):=by rw [List.drop_eq_getElem_cons hil,← ha];simp [hil]
     obtain ⟨_,hal,hak⟩:=hxk.out a (by rw [← ha];simp [hil])
     rw [ha,aP] at e3
     have hJ2:=hJ.out
     rw [hdr,fI] at hJ2
     clear hJ hdr ha hA
     have hnone:A7 a=none→Hid (K (.tup [.agg [.int .i64 0,.sl [] 0 none,.sl [] 0 none,.sl [] 0 none],.int .i64 4]) L):=fun e=>hno.out (by
       rw [e] at hJ2
       rw [← hS2.out,← hJ2];rfl)
     clear hno
     unfold A7 at hnone
     by_cases y1:a.tag=48
     case neg =>
       have h':=hnone (if_pos (.inl y1))
       clear hJ2 hnone wr
       refine wk ?_
       exact ao (aa rfl h'.out)
     rw [y1] at e3
     by_cases y2:a.kids.length=2
     case neg =>
       have h':=hnone (if_pos (.inr (.inl y2)))
       have g2:¬ (a.kids.length:Int)=2:=by omega
       clear hJ2 hnone wr y1
       refine wk ?_
       exact ao (aa rfl h'.out)
     have g2:(a.kids.length:Int)=2:=by omega
     obtain ⟨m0,hm0⟩:∃ x,a.kids.getD 0 aB=x:=⟨_,rfl⟩
     obtain ⟨m1,hm1⟩:∃ x,a.kids.getD 1 aB=x:=⟨_,rfl⟩
     have p0:(ai a.kids).take 3=[.int .i64 m0.tag,.str m0.data,.sl (ai m0.kids) m0.kids.length none]:=by rw [← aP,← hm0];exact db (k:=0) (by omega)
     have p1:(ai a.kids).getD 1 .undef=.str m0.data:=by rw [← hm0];exact eQ (k:=0) (by omega)
     have p3:(ai a.kids).getD 3 .undef=.int .i64 m1.tag:=by rw [← hm1];exact Fw (k:=1) (by omega)
     have p5:(ai a.kids).getD 5 .undef=.sl (ai m1.kids) m1.kids.length none:=by rw [← hm1];exact Ea (k:=1) (by omega)
     have p6:(ai a.kids).length=6:=by rw [bU];omega
     rw [hm0,hm1] at hnone
     have hsome:m0.tag=4→m1.tag=49→(m1.kids.all fun v=>decide (v.tag=4))=true→Hid (A7 a=some (m0.data,eo m1.kids)):=fun x0 x1 x2=>hid (by
       unfold A7
       rw [hm0,hm1,if_neg (by simp [y1,y2,x0,x1]),if_pos x2])
     have hm1z:m1.kids.length≤1100000:=(CC (hak m1 (by rw [← hm1];simp [show 1<a.kids.length by omega]))).2
     replace hsome:=hid hsome
     by_cases y3:m0.tag=4
     case neg =>
       have h':=hnone (if_pos (.inr (.inr (.inl y3))))
       clear hJ2 hnone wr y1 y2 hsome hak
       refine wk ?_
       exact ao (aa rfl h'.out)
     rw [y3] at p0
     by_cases y4:m1.tag=49
     case neg =>
       have h':=hnone (if_pos (.inr (.inr (.inr y4))))
       clear hJ2 hnone wr y1 y2 hsome hak y3
       refine wk ?_
       exact ao (aa rfl h'.out)
     rw [y4] at p3
     rw [if_neg (by simp [y1,y2,y3,y4])] at hnone
     obtain ⟨md,hmd⟩:∃ s,m0.data=s:=⟨_,rfl⟩
     obtain ⟨vk,hvk⟩:∃ s,m1.kids=s:=⟨_,rfl⟩
     rw [hmd] at p0 p1 hsome
     rw [hvk] at p5 hsome hnone hm1z
     have hsm:=fun h=>(hsome.out y3 y4 h).out
     replace hsm:=hid hsm
     replace hnone:=hid hnone
     replace hJ2:=hid hJ2
     clear hsome hm0 hm1 hmd hvk hak y1 y2 y3 y4
     refine wk ?_
     refine fo (L.length+(Y.length+1+1+1+1+1+1)) 1 1 (c:=[.str md,.sl [] 0 (some 0)]) (l:=[]) (n:=0) (by simp) rfl (Nat.zero_mul 1).symm ?_
     refine ak (fun m T' L'=>∃ (p:Nat) (E:List AV) (Z:List Blk),m=vk.length - p∧p≤vk.length∧Hid (E=(eo (vk.take p)).map AV.str∧((vk.take p).all fun v=>decide (v.tag=4))=true)∧T'=[(175,.int .i64 (p:Int)),(174,.int .i64 vk.length),(173,.sl (ai vk) vk.length none),(16,.ptr (L.length+(Y.length+1+1+1+1+1+1)) 0),(133,.int .i64 (i:Int)),(132,.int .i64 ks.length),(131,.sl (ai ks) ks.length none),(7,.ptr (L.length+2) 0),(2,.ptr L.length 0),(0,.str s)]∧L'=L++(.cells [.int .i64 0,.sl [] 0 (some 0),.sl [] 0 (some 0),.sl [] 0 (some 0)]::N0 :: .cells [.int .i64 k,dnA d1,.sl (to'.map aH) to'.length ct,.gsl D i (L.length+4) 2]::XB :: .spare i 2::(Y++(.cells [.int .i64 48,.str a.data,.sl (ai a.kids) a.kids.length none] :: .cells [.str md,.gsl E p (L.length+(Y.length+1+1+1+1+1+1+1)) 1] :: .spare p 1::Z)))) (CutS (b:=by simp)) ⟨0,[],[],rfl,Nat.zero_le _,hid ⟨rfl,rfl⟩,rfl,by simp⟩ ?_
     rintro _ _ _ ⟨p,E,Z,rfl,hp,hE,rfl,rfl⟩
     by_cases hpl:p<vk.length
     · have q1:(p:Int)<(vk.length:Int):=by omega
       have q2:IntKind.i64.wrap ((p:Int)+1)=(p:Int)+1:=ab (by omega) (by omega)
       have e5:=db hpl
       have e6:p * 3+3≤(ai vk).length:=by rw [bU];omega
       obtain ⟨v,hv⟩:∃ v,vk.getD p aB=v:=⟨_,rfl⟩
       rw [hv,aP] at e5
       have htk1:vk.take (p+1)=vk.take p++[v]:=by rw [List.take_succ_eq_append_getElem hpl,show vk[p]=v by rw [← hv];simp [hpl]]
       have hvm:v∈vk:=by rw [← hv];simp [hpl]
       by_cases hv4:v.tag=4
       · have htk:(eo (vk.take (p+1))).map AV.str=E++[.str v.data]∧((vk.take (p+1)).all fun v=>decide (v.tag=4))=true:=by
           refine ⟨by rw [hE.out.1,htk1];simp [eo],?_⟩
           rw [htk1,List.all_append,hE.out.2];simp [hv4]
         replace htk:=hid htk
         rw [hv4] at e5
         clear hv hE htk1 hvm hv4 p0 p1 p3 p5 p6 e3 e4 hsm hnone hJ2 wr
         refine wk ?_
         exact an _ _ _ (by omega) (CutL (b:=by simp)) ⟨p+1,_,Z++[.cells [.int .i64 4,.str v.data,.sl (ai v.kids) v.kids.length none]],rfl,hpl,hid ⟨htk.out.1.symm,htk.out.2⟩,rfl,by simp⟩
       · have h':=hnone.out (by
           rw [if_neg]
           intro hall
           rw [List.all_eq_true] at hall
           have:=hall v hvm
           simp at this
           exact hv4 this)
         clear hv hE htk1 hvm p0 p1 p3 p5 p6 e3 e4 hsm hnone hJ2 wr
         refine wk ?_
         exact ao (aa rfl h'.out)
     · have hpe:p=vk.length:=by omega
       subst hpe
       have q1:¬ (vk.length:Int)<(vk.length:Int):=by omega
       obtain ⟨hE1,hE2⟩:=hE.out
       rw [List.take_length] at hE1 hE2
       have e5:AV.frzL E=E:=by rw [hE1];exact At _
       have hJ3:(fI (ks.drop (i+1))).map (fun r=>(acc++[(md,eo vk)])++r)=A:=by
         have:=hJ2.out
         rw [hsm.out hE2] at this
         simp only at this
         rw [← this]
         cases fI (ks.drop (i+1))<;>simp
       have hDn:D++[.str md,.sl E vk.length none]=bI (acc++[(md,eo vk)]):=by
         rw [hDj.out.1,Dx,hE1]
         simp only [bI,List.flatMap_cons,List.flatMap_nil,List.append_nil,atA,eo,List.length_map]
       replace hDn:=hid hDn
       replace hJ3:=hid hJ3
       clear hE hE1 hE2 p0 p1 p3 p5 p6 e3 e4 hsm hnone hJ2 wr
       refine wk ?_
       exact an _ _ _ (by omega) (CutL (b:=by simp)) ⟨acc++[(md,eo vk)],i+1,_,_,rfl,hil,hJ3,hid ⟨hDn.out,by rw [hDj.out.2];simp⟩,rfl,rfl⟩
   · have hie:i=ks.length:=by omega
     subst hie
     have j1:¬ (ks.length:Int)<(ks.length:Int):=by omega
     have hJ2:=hJ.out
     rw [List.drop_length,fI] at hJ2
     simp only [Option.map_some,List.append_nil] at hJ2
     obtain ⟨⟨w,e⟩,hwe⟩:∃ q,wrU ⟨k,d1,to',acc⟩=q:=⟨_,rfl⟩
     obtain ⟨kk4,w1,w2⟩:=wr.out (a:=acc) (AR:=.gsl D ks.length (L.length+4) 2) (by rw [← hS2.out,← hJ2];rfl) (by simp only [AV.frz];rw [hDj.out.1,hDj.out.2,vd]) hwe
     replace w1:=hid w1
     replace w2:=hid w2
     clear wr hJ2 hwe hJ hDj
     by_cases ez:e=0
     · by_cases hws:w=s
       · subst ez
         subst hws
         refine wk ?_
         exact w1.out _ rfl rfl
       · have w3:=fun X=>w2.out X (fun h=>hws h.2)
         replace w3:=hid w3
         subst ez
         refine wk ?_
         exact w3.out _
     · have w3:=fun X=>w2.out X (fun h=>ez h.1)
       replace w3:=hid w3
       refine wk ?_
       exact w3.out _
set_option maxHeartbeats 8000000
set_option maxRecDepth 100000
theorem KK {s:List UInt8} {L:List Blk} {K:AV→List Blk→Prop} (h:K (.bool true) L):ad Tryz.prog 4 [.str s] L K:=by
 replace h:=hid h
 have kk1:Hid (∀ {L:List Blk} {K:AV→List Blk→Prop},K (.bool true) L→ad Tryz.prog 7 [] L K):=@hid _ (by intro L K q;exact IA q)
 by_cases hl:20000<s.length
 · have g1:(20000:Int)<(s.length:Int):=by omega
   clear hl
   refine ac fm (by simp [bV]) ?_
   simp only [bV,aj]
   refine wk ?_
   exact aq h.out
 have g1:¬ (20000:Int)<(s.length:Int):=by omega
 have he:rdU s=Gh s:=LI fun n u hw hu=>(Et (by omega) hw hu).2.2
 obtain ⟨⟨x,e⟩,hx⟩:∃ q,rdU s=q:=⟨_,rfl⟩
 rw [hx] at he
 have hb:Eo x:=My (by omega) hx
 have kk2:Hid (∀ {L:List Blk} {K:AV→List Blk→Prop},K (.tup [.agg (gk x),.int .i64 e]) L→ad Tryz.prog 13 [.str s] L K):=@hid _ (by intro L K q;exact Jg (by omega) (by rw [hx];exact q))
 have kk3:Hid (∀ {L:List Blk} {K:AV→List Blk→Prop},K (.tup [.agg (gk x),.int .i64 e]) L→ad Tryz.prog 14 [.str s] L K):=@hid _ (by intro L K q;exact KE (by omega) (by rw [← he];exact q))
 have kk4:Hid (∀ {L:List Blk} {K:AV→List Blk→Prop},K (.bool true) L→ad Tryz.prog 10 [.agg (gk x),.agg (gk x)] L K):=@hid _ (by intro L K q;exact KD hb q)
 clear hl he hx hb
 refine ac fm (by simp [bV]) ?_
 simp only [bV,aj]
 refine wk ?_
 exact aa rfl h.out
end Go.Proofs.YtgpnbkdcdmfgcaaGreat.Av
