/- Joined texts of the walk, made small by a program. -/
import Derived.Test.YtobihfefmlgaoaaGreatRk16
import Derived.Test.YtobihfefmlgaoaaGreatRk15
import Derived.Test.YtobihfefmlgaoaaGreatRk13
import Derived.Test.YtobihfefmlgaoaaGreatRk12
import Derived.Test.YtobihfefmlgaoaaGreatRk4
import Derived.Test.YtobihfefmlgaoaaGreatRows
import Derived.KernelRfl
set_option linter.unusedSimpArgs false
set_option linter.unusedVariables false
namespace Go.Proofs.YtobihfefmlgaoaaGreat.Av
open Go
variable {L:List Blk} {K:afC}
set_option maxHeartbeats 8000000
set_option maxRecDepth 100000
theorem aec (s:List UInt8):slN s 0 s.length=s:=by simp [slN]
theorem Vo {s:List UInt8} (hs:s.length<=1100000) (h:K (yy (gH 64 s)) L):afB 107 [.str s] L K:=by
 obtain ⟨⟨n,p,b⟩,hel⟩:∃ x,elN 64 s s.length 0=x:=⟨_,rfl⟩;have he:=Zj 64 (ahp s.length) (ahn s.length);unfold ElP at he;rw [aec,hel] at he;have kk1:Hid (∀ {A:List Blk} {x:Blk} {K:afC},K (.agg [.int .i64 n.tag,.str n.data,.sl (aC n.kids) n.kids.length none]) (A++[x,.cells [.str s,.int .i64 (p:Int),.int .i64 b]])->afB 140 [.ptr (A.length+1) 0,.int .i64 (s.length:Int),.int .i64 1] (A++[x,.cells [.str s,.int .i64 0,.int .i64 0]]) K):=@hid _ (by
  intro A x K q;refine agN 64 (e:=s.length) (pos:=0) hs (by omega) (by omega) (ahn _) (ahp _) (r:=A.length+1) (by simp [rdB]) ?_;rw [hel];simp only;rw [bJ];simpa [rdB] using q)
 have e0:=bR n.kids;rcases hp:gH 64 s with e|⟨n',r⟩
 ·rw [hp] at h he;simp only at he;subst he;have hb:b≠0:=ug 64 s b hp;simp only [yy] at h;replace h:=hid h;clear hp hel;refine acg yI ?_;refine ay ?_;exact ab rfl h.out
 ·rw [hp] at h he;obtain ⟨p',h2,_,h3,rfl⟩:=he;cases h2;simp only [yy,bJ] at h;replace h:=hid h;have g1:(p:Int)<=(s.length:Int):=by omega
  have g2:(s.drop p).take (s.length - p)=slN s p s.length:=rfl;clear hp hel;refine acg yI ?_;refine ab ?_ h.out;simp only [AV.refs,AV.refsL,dP];rfl
theorem Vn {s:List UInt8} (hs:s.length<=1100000) (h:K (aas (uN s)) L):afB 74 [.str s] L K:=by
 unfold uN at h;rcases hp:gH 64 s with e|⟨n,r⟩
 ·rw [hp] at h;replace h:=hid h;have he:=ug _ _ _ hp;have kk1:Hid (Ctr Tryz.prog 107 [.str s] (.tup [.agg [.int .i64 0,.str [],.sl [] 0 none],.str [],.int .i64 e])):=@hid _ (by intro L K q;exact Vo hs (by rw [hp];exact q));clear hp;refine acg mG ?_;exact ay (ab rfl h.out)
 ·rw [hp] at h;simp only at h;have kk1:Hid (Ctr Tryz.prog 107 [.str s] (.tup [.agg [.int .i64 n.tag,.str n.data,.sl (aC n.kids) n.kids.length none],.str r,.int .i64 0])):=@hid _ (by intro L K q;exact Vo hs (by rw [hp,yy,bJ];exact q));have e0:=bR n.kids;by_cases hr:r=[]
  ·rw [if_pos hr] at h;rw [aas,bJ] at h;replace h:=hid h;subst hr;clear hp;refine acg mG ?_;refine ab ?_ h.out;simp only [AV.refs,AV.refsL,dP];rfl
  ·rw [if_neg hr] at h;replace h:=hid h;have g1:(0:Int)<(r.length:Int):=by have:=ah8.2 hr;omega
   clear hp;refine acg mG ?_;exact ay (ab rfl h.out)
theorem acf {t:Int} {d:List UInt8} {row:AV} (h:K (.bool (decide (t=4))) L):afB 76 [.agg [.int .i64 t,.str d,row]] L K:=by
 replace h:=hid h;refine acg Sx ?_;exact ab rfl h.out
def aeo (s:List UInt8):Option Upd->Upd×Int
 | none=>(yz,4)
 | some u=>if (wrU u).2≠0\/(wrU u).1≠s then (yz,4) else (u,0)
theorem ZN {s:List UInt8} {n:Nd} (h:uN s=.ok n):V7 s=aeo s (lJ n):=by rw [V7,h];rfl
theorem Xt {l:List Nd} {k:Nat} (h:k<l.length):(aC l).getD (k * 3) .undef=.int .i64 (l.getD k bd).tag:=by
 have h3:=congrArg (fun l=>l[0]?) (gh h);simp only [aib (show 0<3 by omega),aia,aiH] at h3;rw [ahE,h3,bJ];rfl
theorem W6 (tg:Int) (dt:List UInt8) (l:List Nd):lJ (.mk tg dt l) =
 if tg≠48\/l.length<2\/(l.getD 0 bd).tag≠2\/(l.getD 0 bd).data.length≠1 then none else
 if (((l.getD 0 bd).data.getD 0 0).toNat:Int)<1\/4<(((l.getD 0 bd).data.getD 0 0).toNat:Int)\/l.length≠1+(if (((l.getD 0 bd).data.getD 0 0).toNat:Int)=4 then 2 else 1)+(if (((l.getD 0 bd).data.getD 0 0).toNat:Int)=2 then 0 else 1) then none else
 if (fP (l.getD 1 bd).data).2≠0\/(l.getD 1 bd).tag≠4 then none else
 if (((l.getD 0 bd).data.getD 0 0).toNat:Int)=4/\((fP (l.getD 2 bd).data).2≠0\/(l.getD 2 bd).tag≠4) then none else
 if (((l.getD 0 bd).data.getD 0 0).toNat:Int)=2 then some ⟨(((l.getD 0 bd).data.getD 0 0).toNat:Int),(fP (l.getD 1 bd).data).1,[],[]⟩ else
 if (l.getD (l.length - 1) bd).tag≠48 then none else
 (mA (l.getD (l.length - 1) bd).kids).map fun a=>⟨(((l.getD 0 bd).data.getD 0 0).toNat:Int),(fP (l.getD 1 bd).data).1,if (((l.getD 0 bd).data.getD 0 0).toNat:Int)=4 then (fP (l.getD 2 bd).data).1 else [],a⟩:=rfl
theorem W5 {tg:Int} {dt:List UInt8} {l:List Nd} {u:Upd} (h:lJ (.mk tg dt l)=some u):(∀ r∈u.dn,∀ a∈r,a.1.length<=32)/\∀ r∈u.to,∀ a∈r,a.1.length<=32:=by
 rw [W6] at h
 repeat' split at h
 all_goals first
  | (cases h;done)
  | (simp only [aho] at h;subst h;exact ⟨TH _,by simp⟩)
  | (rw [ahG] at h
     obtain ⟨a,_,rfl⟩:=h;refine ⟨TH _,?_⟩
     first|exact TH _|simp)
theorem aeh {s:List UInt8} (hs:s.length<=1100000) (h:K (rdA (V7 s)) L):afB 39 [.str s] L K:=by
 rcases hw:uN s with e|n
 ·have h':K (.tup [.agg [.int .i64 0,.sl [] 0 none,.sl [] 0 none,.sl [] 0 none],.int .i64 e]) L:=by rw [V7,hw] at h;exact h
  replace h':=hid h';have he:=VZ hw;have kk1:Hid (Ctr Tryz.prog 74 [.str s] (.tup [.agg [.int .i64 0,.str [],.sl [] 0 none],.int .i64 e])):=@hid _ (by intro L K q;exact Vn hs (by rw [hw];exact q));clear hw h;refine acg cB ?_;exact ay (ab rfl h'.out)
 rw [ZN hw] at h;have hz:szB 1100000 4 n:=OL (by omega) (Ym hw 4);obtain ⟨tg,dt,l⟩:=n;have kk1:Hid (Ctr Tryz.prog 74 [.str s] (.tup [.agg [.int .i64 tg,.str dt,.sl (aC l) l.length none],.int .i64 0])):=@hid _ (by intro L K q;exact Vn hs (by rw [hw,aas,bG];exact q));have hsz:∀ u,lJ (.mk tg dt l)=some u->dnR u.dn/\dnR u.to/\ov u:=fun u hu=>by
  obtain ⟨b1,b2,b3⟩:=To hs hw (OR hu);obtain ⟨c1,c2⟩:=W5 hu;exact ⟨⟨b1.1,fun r hr=>⟨b1.2 r hr,fun a ha=>by have:=c1 r hr a ha;omega⟩⟩,⟨b2.1,fun r hr=>⟨b2.2 r hr,fun a ha=>by have:=c2 r hr a ha;omega⟩⟩,b3⟩
 clear hw;obtain ⟨_,hzl,hzk⟩:=hz;simp only [Nd.kids] at hzl hzk;obtain ⟨S,hS⟩:=aaR (lJ (.mk tg dt l));rw [hS] at h hsz;have hno:S=none->Hid (K (.tup [.agg [.int .i64 0,.sl [] 0 none,.sl [] 0 none,.sl [] 0 none],.int .i64 4]) L):=fun e=>by rw [e] at h;exact hid h
 have hyes:∀ u,S=some u->Hid (K (rdA (aeo s (some u))) L):=fun u e=>by rw [e] at h;exact hid h
 replace hno:=hid hno;replace hyes:=hid hyes;replace hsz:=hid hsz;clear h;obtain ⟨n0,hn0⟩:=aaR (l.getD 0 bd);rw [W6,hn0] at hS;by_cases a1:tg=48
 case neg =>
  rw [if_pos (.inl a1)] at hS;have h':=hno.out hS.symm;clear hS hno hyes hsz hzk;refine acg cB ?_;exact ay (ab rfl h'.out)
 by_cases a2:l.length<2
 ·rw [if_pos (.inr (.inl a2))] at hS;have h':=hno.out hS.symm;have g1:(l.length:Int)<2:=by omega
  clear hS hno hyes hsz hzk;subst a1;refine acg cB ?_;exact ay (ab rfl h'.out)
 have g1:¬ (l.length:Int)<2:=by omega
 have g2:(0:Int)<(l.length:Int):=by omega
 have f0:(aC l).getD 0 .undef=.int .i64 n0.tag:=by rw [<- hn0];exact Xt (k:=0) (by omega)
 have f1:(aC l).getD 1 .undef=.str n0.data:=by rw [<- hn0];exact ki (k:=0) (by omega)
 have f2:=dH l;have b0:0<(aC l).length:=by omega
 have b1:1<(aC l).length:=by omega
 by_cases a3:n0.tag=2
 case neg =>
  rw [if_pos (.inr (.inr (.inl a3)))] at hS;have h':=hno.out hS.symm;clear hS hno hyes hsz hzk;subst a1;refine acg cB ?_;exact ay (ab rfl h'.out)
 rw [a3] at f0;by_cases a4:n0.data.length=1
 case neg =>
  rw [if_pos (.inr (.inr (.inr a4)))] at hS;have h':=hno.out hS.symm;have g3:¬ (n0.data.length:Int)=1:=by omega
  clear hS hno hyes hsz hzk;subst a1;refine acg cB ?_;exact ay (ab rfl h'.out)
 rw [if_neg (by simp [a1,a2,a3,a4])] at hS;obtain ⟨c,hc⟩:∃ c,n0.data=[c]:=by
  rcases hd:n0.data with _|⟨c,_|⟨c2,r⟩⟩
  ·rw [hd] at a4;cases a4
  ·exact ⟨c,rfl⟩
  ·rw [hd] at a4;simp at a4
 rw [hc] at f1 hS;simp only [akm] at hS;obtain ⟨k,hk⟩:∃ k:Int,((c.toNat:Nat):Int)=k:=⟨_,rfl⟩;rw [hk] at hS;have hk256:=c.toNat_lt;have wk0:IntKind.i64.wrap (c.toNat:Int)=k:=by rw [ac (by omega) (by omega),hk]
 obtain ⟨nm,hnm⟩:∃ x:Int,(if k=4 then 2 else 1)=x:=⟨_,rfl⟩;obtain ⟨ls,hls⟩:∃ x:Int,(if k=2 then 0 else 1)=x:=⟨_,rfl⟩;subst a1;clear a2 a3 a4 hn0 hc;obtain ⟨b4,c4⟩:=aaR (decide (k=4));obtain ⟨b2,c2⟩:=aaR (decide (k=2));have hway:(b4=true/\b2=false/\nm=2/\ls=1)\/(b4=false/\b2=true/\nm=1/\ls=0)\/(b4=false/\b2=false/\nm=1/\ls=1):=by
  by_cases k4:k=4
  ·have k2:¬ k=2:=by omega
   left;exact ⟨by rw [<- c4];simpa using k4,by rw [<- c2];simpa using k2,by rw [<- hnm,if_pos k4],by rw [<- hls,if_neg k2]⟩
  ·right;by_cases k2:k=2
   ·left;exact ⟨by rw [<- c4];simpa using k4,by rw [<- c2];simpa using k2,by rw [<- hnm,if_neg k4],by rw [<- hls,if_pos k2]⟩
   ·right;exact ⟨by rw [<- c4];simpa using k4,by rw [<- c2];simpa using k2,by rw [<- hnm,if_neg k4],by rw [<- hls,if_neg k2]⟩
 have v2:IntKind.i64.wrap 2=2:=by decide
 have v3:IntKind.i64.wrap 3=3:=by decide
 have v4:IntKind.i64.wrap 4=4:=by decide
 by_cases k1:k<1
 ·rw [if_pos (.inl k1)] at hS;have h':=hno.out hS.symm;have hw3:b4=false/\b2=false:=⟨by rw [<- c4];simp;omega,by rw [<- c2];simp;omega⟩;obtain ⟨rfl,rfl⟩:=hw3;clear hS hno hyes hsz hzk hway hnm hls hk;refine acg cB ?_;exact ay (ab rfl h'.out)
 by_cases k5:4<k
 ·rw [if_pos (.inr (.inl k5))] at hS;have h':=hno.out hS.symm;have hw3:b4=false/\b2=false:=⟨by rw [<- c4];simp;omega,by rw [<- c2];simp;omega⟩;obtain ⟨rfl,rfl⟩:=hw3;clear hS hno hyes hsz hzk hway hnm hls hk;refine acg cB ?_;exact ay (ab rfl h'.out)
 have hlen:(l.length≠1+(if k=4 then 2 else 1)+(if k=2 then 0 else 1))↔¬ (l.length:Int)=1+nm+ls:=by
  rw [<- hnm,<- hls];split<;>split<;>omega
 by_cases k6:(l.length:Int)=1+nm+ls
 case neg =>
  rw [if_pos (.inr (.inr (hlen.2 k6)))] at hS;have h':=hno.out hS.symm;clear hS hno hyes hsz hzk hlen hnm hls hk;rcases hway with ⟨rfl,rfl,rfl,rfl⟩|⟨rfl,rfl,rfl,rfl⟩|⟨rfl,rfl,rfl,rfl⟩
  all_goals
   simp only [Int.reduceAdd] at k6;refine acg cB ?_;exact ay (ab rfl h'.out)
 rw [if_neg (by simp only [not_or];exact ⟨k1,k5,fun e=>hlen.1 e k6⟩)] at hS;clear hlen;have k24:k=4->b4=true:=fun e=>by rw [<- c4];simpa using e
 have k42:b4=true->k=4:=fun e=>by rw [e] at c4;simpa using c4
 have k22:b2=true->k=2:=fun e=>by rw [e] at c2;simpa using c2
 have k21:k=2->b2=true:=fun e=>by rw [<- c2];simpa using e
 obtain ⟨n1,hn1⟩:=aaR (l.getD 1 bd);obtain ⟨n2,hn2⟩:=aaR (l.getD 2 bd);have g3:(1:Int)<(l.length:Int):=by omega
 have f3:(aC l).getD 4 .undef=.str n1.data:=by rw [<- hn1];exact ki (k:=1) (by omega)
 have f4:((aC l).drop 3).take 3=[.int .i64 n1.tag,.str n1.data,.sl (aC n1.kids) n1.kids.length none]:=by rw [<- bJ,<- hn1];exact gh (k:=1) (by omega)
 have b3:4<(aC l).length:=by omega
 have b5:6<=(aC l).length:=by omega
 rw [hn1,hn2] at hS;obtain ⟨⟨d1,e1⟩,hp1⟩:∃ q,fP n1.data=q:=⟨_,rfl⟩;obtain ⟨⟨d2,e2⟩,hp2⟩:∃ q,fP n2.data=q:=⟨_,rfl⟩;have kk2:Hid (Ctr Tryz.prog 75 [.str n1.data] (.tup [dnA d1,.int .i64 e1])):=@hid _ (by intro L K q;exact W8 (by rw [hp1];exact q));have kk4:Hid (Ctr Tryz.prog 75 [.str n2.data] (.tup [dnA d2,.int .i64 e2])):=@hid _ (by intro L K q;exact W8 (by rw [hp2];exact q));have kk3:Hid (∀ {t:Int} {d:List UInt8} {row:AV} {L:List Blk} {K:afC},K (.bool (decide (t=4))) L->afB 76 [.agg [.int .i64 t,.str d,row]] L K):=@hid _ (by intro t d row L K q;exact acf q);rw [hp1,hp2] at hS;simp only at hS;obtain ⟨xq,hxq⟩:=aaR (l.getD (l.length - 1) bd);rw [hxq] at hS;obtain ⟨N0,hN0⟩:=aaR (Blk.cells [.int .i64 48,.str dt,.sl (aC l) l.length none]);obtain ⟨to',hto⟩:=aaR ((if k=4 then d2 else []));rw [hto] at hS;replace hN0:=hid hN0;have hnm1:1<=nm/\nm<=2:=by rw [<- hnm];split<;>omega
 replace hS:=hid hS;replace hzk:=hid hzk;have f5:nm=2->Hid ((aC l).getD 7 .undef=.str n2.data/\((aC l).drop 6).take 3=[.int .i64 n2.tag,.str n2.data,.sl (aC n2.kids) n2.kids.length none]/\(2:Int)<(l.length:Int)/\7<(aC l).length/\9<=(aC l).length):=fun e=>hid (by
  have:2<l.length:=by rw [<- hls] at k6;split at k6<;>omega
  refine ⟨by rw [<- hn2];exact ki (k:=2) this,by rw [<- bJ,<- hn2];exact gh (k:=2) this,by omega,by omega,by omega⟩)
 replace f5:=hid f5;replace hnm:=hid hnm;replace hls:=hid hls;replace k24:=hid k24;replace k42:=hid k42;replace k22:=hid k22;replace k21:=hid k21;replace hk:=hid hk;clear hn1 hn2 hp1 hp2;rcases hway with ⟨rfl,rfl,hn,hl0⟩|⟨rfl,rfl,hn,hl0⟩|⟨rfl,rfl,hn,hl0⟩
 all_goals
  rw [hn,hl0] at k6;simp only [Int.reduceAdd] at k6;have k7:=hid k6;refine acg cB ?_;rw [hN0.out];have hno':=hno;refine ah (fun m T' L'=>∃ (j:Nat) (U:List AV),m=3 - j/\((j=1/\U=[.int .i64 k,.sl [] 0 (some 0),.sl [] 0 (some 0),.sl [] 0 (some 0)])\/(j=2/\e1=0/\n1.tag=4/\U=[.int .i64 k,dnA d1,.sl [] 0 (some 0),.sl [] 0 (some 0)])\/(j=3/\nm=2/\e1=0/\n1.tag=4/\e2=0/\n2.tag=4/\U=[.int .i64 k,dnA d1,dnA d2,.sl [] 0 (some 0)]))/\T'=[(10,.int .i64 (j:Int)),(9,.int .i64 ls),(8,.int .i64 nm),(7,.ptr (L.length+2) 0),(6,.sl (aC l) l.length none),(2,.ptr L.length 0),(0,.str s)]/\L'=L++(.cells [.int .i64 0,.sl [] 0 (some 0),.sl [] 0 (some 0),.sl [] 0 (some 0)]::N0::[.cells U])) (CutL (b:=by simp)) ⟨1,_,rfl,.inl ⟨rfl,rfl⟩,rfl,rfl⟩ ?_;rintro _ _ _ ⟨j,U,rfl,hU,rfl,rfl⟩;by_cases hjn:(j:Int)<=nm
  ·rcases hU with ⟨rfl,rfl⟩|⟨rfl,u1,u2,rfl⟩|⟨rfl,u0,_⟩
   ·have i1:(1:Int)<=nm:=by omega
    by_cases e1z:e1=0
    case neg =>
     have hS2:=hS.out;rw [if_pos (.inl e1z)] at hS2;have h':=hno.out hS2.symm;clear hS2 hn hl0 hjn;refine wk ?_;exact ay (ab rfl h'.out)
    by_cases t1z:n1.tag=4
    case neg =>
     have hS2:=hS.out;rw [if_pos (.inr t1z)] at hS2;have h':=hno.out hS2.symm;clear hS2 hn hl0 hjn;subst e1z;refine wk ?_;exact ay (ab rfl h'.out)
    clear hn hl0 hjn;rw [t1z] at f4;replace t1z:=hid t1z;subst e1z;refine wk ?_;exact aq _ _ _ (by omega) (CutL (b:=by simp)) ⟨2,_,rfl,.inr (.inl ⟨rfl,t1z.out,rfl⟩),rfl,rfl⟩
   ·have i1:(2:Int)<=nm:=by omega
    have i2:nm=2:=by omega
    obtain ⟨q1,q2,q3,q4,q5⟩:=(f5.out i2).out;have hk4:k=4:=by have:=hnm.out;split at this<;>omega
    by_cases e2z:e2=0
    case neg =>
     have hS2:=hS.out;rw [if_neg (by simp [u1,u2]),if_pos ⟨hk4,.inl e2z⟩] at hS2;have h':=hno.out hS2.symm;clear hS2 hn hl0 hjn hk4 u1 u2 i2;refine wk ?_;exact ay (ab rfl h'.out)
    by_cases t2z:n2.tag=4
    case neg =>
     have hS2:=hS.out;rw [if_neg (by simp [u1,u2]),if_pos ⟨hk4,.inr t2z⟩] at hS2;have h':=hno.out hS2.symm;clear hS2 hn hl0 hjn hk4 u1 u2 i2;subst e2z;refine wk ?_;exact ay (ab rfl h'.out)
    clear hn hl0 hjn hk4;rw [t2z] at q2;replace t2z:=hid t2z;replace u1:=hid u1;replace u2:=hid u2;replace i2:=hid i2;subst e2z;refine wk ?_;exact aq _ _ _ (by omega) (CutL (b:=by simp)) ⟨3,_,rfl,.inr (.inr ⟨rfl,i2.out,u1.out,u2.out,t2z.out,rfl⟩),rfl,rfl⟩
   ·omega
  obtain ⟨ct,hU2,u1,u2,u3⟩:∃ ct:Option Nat,U=[.int .i64 k,dnA d1,.sl (to'.map aw) to'.length ct,.sl [] 0 (some 0)]/\e1=0/\n1.tag=4/\(k=4->e2=0/\n2.tag=4):=by
   have:=hnm.out;rcases hU with ⟨rfl,rfl⟩|⟨rfl,u1,u2,rfl⟩|⟨rfl,u0,u1,u2,u3,u4,rfl⟩
   ·omega
   ·have hk4:¬ k=4:=fun e=>by rw [if_pos e] at this;omega
    exact ⟨some 0,by rw [<- hto,if_neg hk4];rfl,u1,u2,fun e=>absurd e hk4⟩
   ·have hk4:k=4:=by split at this<;>omega
    exact ⟨none,by rw [<- hto,if_pos hk4],u1,u2,fun _=>⟨u3,u4⟩⟩
  subst hU2;have hS2:=hS.out;rw [if_neg (by simp [u1,u2]),if_neg (by intro e;have:=u3 e.1;simp [this] at e)] at hS2;clear hU u1 u2 u3 hS f3 f4 b3 b5 f5 f0 f1 b0 b1 kk1 kk2 kk4 g1 g2 g3;have wr:∀ {a:List Atr} {AR:AV} {w:List UInt8} {e:Int},S=some ⟨k,d1,to',a⟩->AR.frz=.sl (aU a) a.length none->wrU ⟨k,d1,to',a⟩=(w,e) ->
    Hid (Ctr Tryz.prog 16 [.agg [.int .i64 k,dnA d1,.sl (to'.map aw) to'.length ct,AR]] (.tup [.str w,.int .i64 e])) /\
    (∀ X:List Blk,e=0->w=s->Fin L (.tup [.agg [.int .i64 k,dnA d1,.sl (to'.map aw) to'.length ct,AR],.int .i64 0]) (L++X) K) /\
    (∀ X:List Blk,¬ (e=0/\w=s)->Fin L (.tup [.agg [.int .i64 0,.sl [] 0 (some 0),.sl [] 0 (some 0),.sl [] 0 (some 0)],.int .i64 4]) (L++X) K):=fun {a AR w e} h1 h2 h3=>by
   obtain ⟨z1,z2,z3⟩:=hsz.out _ h1;have hy:=(hyes.out _ h1).out;rw [aeo,h3] at hy;refine ⟨@hid _ ?_,fun X he hw=>?_,fun X hn=>?_⟩
   ·intro L K q;refine dQ ?_;simp only [AV.frzL,AV.frz,aO,h2];exact Tp (u:=⟨k,d1,to',a⟩) z1 z2 z3 (by rw [h3];exact q)
   ·rw [if_neg (by simp [he,hw])] at hy;refine ay ?_;simp only [AV.frzL,AV.frz,aO,h2];exact ab (by simp only [AV.refs,AV.refsL,cQ,ko];rfl) hy
   ·rw [if_pos (by by_cases he:e=0;exact .inr (fun hw=>hn ⟨he,hw⟩);exact .inl he)] at hy;exact ay (ab rfl hy)
  by_cases hl1:ls=1
  case neg =>
   have hk2:k=2:=by have:=hls.out;split at this<;>omega
   have hk4:¬ k=4:=by omega
   have ht0:to'=[]:=by rw [<- hto,if_neg hk4]
   rw [if_pos hk2] at hS2;have g9:ls=0:=by have:=hls.out;split at this<;>omega
   obtain ⟨⟨w,e⟩,hwe⟩:∃ q,wrU ⟨k,d1,to',[]⟩=q:=⟨_,rfl⟩;obtain ⟨kk4,w1,w2⟩:=wr (AR:=.sl [] 0 (some 0)) (by rw [<- hS2,ht0]) rfl hwe;replace w1:=hid w1;replace w2:=hid w2;clear wr hk2 hk4 ht0 hS2 hwe hto hl0 hn hl1;by_cases ez:e=0
   ·by_cases hws:w=s
    ·subst ez;subst hws;refine wk ?_;exact w1.out _ rfl rfl
    ·have w3:=fun X=>w2.out X (fun h=>hws h.2)
     replace w3:=hid w3;subst ez;refine wk ?_;exact w3.out _
   ·have w3:=fun X=>w2.out X (fun h=>ez h.1)
    replace w3:=hid w3;refine wk ?_;exact w3.out _
  have hk2:¬ k=2:=by have:=hls.out;split at this<;>omega
  rw [if_neg hk2] at hS2;have hl9:ls=1:=hl1;have hl2:2<=l.length:=by have:=k7.out;omega
  obtain ⟨q,hq⟩:=aaR (l.length - 1);have wq:IntKind.i64.wrap ((l.length:Int) - 1)=(q:Int):=by rw [ac (by omega) (by omega)];omega
  have g4:(q:Int)<(l.length:Int):=by omega
  have g5:q * 3+3<=(aC l).length:=by rw [f2];omega
  have f6:((aC l).drop (q * 3)).take 3=[.int .i64 xq.tag,.str xq.data,.sl (aC xq.kids) xq.kids.length none]:=by rw [<- bJ,<- hxq,hq];exact gh (by omega)
  obtain ⟨_,hxl,hxk⟩:=hzk.out xq (by rw [<- hxq];simp [show l.length - 1<l.length by omega]);by_cases hx48:xq.tag=48
  case neg =>
   rw [if_pos hx48] at hS2;have h':=hno.out hS2.symm;clear hS2 hno hyes hsz wr hl0 hn hxk hto hxq hk2 hno' k6 hq;refine wk ?_;exact ay (ab rfl h'.out)
  rw [if_neg (by simpa using hx48)] at hS2;rw [hx48] at f6;obtain ⟨xd,hxd⟩:=aaR (xq.data);obtain ⟨ks,hks⟩:=aaR (xq.kids);rw [hxd,hks] at f6;rw [hks] at hS2 hxl hxk;obtain ⟨A,hA⟩:=aaR (mA ks);rw [hA] at hS2;replace hxk:=hid hxk;replace wr:=@hid _ @wr;replace hS2:=hid hS2;clear hyes hsz hzk hl0 hn hto hxq hxd hks hx48 hk2 hl1 k6 hno' hq hN0 hnm hls hk k24 k42 k22 k21 k7 c4 c2;refine wk ?_;refine lF (L.length+2) 3 2 (c:=[.int .i64 k,dnA d1,.sl (to'.map aw) to'.length ct,.sl [] 0 (some 0)]) (l:=[]) (n:=0) (by simp) rfl (ahQ 2).symm ?_;obtain ⟨XB,hXB⟩:=aaR (Blk.cells [.int .i64 48,.str xd,.sl (aC ks) ks.length none]);rw [hXB];clear hXB f6 wq g4 g5 hjn;refine ah (fun m T' L'=>∃ (acc:List Atr) (i:Nat) (D:List AV) (Y:List Blk),m=ks.length - i/\i<=ks.length/\Hid ((mA (ks.drop i)).map (fun r=>acc++r)=A)/\Hid (D=aU acc/\i=acc.length)/\T'=[(133,.int .i64 (i:Int)),(132,.int .i64 ks.length),(131,.sl (aC ks) ks.length none),(7,.ptr (L.length+2) 0),(2,.ptr L.length 0),(0,.str s)]/\L'=L++(.cells [.int .i64 0,.sl [] 0 (some 0),.sl [] 0 (some 0),.sl [] 0 (some 0)]::N0 :: .cells [.int .i64 k,dnA d1,.sl (to'.map aw) to'.length ct,.gsl D i (L.length+4) 2]::XB :: .spare i 2::Y)) (CutS (b:=by simp)) ⟨[],0,[],[],rfl,ahp _,hid (by rw [ajJ,hA];cases A<;>rfl),hid ⟨rfl,rfl⟩,rfl,by simp⟩ ?_;rintro _ _ _ ⟨acc,i,D,Y,rfl,hi,hJ,hDj,rfl,rfl⟩;by_cases hil:i<ks.length
  ·have j1:(i:Int)<(ks.length:Int):=by omega
   have j2:=ace i (by omega);have e3:=gh hil;have e4:i * 3+3<=(aC ks).length:=by rw [dH];omega
   obtain ⟨a,ha⟩:=aaR (ks.getD i bd);have hdr:ks.drop i=a::ks.drop (i+1):=by rw [ah2 hil,<- ha];simp [hil]
   obtain ⟨_,hal,hak⟩:=hxk.out a (by rw [<- ha];simp [hil]);rw [ha,bJ] at e3;have hJ2:=hJ.out;rw [hdr,mA] at hJ2;clear hJ hdr ha hA;have hnone:Rq a=none->Hid (K (.tup [.agg [.int .i64 0,.sl [] 0 none,.sl [] 0 none,.sl [] 0 none],.int .i64 4]) L):=fun e=>hno.out (by
    rw [e] at hJ2;rw [<- hS2.out,<- hJ2];rfl)
   clear hno;unfold Rq at hnone;by_cases y1:a.tag=48
   case neg =>
    have h':=hnone (if_pos (.inl y1));clear hJ2 hnone wr;refine wk ?_;exact ay (ab rfl h'.out)
   rw [y1] at e3;by_cases y2:a.kids.length=2
   case neg =>
    have h':=hnone (if_pos (.inr (.inl y2)));have g2:¬ (a.kids.length:Int)=2:=by omega
    clear hJ2 hnone wr y1;refine wk ?_;exact ay (ab rfl h'.out)
   have g2:(a.kids.length:Int)=2:=by omega
   obtain ⟨m0,hm0⟩:=aaR (a.kids.getD 0 bd);obtain ⟨m1,hm1⟩:=aaR (a.kids.getD 1 bd);have p0:(aC a.kids).take 3=[.int .i64 m0.tag,.str m0.data,.sl (aC m0.kids) m0.kids.length none]:=by rw [<- bJ,<- hm0];exact gh (k:=0) (by omega)
   have p1:(aC a.kids).getD 1 .undef=.str m0.data:=by rw [<- hm0];exact ki (k:=0) (by omega)
   have p3:(aC a.kids).getD 3 .undef=.int .i64 m1.tag:=by rw [<- hm1];exact Xt (k:=1) (by omega)
   have p5:(aC a.kids).getD 5 .undef=.sl (aC m1.kids) m1.kids.length none:=by rw [<- hm1];exact Vy (k:=1) (by omega)
   have p6:(aC a.kids).length=6:=by rw [dH];omega
   rw [hm0,hm1] at hnone;have hsome:m0.tag=4->m1.tag=49->(m1.kids.all fun v=>decide (v.tag=4))=true->Hid (Rq a=some (m0.data,iQ m1.kids)):=fun x0 x1 x2=>hid (by
    unfold Rq;rw [hm0,hm1,if_neg (by simp [y1,y2,x0,x1]),if_pos x2])
   have hm1z:m1.kids.length<=1100000:=(Ti (hak m1 (by rw [<- hm1];simp [show 1<a.kids.length by omega]))).2;replace hsome:=hid hsome;by_cases y3:m0.tag=4
   case neg =>
    have h':=hnone (if_pos (.inr (.inr (.inl y3))));clear hJ2 hnone wr y1 y2 hsome hak;refine wk ?_;exact ay (ab rfl h'.out)
   rw [y3] at p0;by_cases y4:m1.tag=49
   case neg =>
    have h':=hnone (if_pos (.inr (.inr (.inr y4))));clear hJ2 hnone wr y1 y2 hsome hak y3;refine wk ?_;exact ay (ab rfl h'.out)
   rw [y4] at p3;rw [if_neg (by simp [y1,y2,y3,y4])] at hnone;obtain ⟨md,hmd⟩:=aaR (m0.data);obtain ⟨vk,hvk⟩:=aaR (m1.kids);rw [hmd] at p0 p1 hsome;rw [hvk] at p5 hsome hnone hm1z;have hsm:=fun h=>(hsome.out y3 y4 h).out
   replace hsm:=hid hsm;replace hnone:=hid hnone;replace hJ2:=hid hJ2;clear hsome hm0 hm1 hmd hvk hak y1 y2 y3 y4;refine wk ?_;refine lF (L.length+(Y.length+1+1+1+1+1+1)) 1 1 (c:=[.str md,.sl [] 0 (some 0)]) (l:=[]) (n:=0) (by simp) rfl (ahQ 1).symm ?_;refine ah (fun m T' L'=>∃ (p:Nat) (E:List AV) (Z:List Blk),m=vk.length - p/\p<=vk.length/\Hid (E=(iQ (vk.take p)).map AV.str/\((vk.take p).all fun v=>decide (v.tag=4))=true)/\T'=[(175,.int .i64 (p:Int)),(174,.int .i64 vk.length),(173,.sl (aC vk) vk.length none),(16,.ptr (L.length+(Y.length+1+1+1+1+1+1)) 0),(133,.int .i64 (i:Int)),(132,.int .i64 ks.length),(131,.sl (aC ks) ks.length none),(7,.ptr (L.length+2) 0),(2,.ptr L.length 0),(0,.str s)]/\L'=L++(.cells [.int .i64 0,.sl [] 0 (some 0),.sl [] 0 (some 0),.sl [] 0 (some 0)]::N0 :: .cells [.int .i64 k,dnA d1,.sl (to'.map aw) to'.length ct,.gsl D i (L.length+4) 2]::XB :: .spare i 2::(Y++(.cells [.int .i64 48,.str a.data,.sl (aC a.kids) a.kids.length none] :: .cells [.str md,.gsl E p (L.length+(Y.length+1+1+1+1+1+1+1)) 1] :: .spare p 1::Z)))) (CutS (b:=by simp)) ⟨0,[],[],rfl,ahp _,hid ⟨rfl,rfl⟩,rfl,by simp⟩ ?_;rintro _ _ _ ⟨p,E,Z,rfl,hp,hE,rfl,rfl⟩;by_cases hpl:p<vk.length
   ·have q1:(p:Int)<(vk.length:Int):=by omega
    have q2:=ace p (by omega);have e5:=gh hpl;have e6:p * 3+3<=(aC vk).length:=by rw [dH];omega
    obtain ⟨v,hv⟩:=aaR (vk.getD p bd);rw [hv,bJ] at e5;have htk1:vk.take (p+1)=vk.take p++[v]:=by rw [ahK hpl,show vk[p]=v by rw [<- hv];simp [hpl]]
    have hvm:v∈vk:=by rw [<- hv];simp [hpl]
    by_cases hv4:v.tag=4
    ·have htk:(iQ (vk.take (p+1))).map AV.str=E++[.str v.data]/\((vk.take (p+1)).all fun v=>decide (v.tag=4))=true:=by
      refine ⟨by rw [hE.out.1,htk1];simp [iQ],?_⟩;rw [htk1,List.all_append,hE.out.2];simp [hv4]
     replace htk:=hid htk;rw [hv4] at e5;clear hv hE htk1 hvm hv4 p0 p1 p3 p5 p6 e3 e4 hsm hnone hJ2 wr;refine wk ?_;exact aq _ _ _ (by omega) (CutL (b:=by simp)) ⟨p+1,_,Z++[.cells [.int .i64 4,.str v.data,.sl (aC v.kids) v.kids.length none]],rfl,hpl,hid ⟨htk.out.1.symm,htk.out.2⟩,rfl,by simp⟩
    ·have h':=hnone.out (by
      rw [if_neg];intro hall;rw [ahC] at hall;have:=hall v hvm;simp at this;exact hv4 this)
     clear hv hE htk1 hvm p0 p1 p3 p5 p6 e3 e4 hsm hnone hJ2 wr;refine wk ?_;exact ay (ab rfl h'.out)
   ·have hpe:p=vk.length:=by omega
    subst hpe;have q1:¬ (vk.length:Int)<(vk.length:Int):=by omega
    obtain ⟨hE1,hE2⟩:=hE.out;rw [ahA] at hE1 hE2;have e5:AV.frzL E=E:=by rw [hE1];exact lq _
    have hJ3:(mA (ks.drop (i+1))).map (fun r=>(acc++[(md,iQ vk)])++r)=A:=by
     have:=hJ2.out;rw [hsm.out hE2] at this;simp only at this;rw [<- this];cases mA (ks.drop (i+1))<;>simp
    have hDn:D++[.str md,.sl E vk.length none]=aU (acc++[(md,iQ vk)]):=by
     rw [hDj.out.1,KU,hE1];simp only [aU,ahY,ajB,ahO,atA,iQ,ahF]
    replace hDn:=hid hDn;replace hJ3:=hid hJ3;clear hE hE1 hE2 p0 p1 p3 p5 p6 e3 e4 hsm hnone hJ2 wr;refine wk ?_;exact aq _ _ _ (by omega) (CutL (b:=by simp)) ⟨acc++[(md,iQ vk)],i+1,_,_,rfl,hil,hJ3,hid ⟨hDn.out,by rw [hDj.out.2];simp⟩,rfl,rfl⟩
  ·have hie:i=ks.length:=by omega
   subst hie;have j1:¬ (ks.length:Int)<(ks.length:Int):=by omega
   have hJ2:=hJ.out;rw [aij,mA] at hJ2;simp only [ahM,ahO] at hJ2;obtain ⟨⟨w,e⟩,hwe⟩:∃ q,wrU ⟨k,d1,to',acc⟩=q:=⟨_,rfl⟩;obtain ⟨kk4,w1,w2⟩:=wr.out (a:=acc) (AR:=.gsl D ks.length (L.length+4) 2) (by rw [<- hS2.out,<- hJ2];rfl) (by simp only [AV.frz];rw [hDj.out.1,hDj.out.2,dp]) hwe;replace w1:=hid w1;replace w2:=hid w2;clear wr hJ2 hwe hJ hDj;by_cases ez:e=0
   ·by_cases hws:w=s
    ·subst ez;subst hws;refine wk ?_;exact w1.out _ rfl rfl
    ·have w3:=fun X=>w2.out X (fun h=>hws h.2)
     replace w3:=hid w3;subst ez;refine wk ?_;exact w3.out _
   ·have w3:=fun X=>w2.out X (fun h=>ez h.1)
    replace w3:=hid w3;refine wk ?_;exact w3.out _
end Go.Proofs.YtobihfefmlgaoaaGreat.Av
set_option maxRecDepth 100000
namespace Go.Proofs.YtobihfefmlgaoaaGreat.Av
open Go
def mZ:LSO:=[Ap 2]
def mY:LSO:=[Aa 3 0,Bk 4 3]
def mX:LSO:=[Ap 2]
def mW:LSO:=[Aa 5 0,Am 6 5,Ad 7 0 6,Ab 8 1 7,BM 9 25 8,Aa 2 9]
def jP:aS:=⟨10,(.seq (.sreg mZ [])
 (.seq (.seq (.sreg mY Cp)
 (.cond (tm 4) (.seq (.sreg mX [])
 .ret)
 .skip))
 (.seq (.sreg mW Ct)
 .ret))),[(.tmp 2)]⟩
attribute [push_cast] mZ mY mX mW
theorem GW:aT Tryz.prog (fun _ _=>1) 9=some jP.raw:=by kernel_rfl
def sf:LSO:=[Ac 2 0]
def se:LSO:=[Aa 3 0,Bk 4 3]
def sb:LSO:=[Ac 2 0]
def sa:LSO:=[Aa 5 0,Am 6 5,Ad 7 1 6,Ab 8 1 7,o1 9 (.mlen (tm 8)),Aa 2 9]
def oz:aS:=⟨10,(.seq (.sreg sf [])
 (.seq (.seq (.sreg se Cp)
 (.cond (tm 4) (.seq (.sreg sb [])
 .ret)
 .skip))
 (.seq (.sreg sa Ct)
 .ret))),[(.tmp 2)]⟩
attribute [push_cast] sf se sb sa
theorem Oq:aT Tryz.prog (fun _ _=>1) 28=some oz.raw:=by kernel_rfl
def Lq:LSO:=[Ap 2]
def Lp:LSO:=[Ap 3]
def Lo:LSO:=[Aa 6 0,Ae 7 6,Ac 8 0]
def Ln:LSO:=[Ak 9 8 7]
def Lm:LSO:=[Al 10 2 6 8,As 11 2 10,Br 5,Af 2 5 11]
def Ll:List (am×Kd) :=
 [Az 12 3,Aw 13 0 5,Ax 14 1 13 0 0,Aw 15 1 5,Ax 16 1 15 0 0,AS 17 55 16 0 0,BZ 18 14 17,Ca 19 18 0 0]
def G1:List am :=
 [⟨(some 20),(.app 1 2 40 [(.str []),(.sl [] 0 (some 0))] (tm 12) (tm 19)),none⟩,⟨(some 3),(.mv (tm 20)),none⟩]
def Lk:LSO:=[Ah 21 8 1,Aa 8 21]
def Lj:LSO:=[Aa 22 3,Aa 2 22]
def KH:aS:=⟨23,(.seq (.sreg Lq [])
 (.seq (.sreg Lp [])
 (.seq (.seq (.sreg Lo [])
 (.block 0 (.loop (.seq (.sreg Ln [])
 (.seq (.cond (tm 9) .skip
 (.exit 0))
 (.seq (.block 1 (.seq (.sreg Lm Cq)
 (.dregM Ll G1 Cy)))
 (.sreg Lk Cp)))))))
 (.seq (.sreg Lj Cp)
 .ret)))),[(.tmp 2)]⟩
attribute [push_cast] Lq Lp Lo Ln Lm Ll G1 Lk Lj
theorem Uy:aT Tryz.prog (fun _ _=>1) 26=some KH.raw:=by kernel_rfl
def oV:LSO:=[Ap 4,Ap 5]
def oU:LSO:=[Aa 7 0,Bk 8 7,Aa 9 8,.grp none 9 false
 [Ag 10 9 0,BG 11 9 10,A3 12 9 1 11,A1 13 9 1 12,Ag 14 9 1,Cb 15 9 13 14,BN 16 9 15]
 17 (tm 16)]
def oT:LSO:=[Ap 4,Ap 5]
def oS:LSO:=[Aa 18 0,Am 19 18,Ad 20 1 19,Ab 21 1 20,Aa 22 1,Bl 23 21 22,Aa 6 23]
def oR:LSO:=[Aa 24 6,Am 25 24,Ad 26 0 25,Ab 27 1 26,BM 28 25 27,Aa 29 6,Am 30 29,Ad 31 2 30,Ab 32 1 31,Aj 33 26 32,Aa 4 28,Aa 5 33]
def fa:aS:=⟨34,(.seq (.sreg oV [])
 (.seq (.seq (.sreg oU Cr)
 (.cond (tm 17) (.seq (.sreg oT [])
 .ret)
 .skip))
 (.seq (.sreg oS Cu)
 (.seq (.sdreg oR [.pure,(.read 0 0),.pure,(.read 0 0),(.read 0 0),.pure,(.read 0 0),.pure,(.read 0 0)] CM)
 .ret)))),[(.tmp 4),(.tmp 5)]⟩
attribute [push_cast] oV oU oT oS oR
theorem ol:aT Tryz.prog (fun _ _=>1) 7=some fa.raw:=by kernel_rfl
def qB:LSO:=[Ac 4 0]
def qA:LSO:=[Aa 5 0,Bk 6 5,Aa 7 6,.grp none 7 false
 [Ag 8 7 0,BG 9 7 8,A3 10 7 1 9,A1 11 7 1 10,Ag 12 7 1,Cb 13 7 11 12,BN 14 7 13]
 15 (tm 14)]
def qz:LSO:=[Ac 4 0]
def qw:LSO:=[Aa 16 0,Am 17 16,Ad 18 1 17,Ab 19 1 18,Aa 20 1,Bl 21 19 20,Am 22 21,Ad 23 3 22,Ab 24 1 23,Aa 4 24]
def fS:aS:=⟨25,(.seq (.sreg qB [])
 (.seq (.seq (.sreg qA Cr)
 (.cond (tm 15) (.seq (.sreg qz [])
 .ret)
 .skip))
 (.seq (.sreg qw Cy)
 .ret))),[(.tmp 4)]⟩
attribute [push_cast] qB qA qz qw
theorem qh:aT Tryz.prog (fun _ _=>1) 31=some fS.raw:=by kernel_rfl
def Ly:LSO:=[Ap 2]
def Lx:LSO:=[o1 3 (.alloc [(.sl [] 0 (some 0))])]
def Lw:LSO:=[Aa 8 0,Aj 9 111 8]
def Lv:LSO:=[Aa 5 11]
def Lu:LSO:=[Aa 13 5,Be 14 13,Aj 15 44 14,Aa 12 15,Aq 16 12,Ar 17 12,Aa 6 16,Aa 7 17]
def Lt:LSO:=[Ab 18 1 3,Aa 19 6,Bb 20 19,Cc 21 18 20,Af 1 3 21]
def Lr:LSO:=[Ab 22 1 3,Aa 2 22]
def KI:aS:=⟨23,(.seq (.sreg Ly [])
 (.seq (.sreg Lx [])
 (.seq (.seq (.sreg Lw Cp)
 (.block 0 (.rangeF (tm 9) [10,11] (.sreg Lv [])
 (.block 1 (.seq (.sreg Lu CR)
 (.sreg Lt C3))))))
 (.seq (.sreg Lr Cp)
 .ret)))),[(.tmp 2)]⟩
attribute [push_cast] Ly Lx Lw Lv Lu Lt Lr
theorem Uz:aT Tryz.prog (fun r i=>if r=5/\i=3 then 2 else 1) 81=some KI.raw:=by kernel_rfl
def oQ:LSO:=[A8 3 0,Ap 6]
def oP:LSO:=[Ab 12 1 3,Bk 13 12,Aa 14 13,.grp none 14 false
 [A1 15 14 1 3,BG 16 14 15,A3 17 14 1 16,A1 18 14 1 17,Ag 19 14 1,Cb 20 14 18 19,BN 21 14 20]
 22 (tm 21),Aa 23 22,.grp none 23 false
 [Ag 24 23 2,B1 25 23 24 0]
 26 (tm 25),Aa 27 26,.grp none 27 false
 [Ag 28 27 2,AD 29 27 28 2]
 30 (tm 29)]
def oO:LSO:=[Ap 6]
def oN:LSO:=[Ab 31 1 3,Am 32 31,Ad 33 1 32,Ab 34 1 33,Aa 35 1,Bl 36 34 35,Am 37 36,Ad 38 1 37,Ab 39 1 38,Aa 7 39]
def oM:LSO:=[Ap 8]
def oL:LSO:=[Ab 40 1 3,Am 41 40,Ad 42 1 41,Ab 43 1 42,o1 44 (.mrange (tm 43))]
def oK:LSO:=[o1 45 (.mnext (tm 44)),Aq 46 45]
def oJ:LSO:=[o1 47 (.mentry (tm 44)),Aq 48 47,Ar 49 47,Aa 9 48,Aa 10 49]
def oI:LSO:=[Aa 50 10,Am 51 50,Ad 52 1 51,Ab 53 1 52,Ae 54 53,Aa 55 7,Ae 56 55,AT 57 54 56,Aa 11 57]
def oH:LSO:=[Aa 58 11,Bc 59 58 0,Aa 60 59,.grp none 60 true
 [Ai 61 60 10,Bt 62 60 61,A5 63 60 1 62,A4 64 60 1 63,Ai 65 60 7,AU 66 60 65,og 67 60 true (.slV 1 (tm 64) none (some (tm 66)) none),Ai 68 60 7,Bu 69 60 50 67 68]
 70 (tm 69),Aa 71 70,.grp none 71 true
 [Ai 72 71 2,Bd 73 71 72 2,Ai 74 71 73,.grp (some (71,true)) 74 false
 [Ag 75 74 11,Ag 76 74 2,Cd 77 74 75 76]
 78 (tm 77)]
 79 (tm 78)]
def m8:LSO:=[Aa 80 8,Aa 81 9,o1 82 (.bslice false 1 1 [(.int .i64 0)] [(0,(1,(tm 81)))]),o1 83 (.app 2 1 8 [(.int .i64 0)] (tm 80) (tm 82)),Aa 8 83]
def m7:LSO:=[Aa 84 8,o1 85 (.mkfn 52 [(tm 3)]),Ay 86 51 84 85]
def m6:LSO:=[Aa 87 8,Aa 6 87]
def bS:aS:=⟨88,(.seq (.sreg oQ [])
 (.seq (.seq (.sreg oP Cw)
 (.cond (tm 30) (.seq (.sreg oO [])
 .ret)
 .skip))
 (.seq (.sreg oN Cy)
 (.seq (.sreg oM [])
 (.seq (.seq (.sreg oL Cs)
 (.block 0 (.loop (.seq (.sreg oK Cp)
 (.seq (.cond (tm 46) .skip
 (.exit 0))
 (.block 1 (.seq (.sreg oJ Cz)
 (.seq (.sreg oI C1)
 (.seq (.sreg oH Ct)
 (.cond (tm 79) (.sreg m8 Cs)
 .skip))))))))))
 (.seq (.sreg m7 [false,false,false])
 (.seq (.sreg m6 Cp)
 .ret))))))),[(.tmp 6)]⟩
attribute [push_cast] oQ oP oO oN oM oL oK oJ oI oH m8 m7 m6
theorem eZ:aT Tryz.prog (fun r i=>if r=10/\i=3 then 2 else 1) 23=some bS.raw:=by kernel_rfl
def qv:LSO:=[An 6]
def qu:LSO:=[Aa 7 1,Ae 8 7,Aa 9 2,Ae 10 9,AJ 11 8 10,Aa 12 11,.grp none 12 true
 [Ai 13 12 1,Ai 14 12 2,Bu 15 12 110 13 14]
 16 (tm 15),Aa 6 16]
def fR:aS:=⟨17,(.seq (.sreg qv [])
 (.seq (.sreg qu Cw)
 .ret)),[(.tmp 6)]⟩
attribute [push_cast] qv qu
theorem qg:aT Tryz.prog (fun _ _=>1) 79=some fR.raw:=by kernel_rfl
def lT:LSO:=[A8 5 2,Ac 6 0]
def lS:LSO:=[Ad 16 2 5,Ab 17 1 16,Aj 18 27 17,Aa 15 18,Aq 19 15,Ar 20 15,Aa 7 19,Aa 8 20]
def lR:LSO:=[Aa 22 0,Ad 23 1 5,Ab 24 1 23,Aa 25 0,Am 26 25,Ad 27 0 26,Ab 28 1 27,B8 29 79 22 24 28,Aa 21 29]
def lQ:LSO:=[Ac 6 53]
def lP:LSO:=[Aa 31 8,A0 32 31 0,Aa 33 32,.grp none 33 false
 [A3 34 33 2 5,A1 35 33 1 34,AH 36 33 35,Bf 37 33 36 0]
 38 (tm 37),Aa 30 38]
def lO:LSO:=[Ac 6 34]
def lN:LSO:=[Ad 40 2 5,Ab 41 1 40,BH 42 41 1,Ad 43 1 5,Ab 44 1 43,Ay 45 110 42 44,Aa 39 45]
def lM:LSO:=[Ac 6 53]
def lL:LSO:=[Aa 47 0,Ad 48 2 5,Ab 49 1 48,BH 50 49 1,Ay 51 24 47 50,Au 52 51 0,Aa 46 52]
def lK:LSO:=[Ac 6 32]
def k9:LSO:=[Aa 53 0,Ad 54 2 5,Ab 55 1 54,Ay 56 24 53 55,Aa 9 56]
def k8:LSO:=[Aa 57 9,A6 58 57 0,Aa 59 58,.grp none 59 true
 [Ai 60 59 9,Ai 61 59 1,Ce 62 59 60 61]
 63 (tm 62)]
def kZ:LSO:=[Ac 6 68]
def kY:LSO:=[Aa 64 0,Aa 65 1,Bm 66 23 64 65 2,Ae 67 66,Ac 68 0]
def kX:LSO:=[Ak 69 68 67]
def kV:LSO:=[Al 70 1 66 68,Ab 71 1 70,Aa 11 71]
def kQ:LSO:=[Aa 72 0,Am 73 72,Ad 74 1 73,Ab 75 1 74,Aa 76 11,Bl 77 75 76,Am 78 77,Ad 79 0 78,Ab 80 1 79,Aa 12 80]
def kP:LSO:=[Ad 82 2 5,Ab 83 1 82,Aa 84 12,Aa 85 12,Ae 86 85,Ad 87 1 5,Ab 88 1 87,Ae 89 88,AT 90 86 89,Cf 91 84 90,Ay 92 25 83 91,Aj 93 27 92,Aa 81 93,
 Aq 94 81,Ar 95 81,Aa 13 94,Aa 14 95]
def kO:LSO:=[Aa 96 14,A0 97 96 0]
def kM:LSO:=[Ac 6 34]
def kL:LSO:=[Ah 98 68 1,Aa 68 98]
def kK:LSO:=[Ac 6 0]
def aL:aS:=⟨99,(.seq (.sreg lT [])
 (.seq (.sreg lS Cw)
 (.seq (.block 0 (.seq (.sdreg lR [.pure,.pure,(.read 0 0),.pure,(.read 0 0),.pure,(.read 0 0)] C1)
 (.cond (tm 21) (.seq (.sreg lQ [])
 .ret)
 (.seq (.sreg lP Cs)
 (.cond (tm 30) (.seq (.sreg lO [])
 .ret)
 (.seq (.sdreg lN [.pure,(.read 0 0),(.read 0 0),.pure,(.read 0 0)] Cu)
 (.cond (tm 39) (.seq (.sreg lM [])
 .ret)
 (.seq (.sreg lL Cu)
 (.cond (tm 46) (.seq (.sreg lK [])
 .ret)
 .skip)))))))))
 (.seq (.seq (.sreg k9 Cs)
 (.seq (.sreg k8 Cr)
 (.cond (tm 63) (.seq (.sreg kZ [])
 .ret)
 .skip)))
 (.seq (.seq (.sreg kY CN)
 (.block 1 (.loop (.seq (.sreg kX [])
 (.seq (.cond (tm 69) .skip
 (.exit 1))
 (.seq (.block 2 (.seq (.sreg kV Cq)
 (.seq (.sreg kQ Cy)
 (.seq (.sdreg kP [.pure,(.read 0 0),.pure,.pure,(.read 0 0),.pure,(.read 0 0),(.read 0 0),.pure,(.read 0 0),(.read 0 0),(.read 0 0),.pure,.pure,.pure,.pure] CS)
 (.seq (.sreg kO Cp)
 (.cond (tm 97) (.seq (.sreg kM [])
 .ret)
 .skip))))))
 (.sreg kL Cp)))))))
 (.seq (.sreg kK [])
 .ret)))))),[(.tmp 6)]⟩
attribute [push_cast] lT lS lR lQ lP lO lN lM lL lK k9 k8 kZ kY kX kV kQ kP kO kM kL kK
theorem bH:aT Tryz.prog (fun _ _=>1) 80=some aL.raw:=by kernel_rfl
def sj:LSO:=[Aa 7 0,Am 8 7,Ad 9 0 8,Ab 10 1 9,Am 11 10,Ad 12 1 11,Ab 13 1 12,Aa 14 1,Bl 15 13 14,Aa 6 15]
def sh:LSO:=[Aa 16 6,Aa 17 6,Aa 18 2,BM 19 25 18,Aa 20 2,Aj 21 81 20,Am 22 16,Ad 23 0 22,Af 1 23 19,Am 24 17,Ad 25 1 24,Af 1 25 21]
def sg:List (am×Kd) :=
 [Az 26 0,AF 27 26 0 1,Aw 28 0 27,Ax 29 1 28 0 1,AF 30 29 0 1,Aw 31 2 30,Ax 32 1 31 0 1,Az 33 6,AF 34 33 0 0,Aw 35 1 34,Ax 36 1 35 0 0,od 37 (.call 84 [(tm 36)]) .eff,
 AS 38 83 37 0 0,od 39 (.call 82 [(tm 38),(.av (.str [44]))]) (.read 0 0),Az 40 1]
def qT:List am :=
 [⟨none,(.mset .str (tm 32) (tm 39) (tm 40)),none⟩]
def oA:aS:=⟨41,(.seq (.sreg sj Cy)
 (.seq (.sreg sh CF)
 (.dregM sg qT [false,false,false,false,false,false,false,false,false,false,false,false,false,false,false]))),[]⟩
attribute [push_cast] sj sh sg qT
theorem Ot:aT Tryz.prog (fun r i=>if r=2/\i=11 then 3 else 1) 42=some oA.raw:=by kernel_rfl
def rZ:LSO:=[A8 1 0,o1 2 (.mv (.av .nilfunc))]
def rY:LSO:=[o1 3 (.mkfn 116 [(tm 1)]),Aa 2 3]
def oy:aS:=⟨4,(.seq (.sreg rZ [])
 (.seq (.sreg rY Cp)
 .ret)),[(.tmp 2)]⟩
attribute [push_cast] rZ rY
theorem Oo:aT Tryz.prog (fun _ _=>1) 84=some oy.raw:=by kernel_rfl
def oG:LSO:=[A8 2 0]
def oF:LSO:=[Ab 5 1 1,Aj 6 117 5]
def oE:LSO:=[Aa 4 8]
def oD:LSO:=[Ab 9 1 2,Aa 10 4,BO 11 9 10,AA 12 11]
def lw:aS:=⟨13,(.seq (.sreg oG [])
 (.seq (.sreg oF Cp)
 (.block 0 (.rangeF (tm 6) [7,8] (.sreg oE [])
 (.block 1 (.seq (.sreg oD Cr)
 (.cond (tm 12) .ret
 .skip))))))),[]⟩
attribute [push_cast] oG oF oE oD
theorem KJ:aT Tryz.prog (fun _ _=>1) 116=some lw.raw:=by kernel_rfl
def ng:LSO:=[Aa 7 0,Am 8 7,Ad 9 0 8,Ab 10 1 9,Aa 11 1,BH 12 11 1,Ay 13 24 10 12,Aa 6 13]
def nf:LSO:=[Aa 14 6,A6 15 14 0]
def m9:LSO:=[Aa 16 0,Am 17 16,Ad 18 0 17,Ab 19 1 18,Am 20 19,Ad 21 1 20,Ab 22 1 21,Aa 23 6,Bl 24 22 23,Am 25 24,Ad 26 3 25,Ab 27 1 26,Aa 28 2,AK 29 27 28,
 Am 30 24,Ad 31 3 30,Af 1 31 29]
def dZ:aS:=⟨32,(.seq (.sdreg ng [.pure,(.read 0 0),.pure,(.read 0 0),.pure,(.read 0 0)] Cw)
 (.seq (.sreg nf Cp)
 (.cond (tm 15) (.sreg m9 [false,false,false,false,false,false,false,false,false,false,false,false,false,false,false,false])
 .skip))),[]⟩
attribute [push_cast] ng nf m9
theorem mp:aT Tryz.prog (fun _ _=>1) 43=some dZ.raw:=by kernel_rfl
def P4:LSO:=[An 4]
def P3:LSO:=[Aa 10 0,Aj 11 27 10,Aa 9 11,Aq 12 9,Ar 13 9,Aa 5 12,Aa 6 13]
def P2:LSO:=[Aa 15 1,Aj 16 44 15,Aa 14 16,Aq 17 14,Ar 18 14,Aa 7 17,Aa 8 18]
def P1:LSO:=[Aa 19 6,A0 20 19 0,Aa 21 20,.grp none 21 false
 [Ag 22 21 8,Bv 23 21 22 0]
 24 (tm 23),Aa 25 24,.grp none 25 false
 [Ag 26 25 0,AH 27 25 26,Ag 28 25 1,AH 29 25 28,Cg 30 25 27 29]
 31 (tm 30)]
def P0:LSO:=[An 4]
def PZ:LSO:=[Aa 32 0,Aa 33 0,Ae 34 33,Aa 35 1,Ae 36 35,AT 37 34 36,o1 38 (.slV 1 (tm 32) (some (tm 37)) none none),o1 39 (.call 57 [(tm 38),(.av (.bool true))]),
 Aa 40 7,AJ 41 39 40,Aa 4 41]
def gl:aS:=⟨42,(.seq (.sreg P4 [])
 (.seq (.sreg P3 Cu)
 (.seq (.sreg P2 Cx)
 (.seq (.seq (.sreg P1 Ct)
 (.cond (tm 31) (.seq (.sreg P0 [])
 .ret)
 .skip))
 (.seq (.sreg PZ CD)
 .ret))))),[(.tmp 4)]⟩
attribute [push_cast] P4 P3 P2 P1 P0 PZ
theorem mS:aT Tryz.prog (fun _ _=>1) 110=some gl.raw:=by kernel_rfl
def dT:LSO:=[A8 1 0,o1 2 (.mv (.av .nilfunc))]
def dS:LSO:=[o1 3 (.mkfn 142 [(tm 1)]),Aa 2 3]
def cN:aS:=⟨4,(.seq (.sreg dT [])
 (.seq (.sreg dS Cp)
 .ret)),[(.tmp 2)]⟩
attribute [push_cast] dT dS
theorem jJ:aT Tryz.prog (fun _ _=>1) 111=some cN.raw:=by kernel_rfl
def dG:LSO:=[Ab 4 1 1,Ae 5 4,AX 6 5 1,Aa 3 6]
def dF:LSO:=[Aa 7 3,Bc 8 7 0]
def dE:LSO:=[Aa 11 0,Aa 12 3,Ab 13 1 1,Aa 14 3,Al 15 1 13 14,Ab 16 1 15,o1 17 (.callv (tm 11) [(tm 12),(tm 16)]),AA 18 17]
def dD:LSO:=[Aa 9 3,AX 10 9 1,Aa 3 10]
def cG:aS:=⟨19,(.seq (.sreg dG Cr)
 (.block 0 (.loop (.seq (.seq (.sreg dF Cp)
 (.cond (tm 8) .skip
 (.exit 0)))
 (.seq (.block 1 (.seq (.sreg dE Cw)
 (.cond (tm 18) .ret
 .skip)))
 (.sreg dD Cq)))))),[]⟩
attribute [push_cast] dG dF dE dD
theorem ib:aT Tryz.prog (fun _ _=>1) 142=some cG.raw:=by kernel_rfl
def eA:LSO:=[A8 1 0,o1 2 (.mv (.av .nilfunc))]
def ev:LSO:=[o1 3 (.mkfn 145 [(tm 1)]),Aa 2 3]
def cR:aS:=⟨4,(.seq (.sreg eA [])
 (.seq (.sreg ev Cp)
 .ret)),[(.tmp 2)]⟩
attribute [push_cast] eA ev
theorem jQ:aT Tryz.prog (fun _ _=>1) 117=some cR.raw:=by kernel_rfl
def dN:LSO:=[Ab 4 1 1,Ae 5 4,AX 6 5 1,Aa 3 6]
def dM:LSO:=[Aa 7 3,Bc 8 7 0]
def dL:LSO:=[Aa 11 0,Aa 12 3,Ab 13 1 1,Aa 14 3,Al 15 1 13 14,Ab 16 1 15,o1 17 (.callv (tm 11) [(tm 12),(tm 16)]),AA 18 17]
def dK:LSO:=[Aa 9 3,AX 10 9 1,Aa 3 10]
def cI:aS:=⟨19,(.seq (.sreg dN Cr)
 (.block 0 (.loop (.seq (.seq (.sreg dM Cp)
 (.cond (tm 8) .skip
 (.exit 0)))
 (.seq (.block 1 (.seq (.sreg dL Cw)
 (.cond (tm 18) .ret
 .skip)))
 (.sreg dK Cq)))))),[]⟩
attribute [push_cast] dN dM dL dK
theorem iO:aT Tryz.prog (fun _ _=>1) 145=some cI.raw:=by kernel_rfl
def ij:LSO:=[Ap 2]
def ii:LSO:=[Aa 3 0,o1 4 (.call 115 [(.av (.sl [] 0 (some 0))),(tm 3)]),Aa 2 4]
def fT:aS:=⟨5,(.seq (.sreg ij [])
 (.seq (.sreg ii Cq)
 .ret)),[(.tmp 2)]⟩
attribute [push_cast] ij ii
theorem rM:aT Tryz.prog (fun _ _=>1) 83=some fT.raw:=by kernel_rfl
def dY:LSO:=[A8 2 0,Ap 4]
def dX:LSO:=[Aa 6 1]
def dW:LSO:=[Aa 5 7]
def dV:LSO:=[Ab 8 1 2,Aa 9 5,Bb 10 9,Cc 11 8 10,Af 1 2 11]
def dU:LSO:=[Ab 12 1 2,Aa 4 12]
def cO:aS:=⟨13,(.seq (.sreg dY [])
 (.seq (.seq (.sreg dX [])
 (.block 0 (.rangeF (tm 6) [7] (.sreg dW [])
 (.block 1 (.sreg dV C3)))))
 (.seq (.sreg dU Cp)
 .ret))),[(.tmp 4)]⟩
attribute [push_cast] dY dX dW dV dU
theorem jK:aT Tryz.prog (fun r i=>if r=3/\i=3 then 2 else 1) 115=some cO.raw:=by kernel_rfl
def fK:LSO:=[An 4]
def fJ:LSO:=[Aa 6 0,Ae 7 6,Aa 8 1,Ae 9 8,AM 10 7 9]
def fI:LSO:=[An 4]
def fH:LSO:=[Aa 11 0,Ae 12 11,Ac 13 0]
def fG:LSO:=[Ak 14 13 12]
def fF:LSO:=[Aa 15 13,Aa 5 15]
def fE:LSO:=[Aa 16 0,Aa 17 5,Al 18 1 16 17,Ab 19 1 18,Aa 20 1,Aa 21 5,Al 22 1 20 21,Ab 23 1 22,AM 24 19 23]
def fD:LSO:=[An 4]
def fC:LSO:=[Ah 25 13 1,Aa 13 25]
def fB:LSO:=[AC 4]
def bK:aS:=⟨26,(.seq (.sreg fK [])
 (.seq (.seq (.sreg fJ Cs)
 (.cond (tm 10) (.seq (.sreg fI [])
 .ret)
 .skip))
 (.seq (.seq (.sreg fH Cv)
 (.block 0 (.loop (.seq (.sreg fG [])
 (.seq (.cond (tm 14) .skip
 (.exit 0))
 (.seq (.block 1 (.seq (.sreg fF Cp)
 (.seq (.sdreg fE [.pure,.pure,(.read 0 0),(.read 0 0),.pure,.pure,(.read 0 0),(.read 0 0)] C1)
 (.cond (tm 24) (.seq (.sreg fD [])
 .ret)
 .skip))))
 (.sreg fC Cp)))))))
 (.seq (.sreg fB [])
 .ret)))),[(.tmp 4)]⟩
attribute [push_cast] fK fJ fI fH fG fF fE fD fC fB
theorem ft:aT Tryz.prog (fun _ _=>1) 50=some bK.raw:=by kernel_rfl
attribute [push_cast] jP oz KH fa fS KI bS fR aL oA oy lw dZ gl cN cG cR cI fT cO bK
end Go.Proofs.YtobihfefmlgaoaaGreat.Av
