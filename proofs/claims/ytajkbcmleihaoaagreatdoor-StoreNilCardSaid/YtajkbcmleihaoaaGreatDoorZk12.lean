/- Joined texts of the walk, made small by a program. -/
import Derived.Test.YtajkbcmleihaoaaGreatDoorZk11
import Derived.Test.YtajkbcmleihaoaaGreatDoorZk7
import Derived.Test.YtajkbcmleihaoaaGreatDoorZk4
import Derived.Test.YtajkbcmleihaoaaGreatDoorRows
import Derived.KernelRfl
set_option linter.unusedSimpArgs false
set_option linter.unusedVariables false
namespace Go.Proofs.YtajkbcmleihaoaaGreatDoor.Av
open Go
variable {room:Int}{n:Nat}
set_option maxHeartbeats 8000000
set_option maxRecDepth 100000
inductive Om (n:Nat) (rm:Int) (suf:List Rdn) (last:Int) (l:List aA) (u:Upd) (j:Jst) (recs:List (List UInt8)):Int->List aA->List (List UInt8)->Int->Prop
 |no (ha:eN suf l u.kind u.dn u.tw≠0):Om n rm suf last l u j recs last l recs (eN suf l u.kind u.dn u.tw)
 |full (ha:eN suf l u.kind u.dn u.tw=0) (r:List (List UInt8)) (hr:r=recs\/r=LW (Fb suf l)) (why:(wrU u).2≠0\/262144<(wrU u).1.length\/uX n rm j<cw (wrU u).1.length):Om n rm suf last l u j recs last l r 80
 |ok (ha:eN suf l u.kind u.dn u.tw=0) (r:List (List UInt8)) (hr:r=recs\/r=LW (Fb suf l)) (h1:(wrU u).2=0) (h2:(wrU u).1.length<=262144) (j0:Jst) (h3:(cw (wrU u).1.length:Int)<=uX n rm j0):Om n rm suf last l u j recs (doT suf l last u.kind u.dn u.tw u.attrs).2 (doT suf l last u.kind u.dn u.tw u.attrs).1 (r++[(wrU u).1]) 0
theorem Rt{S:List Sec}{j:Jst}{b:List UInt8}(h:(iB az S room j b).1=0):(cw b.length:Int)<=uX S.length room j:=by unfold iB at h;split at h;cases h;split at h;cases h;rename_i a;omega
theorem Ru{S:List Sec}{j:Jst}{b:List UInt8}(c:b.length<=262144)(h:(iB az S room j b).1≠0):(iB az S room j b).1=11/\uX S.length room j<cw b.length:=by unfold iB at h⊢;rw[if_neg aeu]at h⊢;split;rename_i a;exact⟨rfl,a⟩;rename_i a;rw[if_neg a]at h;exact absurd rfl h
section
variable {L:List Blk}{A:Adr}{lim:Int}{suf:List Rdn}{last:Int}{l:List aA}{S:List Sec}{j:Jst}{recs:List (List UInt8)}
theorem ZK{a:List AV}{K:abx}(h:K (.tup [.int .i64 1,.int .i64 1]) L):abw 11 [.nilptr,.agg a] L K:=by replace h:=hid h;refine abv eP ?_;exact ae rfl h.o
theorem Rf(w:List aA):(LW w).length=w.length:=by simp[LW]
theorem VJ(h:sh L A lim suf last l S j recs)(w:last<=800000)(s:l.length<=800000){u:Upd}(m:dnB u.dn)(p:dnB u.tw)(f:vf u){K:abx}(x:∀(M:List Blk),sh M A lim suf (doT suf l last u.kind u.dn u.tw u.attrs).2 (doT suf l last u.kind u.dn u.tw u.attrs).1 S j recs->(∀(i:Nat) (b:Blk),L[i]?=some b->NoS b->M[i]?=some b)->L.length<=M.length->K (.int .i64 (eN suf l u.kind u.dn u.tw)) M):
  abw 31 [.ptr A.it 0,.agg (gp u)] L K:=by
 obtain⟨nb,bn,ck,ci,rs,g⟩:=h.c;obtain⟨G,O,N,J⟩:=h.tok.done h.l0.1 u.kind u.dn u.tw u.attrs;have H:=W0 (Q:=avW) (suf:=suf) (last:=last) (k:=u.kind) (dn:=u.dn) (tn:=u.tw) (v:=u.attrs) h.av f;have I:=h.l0;have:=Ze (K:=K) h.tok h.n.1 aeu h.l0.1 aeu h.t g (k:=u.kind) m p (v:=u.attrs) f.1 (λa q=>(f.2 a q).2.1) λM E y B F D z C o =>
  x M (h.tre g z C o G aeu aeu H) (λi b e r=>o.get e (by obtain⟨k,v,t,rfl,_⟩:=r;exact h.noT g e λd t q=>by cases q)) o.len
 exact this
theorem VI(h:sh L A lim suf last l S j recs){K:abx}(b:K (.sl ((LW (Fb suf l)).map AV.str) (LW (Fb suf l)).length none) L):abw 30 [.ptr A.iv 0] L K:=by obtain⟨nb,bn,ck,ci,rs,d⟩:=h.c;have e:=h.ln;exact Z7 h.tok aeu (λx a=>(h.av x a).ok) (λx a=>h.av x a) d (by rw[Rf]at b;exact b)
theorem aaF(h:sh L A lim suf last l S j recs)(a2:last<=800000)(a1:l.length<=800000){u:Upd}(N:dnB u.dn)(H:dnB u.tw)(X:vf u){K:abx}(w:∀(M:List Blk) last' l' S' j' recs' code,sh M A lim suf last' l' S' j' recs'->Om S.length (cA S.length lim) suf last l u j recs last' l' recs' code->S'.length=S.length->j'.gen<=j.gen+1->last'<=last+1->l'.length<=l.length+1->(∀(i:Nat) (b:Blk),L[i]?=some b->NoS b->M[i]?=some b)->L.length<=M.length->K (.tup [.int .i64 code,.int .i64 0]) M):
  abw 11 [.ptr A.sp 0,.agg (gp u)] L K:=by
 have k:sh (L++[.cells (gp u)]) A lim suf last l S j recs:=h.app _;have W:L.length<=(L++[Blk.cells (gp u)]).length:=aev;have p:∀(i:Nat) (b:Blk),L[i]?=some b->(L++[Blk.cells (gp u)])[i]?=some b:=λi b e=>abt e
 obtain⟨nb,bn,ck,ci,rs,hc⟩:=k.c;obtain⟨ab,a⟩:=abr (eN suf l u.kind u.dn u.tw);have kk1:Hid (∀{K:abx},K (.int .i64 ab) (L++[.cells (gp u)])->abw 13 [.ptr A.iv 0,.agg (gp u)] (L++[.cells (gp u)]) K):=@hid _ (λ{K} q=>EJ h.tok aeu hc N H (by rw[a];exact q));obtain⟨⟨body,we⟩,g⟩:∃q,wrU u=q:=⟨_,rfl⟩;have kk2:Hid (Ctr Tryz.prog 14 [.agg (gp u)] (.tup [.str body,.int .i64 we])):=@hid _ (λ{L K} q=>Pu N H X (by rw[g];exact q));have an:(L++[Blk.cells (gp u)])[A.sp]?=some (.cells [.ptr A.iv 0,.ptr A.it 0,.ptr A.jp 0,.bool false]):=k.s;have a5:(L++[Blk.cells (gp u)])[A.it]?=some (.cells [.ptr A.iv 0]):=k.t;have U:NoS (.cells (gp u)):=⟨_,_,_,rfl,aev⟩;by_cases ha:ab=0;rotate_left;have h2:Hid (K (.tup [.int .i64 ab,.int .i64 0]) (L++[.cells (gp u)])):=hid (w _ last l S j recs ab k (by rw[<- a];exact .no (by rw[a];exact ha)) rfl (adp _) aeu (adp _) (λi b e _=>p i b e) W);have g1:decide (ab=0)=false:=decide_eq_false ha;clear h w hc k a ha g;refine abv eP ?_;exact ag h2.o;subst ha;obtain⟨q,D⟩:=abr ((!decide (we=0) ||decide (262144<(body.length:Int))));cases q with
 | true =>
   have h2:Hid (K (.tup [.int .i64 80,.int .i64 0]) (L++[.cells (gp u)])):=hid (w _ last l S j recs 80 k (.full a recs (.inl rfl) (by
    rw[g];simp only[acn,acd,decide_eq_false_iff_not,decide_eq_true_eq]at D;rcases D with D|D
    .exact .inl D
    .exact .inr (.inl (by show 262144<body.length;omega)))) rfl (adp _) aeu (adp _) (λi b e _=>p i b e) W)
   obtain⟨x1,bb⟩:=abr (decide (we=0));obtain⟨x2,a'⟩:=abr (decide (262144<(body.length:Int)));rw[bb,a']at D;clear h w hc k a g;refine abv eP ?_;exact ag h2.o
 | false =>
   have a9:we=0/\body.length<=262144:=by simp only[adD,Bool.not_eq_false',decide_eq_false_iff_not,decide_eq_true_eq]at D;exact⟨D.1,aeu⟩
   obtain⟨rfl,a3⟩:=a9;have g2:¬(262144:Int)<(body.length:Int):=aeu;clear D;have G:=hid a3;replace w:=hid w;replace g:=hid g;replace a:=hid a;clear hc;have ad:=hid k;replace h:=hid h;clear k a3;refine abv eP ?_;have k:=ad.o;refine No k.m (λM S1 j1 r1 R q2 q3 V q5 B q7=>?_);have P:=k.jrn R B;have a6:L.length<=M.length:=aca W q7;have J:Hid (∀(i:Nat) (b:Blk),L[i]?=some b->NoS b->M[i]?=some b):=hid (λi b e f=>by rw[B i (k.m.off (p i b e) f.noJ).1 (aby.1 (p i b e)).1];exact p i b e);have F:M[L.length]?=some (.cells (gp u)):=by have e:(L++[Blk.cells (gp u)])[L.length]?=some (.cells (gp u)):=aev;rw[B _ (k.m.off e U.noJ).1 aev];exact e
   have al:=P.s;have av:=P.t;by_cases Z:(iB az S (cA S.length lim) j body).1=0
   .have hr:=Rt Z;rw[Z];have C:=hid (λ(z:List Blk) (I:sh z A lim suf (doT suf l last u.kind u.dn u.tw u.attrs).2 (doT suf l last u.kind u.dn u.tw u.attrs).1 S1 j1 r1) (E:∀(i:Nat) (b:Blk),M[i]?=some b->NoS b->z[i]?=some b) (t3:M.length<=z.length)=>w.o z _ _ S1 j1 r1 0 I (by rw[V Z];have:=Om.ok (n:=S.length) (rm:=cA S.length lim) (last:=last) (j:=j) (recs:=recs) a.o recs (.inl rfl) (by rw[g.o]) (by rw[g.o];exact G.o) j (by rw[g.o];exact hr);rw[g.o]at this;exact this) q2 aeu (h.o.tok.done h.o.l0.1 _ _ _ _).2.2.1 (h.o.tok.done h.o.l0.1 _ _ _ _).2.2.2 (λi b e f=>E i b (J.o i b e f) f) (aca a6 t3))
    replace P:=hid P;clear w ad kk1 kk2 R V q5 B hr an a5 p Z k;refine wk ?_;refine VJ P.o a2 a1 N H X (λz I E t3=>?_);rw[a.o];have O:=hid (C.o z I E t3);clear C I E t3;refine wk ?_;exact ag O.o
   .obtain⟨f1,f2⟩:=Ru G.o Z;rw[f1];obtain⟨z1,z2,z3,_⟩:=q5 Z;subst z1 z2 z3;obtain⟨ds,x⟩:=abr (LW (Fb suf l));have a_:ds.length<=1000000:=by rw[<- x,Rf];have:=Rw suf l;omega
    have y:=hid P;obtain⟨DA,a4⟩:=abr (ds.map AV.str);have kk3:Hid (∀{K:abx},K (.sl DA ds.length none) M->abw 30 [.ptr A.iv 0] M K):=@hid _ (λ{K} q=>VI P (by rw[x,a4];exact q));replace f2:=hid f2;replace x:=hid x;clear ad kk1 kk2 R V q5 B an a5 p Z k P;refine wk ?_;rw[<- a4];refine UN y.o.m a_ (λz S2 j2 r2 p1 p2 p3 p4 p5 p6 p7=>?_);have d:=y.o.jrn p1 p6;have v:Hid (∀(i:Nat) (b:Blk),L[i]?=some b->NoS b->z[i]?=some b):=hid (λi b e f=>by rw[p6 i (y.o.m.off (J.o i b e f) f.noJ).1 (aby.1 (J.o i b e f)).1];exact J.o i b e f);have Y:z[L.length]?=some (.cells (gp u)):=by rw[p6 _ (y.o.m.off F U.noJ).1 (aby.1 F).1];exact F
    have ap:=d.s;have a0:=d.t;have a8:L.length<=z.length:=aca a6 p7;obtain⟨e2,ai⟩:=abr ((aX az S1 (cA S1.length lim) j1 ds).1);rw[ai]at p4 p5⊢;by_cases e0:e2=0
    .subst e0;have a7:=p4 rfl;subst a7;replace d:=hid d;clear p1 p4 p5 p6 kk3 y al av F ai;refine wk ?_;refine No d.o.m (λM3 S3 j3 r3 R q2 q3 V q5 B q7=>?_);have r:=d.o.jrn R B;have Q:Hid (∀(i:Nat) (b:Blk),L[i]?=some b->NoS b->M3[i]?=some b):=hid (λi b e f=>by rw[B i (d.o.m.off (v.o i b e f) f.noJ).1 (aby.1 (v.o i b e f)).1];exact v.o i b e f);have bl:M3[L.length]?=some (.cells (gp u)):=by rw[B _ (d.o.m.off Y U.noJ).1 (aby.1 Y).1];exact Y
     have bd:=r.s;have bk:=r.t;by_cases T:(iB az S2 (cA S2.length lim) j2 body).1=0
     .have hr:=Rt T;rw[p2]at hr;rw[T];have C:=hid (λ(M4:List Blk) (I:sh M4 A lim suf (doT suf l last u.kind u.dn u.tw u.attrs).2 (doT suf l last u.kind u.dn u.tw u.attrs).1 S3 j3 r3) (E:∀(i:Nat) (b:Blk),M3[i]?=some b->NoS b->M4[i]?=some b) (t3:M3.length<=M4.length)=>w.o M4 _ _ S3 j3 r3 0 I (by rw[V T];have:=Om.ok (n:=S1.length) (rm:=cA S1.length lim) (last:=last) (j:=j1) (recs:=r1) a.o r2 (.inr x.o.symm) (by rw[g.o]) (by rw[g.o];exact G.o) j2 (by rw[g.o];exact hr);rw[g.o]at this;exact this) aeu aeu (h.o.tok.done h.o.l0.1 _ _ _ _).2.2.1 (h.o.tok.done h.o.l0.1 _ _ _ _).2.2.2 (λi b e f=>E i b (Q.o i b e f) f) aeu)
      replace r:=hid r;clear w R V q5 B hr ap a0 T d;refine wk ?_;refine VJ r.o a2 a1 N H X (λM4 I E t3=>?_);rw[a.o];have O:=hid (C.o M4 I E t3);clear C I E t3;refine wk ?_;exact ag O.o
     .obtain⟨f3,f4⟩:=Ru G.o T;rw[f3];obtain⟨z1,z2,z3,_⟩:=q5 T;have O:Hid (K (.tup [.int .i64 80,.int .i64 0]) M3):=hid (w.o M3 last l S3 j3 r3 80 r (.full a.o r3 (.inr (by rw[z1];exact x.o.symm)) (.inr (.inr (by rw[g.o];exact f2.o)))) aeu aeu aeu (adp _) Q.o aeu);clear w R V q5 B ap a0 T d r f4;refine wk ?_;exact ag O.o
    .obtain⟨z1,z2,z3⟩:=p5 e0;have O:Hid (K (.tup [.int .i64 80,.int .i64 0]) z):=hid (w.o z last l S2 j2 r2 80 d (.full a.o r2 (.inl z1) (.inr (.inr (by rw[g.o];exact f2.o)))) p2 p3 aeu (adp _) v.o a8);clear w p1 p4 p5 p6 d y al av ai;rcases z3 with rfl|rfl
     .refine wk ?_;exact ag O.o
     .refine wk ?_;exact ag O.o
end
set_option maxHeartbeats 8000000
set_option maxRecDepth 100000
abbrev TrS:=List aA×Int
def HK(suf:List Rdn)(s:TrS)(u:Upd):TrS:=doT suf s.1 s.2 u.kind u.dn u.tw u.attrs
def jC(suf:List Rdn)(s:TrS)(bs:List (List UInt8)):TrS:=bs.foldl (λs b=>HK suf s (rdU b).1) s
def Ry(suf:List Rdn):TrS->List (List UInt8)->Prop
 |_,[]=>True
 |s,b::r=>∃u,rdU b=(u,0)/\dnB u.dn/\dnB u.tw/\vf u/\b.length<=1100000/\eN suf s.1 u.kind u.dn u.tw=0/\Ry suf (HK suf s u) r
def Apt(mn mi i:Nat)(b:Blk):Prop:=(∃c,b=.cells c/\∀d t,c≠dnA d::t)\/(i≠mn/\i≠mi/\∃m k,b=.map m k)
theorem aU.apt{L:List Blk}{iv mn mi:Nat}{nb bn:Int->Nat}{ck ci:Nat}{rs:List TKy}{suf:List Rdn}{last:Int}{l:List aA}(f:aU L iv mn mi nb bn ck ci rs suf last l){i:Nat}{b:Blk}(a:L[i]?=some b)(d:Apt mn mi i b):¬OfT iv mn mi nb l i:=by rintro(e|e|e|⟨x,g,e⟩);rw[e,f.v,abz]at a;rcases d with⟨c,rfl,h⟩|⟨_,_,m,k,rfl⟩;exact h _ _ (Blk.cells.inj a).symm;cases a;rcases d with⟨c,rfl,h⟩|⟨h,_⟩;rw[e,f.n,abz]at a;cases a;exact h e;rcases d with⟨c,rfl,h⟩|⟨_,h,_⟩;rw[e,f.i,abz]at a;cases a;exact h e;rw[e,f.nd x g,abz]at a;rcases d with⟨c,rfl,h⟩|⟨_,_,m,k,rfl⟩;exact h x.nm _ (Blk.cells.inj a).symm;cases a
section
variable {L:List Blk}{it iv mn mi:Nat}{suf:List Rdn}
structure Xv(L:List Blk)(it iv mn mi:Nat)(suf:List Rdn)(fin:TrS)(L':List Blk)(s:TrS)(bs:List (List UInt8)):Prop where
 c:∃nb bn ck ci rs,aU L' iv mn mi nb bn ck ci rs suf s.2 s.1
 t:L'[it]?=some (.cells [.ptr iv 0])
 ok:Ry suf s bs
 fn:jC suf s bs=fin
 tok:TOk suf s.2 s.1
 l0:0<=s.2/\s.2+bs.length<=800000
 ln:s.1.length+bs.length<=800000
 av:∀x∈s.1,avW x.av
 keep:∀(i:Nat) (b:Blk),L[i]?=some b->Apt mn mi i b->L'[i]?=some b
 len:L.length<=L'.length
theorem Uq{bs:List (List UInt8)}{s:TrS}{cap:Option Nat}(W:mn≠mi)(Q:Xv L it iv mn mi suf (jC suf s bs) L s bs){K:abx}(h:∀L',Xv L it iv mn mi suf (jC suf s bs) L' (jC suf s bs) []->K (.tup [.int .i64 bs.length,.int .i64 0]) L'):
  abw 23 [.ptr it 0,.sl (bs.map AV.str) bs.length cap] L K:=by
 obtain⟨E,A⟩:=abr (jC suf s bs);rw[A]at Q h;have X:bs.length<=800000:=by have:=Q.ln;omega
 obtain⟨H,r⟩:=abr (bs.map AV.str);obtain⟨n,J⟩:=abr (bs.length);have ad:H.length=n:=by rw[<- r,<- J];simp
 have D:Hid (∀i,i<n->H.getD i .undef=.str (bs.getD i [])):=hid (λi Z=>by rw[<- r,abR,abR];simp[J,Z])
 rw[r,J];rw[J]at X h;replace h:=hid h;have B:=hid Q;clear Q r A;refine abv Hr ?_;refine ar (λm T' L'=>∃(k:Nat) (s:TrS),m=n-k/\k<=n/\Hid (Xv L it iv mn mi suf E L' s (bs.drop k))/\T'=[(14,.int .i64 (k:Int)),(13,.int .i64 (n:Int)),(12,.sl H n cap),(1,.sl H n cap),(0,.ptr it 0)]) (CutS (b:=abA _)) ⟨0,s,rfl,abJ _,B,rfl⟩ ?_;rintro m _ L' ⟨k,I,hm,hk,U,rfl⟩;subst m;by_cases l:k<n;have g1:(k:Int)<(n:Int):=aeu;have g2:IntKind.i64.wrap ((k:Int)+1)=((k+1:Nat):Int):=by rw[af aeu aeu];omega
 have ai:k<H.length:=aeu;have e1:=D.o k l;obtain⟨b,F⟩:=abr (bs.getD k []);rw[F]at e1;have O:bs.drop k=b::bs.drop (k+1):=by rw[acA aeu,<- F];simp[J,l]
 have d:=U.o;rw[O]at d;obtain⟨u,u1,u2,u3,T,u5,P,u7⟩:=d.ok;have kk1:Hid (Ctr Tryz.prog 58 [.str b] (.tup [.agg (gp u),.int .i64 0])):=@hid _ (by intro L K q;exact ZO u5 (by rw[u1];exact q));obtain⟨nb,bn,ck,ci,rs,G⟩:=d.c;have Y:=d.l0;have V:=d.ln;simp only[abU]at Y V;have p:(L'++[Blk.cells (gp u)])[it]?=some (.cells [.ptr iv 0]):=abt d.t;have j:=G.app [Blk.cells (gp u)];have f:∀L2 z w g x y,aU L2 iv mn mi z w g x y suf (HK suf I u).2 (HK suf I u).1->L2[it]?=some (.cells [.ptr iv 0])->aL (OfT iv mn mi nb I.1) (L'++[Blk.cells (gp u)]) L2->Xv L it iv mn mi suf E L2 (HK suf I u) (bs.drop (k+1)):=λL2 z w g x y S R N=>by obtain⟨d1,d2,d3,d4⟩:=d.tok.done d.l0.1 u.kind u.dn u.tw u.attrs;have C:=d.fn;unfold jC at C;rw[acI,u1]at C;refine⟨⟨_,_,_,_,_,S⟩,R,u7,by unfold jC;exact C,d1,⟨by have:=d.l0.1;unfold HK;omega,by unfold HK;omega⟩,by unfold HK;omega,W0 d.av T,λi b hi F=>?_,?_⟩;have e:=d.keep i b hi F;refine N.get (abt e) (G.apt e F);have:=N.len;have:=d.len;simp at *;omega
 replace f:=hid f;replace d:=hid d;replace G:=hid G;replace j:=hid j;replace p:=hid p;replace P:=hid P;have al:=hid d.o.len;clear U O u1 u7 h F B D;refine wk ?_;refine Ze d.o.tok W aeu d.o.l0.1 aeu p.o j.o (k:=u.kind) u2 u3 (v:=u.attrs) T.1 (λa q=>(T.2 a q).2.1) λL2 z w g x y S R N=>?_
 rw[P.o];have M:=hid (f.o L2 z w g x y S R N);clear S R N f d G j p P u2 u3 T;refine wk ?_;exact aez aeu (CutL (b:=by have:=M.o.len;omega)) ⟨k+1,_,rfl,l,M,rfl⟩;have ab:k=n:=aeu;subst ab;have g1:¬(k:Int)<(k:Int):=aeu;have d:=U.o;rw[ac6 aeu]at d;have e:I=E:=d.fn;subst e;have Z:=hid (h.o L' d);clear U d h B D l hk;refine wk ?_;exact ag Z.o
end
variable {L:List Blk}{K:abx}
set_option maxHeartbeats 8000000
set_option maxRecDepth 100000
theorem VN{suf:List Rdn}{cap:Option Nat}(hd:dnB suf)(c:OkD suf)(a:suf≠[])(h:K (.tup [.nilptr,.int .i64 1]) L):abw 7 [.nilptr,.sl (suf.map aJ) suf.length cap] L K:=by have kk1:Hid (∀{K:abx},K (.tup [.ptr (L.length+3) 0,.int .i64 0]) (L++[.map [] 0,.map [] 0,.cells [dnA suf,.lmap L.length,.lmap (L.length+1),.int .i64 0],.cells [.ptr (L.length+2) 0]])->abw 21 [.sl (suf.map aJ) suf.length cap] L K):=@hid _ (λ{K} q=>Pv hd (λe=>absurd c e) (λe=>absurd e a) (λ_ _=>q));have kk2:Hid (Ctr Tryz.prog 22 [.nilptr] (.tup [.nilptr,.sl [] 0 (some 0),.int .i64 1])):=@hid _ (λ{L K} q=>Wy q);replace h:=hid h;obtain⟨d,b⟩:=abr (suf.map aJ);rw[b]at kk1⊢;refine abv ny ?_;exact ae rfl h.o
theorem VO{v:AV}{cap:Option Nat}(h:K (.tup [.nilptr,.int .i64 2]) L):abw 7 [v,.sl [] 0 cap] L K:=by have kk1:Hid (∀{K:abx},K (.tup [.nilptr,.int .i64 2]) L->abw 21 [.sl [] 0 cap] L K):=@hid _ (λ{K} q=>Pv (d:=[]) ⟨aev,aev⟩ (λe=>absurd (by rfl:(prS []).2=0) e) (λ_=>q) (λ_ e=>absurd rfl e));replace h:=hid h;refine abv ny ?_;exact ag h.o
section
variable {L:List Blk}{dp lp wp:Nat}{lim:Int}{S:List Sec}{suf:List Rdn}
theorem HD.apt{L:List Blk}{dp lp wp mn mi:Nat}{lim:Int}{S:List Sec}(h:HD L dp lp wp lim S)(a:wp≠mn)(c:wp≠mi):∀i b,(i=dp\/i=lp\/i=wp)->L[i]?=some b->Apt mn mi i b:=λi b q e=>by
 obtain⟨cp,x,y,z,hd⟩:=h.d;obtain⟨ck,f⟩:=h.w;rcases q with rfl|rfl|rfl;rw[hd,abz]at e;subst e;exact .inl ⟨_,rfl,λd t q=>by cases q⟩;rw[h.l,abz]at e;subst e;refine .inl ⟨_,rfl,λd t q=>?_⟩;have h4:=h.n4
 match S,h4 with
 |s::r,_=>cases q
 rw[f,abz]at e;subst e;exact .inr ⟨a,c,_,_,rfl⟩
theorem Tk(h:HD L dp lp wp lim S)(hd:dnB suf)(hk:OkD suf)(U:suf≠[]){cap:Option Nat}(I:(aX az S (cA S.length lim) (bB az S).1 (bB az S).2).1=0)(n:Ry suf ([],0) (bB az S).2){K:abx}(R:∀(M:List Blk) A Q O,A.dp=dp->A.lp=lp->A.wp=wp->sh M A lim suf (jC suf ([],0) (bB az S).2).2 (jC suf ([],0) (bB az S).2).1 Q O (bB az S).2->Q.length=S.length->O.gen=(bB az S).1.gen+1->(∀(i:Nat) (b:Blk),L[i]?=some b->NoS b->M[i]?=some b)->L.length<=M.length->K (.tup [.ptr A.sp 0,.int .i64 0]) M):
  abw 7 [.ptr dp 0,.sl (suf.map aJ) suf.length cap] L K:=by
 obtain⟨recs,j⟩:=abr ((bB az S).2);have an:recs.length<=8192:=by rw[<- j];unfold bB;dsimp only;split;have:=J3 (rdC az) (vg az S).2.1 (aQ S.length) ((S.drop (aK S.length (vg az S).2.2.1)).take (aQ S.length)) [];have h8:=h.n8;have:aQ S.length=(S.length-2)/2:=rfl;simp only[ack]at *;omega;simp
 obtain⟨L1,B⟩:=abr (L++[.map [] 0,.map [] 0,.cells [dnA suf,.lmap L.length,.lmap (L.length+1),.int .i64 0],.cells [.ptr (L.length+2) 0]]);have f:∀(i:Nat) (b:Blk),L[i]?=some b->L1[i]?=some b:=λi b e=>by rw[<- B,abC (aby.1 e).1];exact e
 obtain⟨cp,x,y,z,m⟩:=h.d;obtain⟨ck,D⟩:=h.w;have J:=h.l;have a:∀i,i=dp\/i=lp\/i=wp->L1[i]?=L[i]?/\i<L.length:=λi q=>by rcases q with rfl|rfl|rfl;exact⟨by rw[f _ _ m,m],(aby.1 m).1⟩;exact⟨by rw[f _ _ J,J],(aby.1 J).1⟩;exact⟨by rw[f _ _ D,D],(aby.1 D).1⟩
 have h1:HD L1 dp lp wp lim S:=h.keep λi q=>(a i q).1
 have H:aU L1 (L.length+2) L.length (L.length+1) (λ_=>0) (λ_=>0) 0 0 [] suf 0 []:=by rw[<- B];exact aU.start L suf
 have u:L1[L.length+3]?=some (.cells [.ptr (L.length+2) 0]):=by rw[<- B,abN aeu];simp
 have a4:L1.length=L.length+4:=by rw[<- B];simp
 have kk1:Hid (∀{K:abx},K (.tup [.ptr (L.length+3) 0,.int .i64 0]) L1->abw 21 [.sl (suf.map aJ) suf.length cap] L K):=@hid _ (λ{K} q=>Pv hd (λe=>absurd hk e) (λe=>absurd e U) (λ_ _=>by rw[B];exact q));obtain⟨a1,a2,a3⟩:=h1.ne;obtain⟨i1,T⟩:=OW NU (Uh h.n4) h.n8 I;obtain⟨i3,i4⟩:=OX h.all h.n8 I;obtain⟨Z,P⟩:=abr (aX az S (cA S.length lim) (bB az S).1 (bB az S).2);rw[P]at i1 T i3 i4;have W:Hid (∀(K2:AV->List Blk->Prop),(∀(M:List Blk) jp c,z7 M jp dp lp wp lim Z.2.2 Z.2.1 recs->(∀i,i≠lp->i≠wp->i<L1.length->M[i]?=L1[i]?)->L1.length<=M.length->L1.length<=jp->K2 (.tup [.ptr jp 0,.sl (recs.map AV.str) recs.length c,.int .i64 0]) M)->abw 22 [.ptr dp 0] L1 K2):=hid (λK2 q=>by obtain⟨cp,x,y,z,m⟩:=h1.d;obtain⟨ck,D⟩:=h1.w;refine Yu m h1.l D a1 a2 a3 h.n8 h.n4 h.all h.lm.2 I (λM jp ad c r1 r2 r3 r4 r5 r6=>?_);rw[show aX az S (if(S.length:Int)<lim then(S.length:Int)else lim) (bB az S).1 (bB az S).2=Z from P]at r1 r2;rw[j]at i1⊢;refine q M jp c ⟨⟨⟨cp,x,y,z,?_⟩,r2,⟨ad,r3⟩,by rw[T];exact h.n4,by rw[T];exact h.n8,i3,h.lm⟩,r1,i1⟩ r4 r5 r6;rw[r4 dp a1 a2 (aby.1 m).1,T];exact m)
 rw[j]at R n;obtain⟨ab,g⟩:=abr (jC suf ([],0) recs);rw[g]at R;replace R:=hid R;replace n:=hid n;replace g:=hid g;replace H:=hid H;replace u:=hid u;replace f:=hid f;replace a:=hid a;obtain⟨AL,ai⟩:=abr (suf.map aJ);rw[ai]at kk1⊢;have F:=hid (a.o wp (.inr (.inr rfl))).2;clear i1 i3 P I j B h1 m D J;refine abv ny ?_;refine W.o _ (λM jp c C m2 m3 m4=>?_);clear W kk1;have Y:Hid (Xv M (L.length+3) (L.length+2) L.length (L.length+1) suf (jC suf ([],0) recs) M ([],0) recs):=hid (by
  have hq:∀i,i=L.length\/i=L.length+1\/i=L.length+2\/i=L.length+3->M[i]?=L1[i]?:=λi q=>by have w1:=(a.o lp (.inr (.inl rfl))).2;have w2:=F.o;exact m2 i aeu aeu aeu
  refine⟨⟨_,_,_,_,_,H.o.stay λi q=>hq i ?_⟩,?_,n.o,rfl,TOk.nil hk U,⟨Int.le_refl _,by dsimp only;omega⟩,by simp;omega,aev,λi b e _=>e,abA _⟩;rcases q with q|q|q|⟨x,hx,q⟩;omega;omega;omega;cases hx;rw[hq _ (.inr (.inr (.inr rfl)))];exact u.o)
 replace C:=hid C;replace m2:=hid m2;refine wk ?_;refine Uq aeu Y.o (λL' E=>?_);have al:=E.t;have hS:Hid (∃Q O,sh (L'++[.cells [.ptr (L.length+2) 0,.ptr (L.length+3) 0,.ptr jp 0,.bool false]]) ⟨L'.length,L.length+3,L.length+2,L.length,L.length+1,jp,dp,lp,wp⟩ lim suf ab.2 ab.1 Q O recs/\Q.length=S.length/\O.gen=(bB az S).1.gen+1):=hid (by
  obtain⟨nb,bn,ck,ci,rs,hc⟩:=E.c;have N:=E.l0;have X:=E.ln;rw[g.o]at hc N X;have V:∀{i:Nat}{b:Blk},L'[i]?=some b->(L'++[Blk.cells [.ptr (L.length+2) 0,.ptr (L.length+3) 0,.ptr jp 0,.bool false]])[i]?=some b:=λ{i b} e=>abt e
  have p:wp≠L.length/\wp≠L.length+1:=(by have:=F.o;omega);have G:∀(i:Nat) (b:Blk),M[i]?=some b->Apt L.length (L.length+1) i b->(L'++[Blk.cells [.ptr (L.length+2) 0,.ptr (L.length+3) 0,.ptr jp 0,.bool false]])[i]?=M[i]?:=λi b e q=>by rw[V (E.keep i b e q),e]
  refine⟨Z.2.2,Z.2.1,⟨⟨nb,bn,ck,ci,rs,hc.app _⟩,aev,V E.t,C.o.keep λi q=>?_,⟨by show L.length≠L.length+1;omega,p⟩,by have:=E.tok;rw[g.o]at this;exact this,⟨N.1,by have:=N.2;simp at this;omega⟩,by simp at X;omega,by have:=E.av;rw[g.o]at this;exact this⟩,T,i4⟩;rcases q with q|q|q;obtain⟨cp,x,y,z,e⟩:=C.o.k.d;rw[q];exact G _ _ e (C.o.k.apt p.1 p.2 _ _ (.inl rfl) e);rw[q];exact G _ _ C.o.jb (.inl ⟨_,rfl,λd t q=>by cases q⟩);rcases q with q|q;rw[q];exact G _ _ C.o.k.l (C.o.k.apt p.1 p.2 _ _ (.inr (.inl rfl)) C.o.k.l);obtain⟨a0,e⟩:=C.o.k.w;rw[q];exact G _ _ e (C.o.k.apt p.1 p.2 _ _ (.inr (.inr rfl)) e))
 have hF:Hid (K (.tup [.ptr L'.length 0,.int .i64 0]) (L'++[.cells [.ptr (L.length+2) 0,.ptr (L.length+3) 0,.ptr jp 0,.bool false]])):=hid (by
  obtain⟨Q,O,s1,s2,s3⟩:=hS.o;refine R.o _ ⟨L'.length,L.length+3,L.length+2,L.length,L.length+1,jp,dp,lp,wp⟩ Q O rfl rfl rfl s1 s2 s3 (λi b e hb=>?_) (by have:=E.len;simp;omega);have e1:=f.o i b e;have a5:=(aby.1 e).1;have ap:=hb;obtain⟨k,v,t,rfl,ht⟩:=hb;have off:=C.o.off (b:=.cells (.int k v::t)) (i:=i);have e2:M[i]?=some (.cells (.int k v::t)):=by
   rw[m2.o i ?_ ?_ aeu];exact e1;rintro rfl;rw[h.l,abz]at e;have h4:=h.n4
   match S,h4 with
   |s::r,_=>cases Blk.cells.inj e
   rintro rfl;obtain⟨ck,hw⟩:=h.w;rw[hw]at e;cases e
  have e3:=E.keep i _ e2 (.inl ⟨_,rfl,λd t q=>by cases q⟩);rw[abC (aby.1 e3).1];exact e3)
 clear hS E R g n H u f a Y C m2 T i4 h F;refine wk ?_;exact ag hF.o
end
variable {L:List Blk}{K:abx}
set_option maxHeartbeats 8000000
set_option maxRecDepth 100000
def sfx:List Rdn:=[[([100,99],[122])]]
theorem ZI:(prS sfx).2=0:=aew
theorem RX:OkD sfx:=ZI
theorem RY:sfx≠[]:=by simp[sfx]
theorem OT:dnB sfx:=⟨by simp[sfx],λr hr=>by simp[sfx]at hr;subst hr;simp⟩
theorem Tj(h:K (.sl [.sl [.str [100,99],.str [122]] 1 (some 1)] 1 (some 1)) L):abw 8 [] L K:=by replace h:=hid h;refine abv JL ?_;exact ag h.o
theorem Ye(h:K (.int .i64 1) L):abw 17 [.nilptr] L K:=by replace h:=hid h;refine abv qc ?_;exact ag h.o
theorem VS(h:K (.int .i64 0) L):abw 18 [.nilptr] L K:=by replace h:=hid h;refine abv zY ?_;exact ag h.o
theorem Yb(h:K (.int .i64 0) L):abw 19 [.nilptr] L K:=by replace h:=hid h;refine abv Ex ?_;exact ag h.o
theorem Ty{r:List UInt8}(h:zP az EW=some r):r.getD 0 0=0:=by unfold zP at h;split at h;cases h;rfl;cases h
theorem aaH:rdH az EW=none:=by
 unfold rdH;cases h:zP az EW with
 |none=>rfl
 |some r=>exact if_pos (.inl (by rw[Ty h];decide))
theorem aaI:rdC az EW=none:=by
 unfold rdC;cases h:zP az EW with
 |none=>rfl
 |some r=>exact if_pos (by rw[Ty h];decide)
theorem Nb{m:Nat}:∀{l:List Sec},(∀s∈l,rdC az s=none)->pS az m l=m
 |[],_=>rfl
 | s::l,h=>by
   have a:=Nb (m:=m) (l:=l) λs b=>h s (adq _ b)
   unfold pS at a⊢;rw[acI,h s List.mem_cons_self];exact a
abbrev T8(n:Nat):List Sec:=List.replicate n EW
theorem X1(h:4<=n):bB az (T8 n)=(⟨0,1,-1,0,0⟩,[]):=by
 have a:∀i,i<2->(T8 n).getD i []=EW:=λi d=>by simp[show i<n by omega]
 have c:vg az (T8 n)=(0,0,1,-1):=by unfold vg Ej;rw[a 0 (by decide),a 1 (by decide),aaH]
 unfold bB;rw[c,Nb λs b=>by have:=acY (adG b);rw[aem this];exact aaI]
 rfl
theorem Yg(h:2<=room):(aX az (T8 n) room ⟨0,1,-1,0,0⟩ []).1=0:=by unfold aX;rw[if_neg aev,if_neg (by simp[bj];omega)]
theorem Qu{S:List Sec}{j:Jst}{recs:List (List UInt8)}(a:Ok az S j recs)(d:j.gen<4294967295):(aX az S S.length ⟨j.gen,j.half,j.slot,0,0⟩ recs).1=0:=by
 have g:=a.used;have h4:=a.n4;have f:=a.half;have h:aQ S.length=(S.length-2)/2:=rfl;have i:aK S.length (1-j.half)<=2+aQ S.length:=by unfold aK;rcases(by omega:j.half=0\/j.half=1)with e|e<;>rw[e]<;>simp
 unfold aX;rw[if_neg (by rw[Bool.not_eq_true,adc];intro b c;have:=a.bd b c;simp;omega),if_neg (by simp only[not_or,Nat.not_lt];omega)]
section
variable {L:List Blk}{dp lp wp:Nat}{lim:Int}{S:List Sec}{suf:List Rdn}
theorem Rg{n:Nat}(g:4<=n)(h:n<=8192){K:abx}(j:∀(M:List Blk) dp lp wp,HD M dp lp wp n (T8 n)->(∀i,i<L.length->M[i]?=L[i]?)->L.length<=M.length->K (.ptr dp 0) M):abw 6 [.int .i64 (n:Int)] L K:=by refine Z8 aeu aeu (λM dp lp wp b a f d e _ _ _ _ _ _=>?_);rw[Int.toNat_natCast]at b a;exact j M dp lp wp ⟨⟨_,_,_,_,by rw[adi];exact b⟩,a,⟨_,f⟩,by simpa using g,by simpa using h,λs c=>by rw[aem c];rfl,aeu⟩ d e
theorem VT{n:Nat}(h4:4<=n)(h:HD L dp lp wp lim (T8 n))(p:2<=lim)(hd:dnB suf)(j:OkD suf)(d:suf≠[]){cap:Option Nat}{K:abx}(l:∀(M:List Blk) A c a,A.dp=dp->A.lp=lp->A.wp=wp->sh M A lim suf 0 [] c a []->c.length=n->a.gen=1->(∀(i:Nat) (b:Blk),L[i]?=some b->NoS b->M[i]?=some b)->L.length<=M.length->K (.tup [.ptr A.sp 0,.int .i64 0]) M):
  abw 7 [.ptr dp 0,.sl (suf.map aJ) suf.length cap] L K:=by
 have e:=X1 h4;refine Tk h hd j d (by rw[e];exact Yg (by unfold cA;rw[adi];split<;>omega)) (by rw[e];exact trivial) (λM A c a m o a3 a4 a5 f k g=>?_);rw[e]at a4 f;exact l M A c a m o a3 a4 (by rw[a5,adi]) f k g
theorem V0{j:Jst}{recs:List (List UInt8)}(h:HD L dp lp wp lim S)(g:Ok az S j recs)(l:j.gen<4294967295)(t:(S.length:Int)<=lim)(hd:dnB suf)(n:OkD suf)(f:suf≠[])(a:Ry suf ([],0) recs){cap:Option Nat}{K:abx}(p:∀(M:List Blk) A d c,A.dp=dp->A.lp=lp->A.wp=wp->sh M A lim suf (jC suf ([],0) recs).2 (jC suf ([],0) recs).1 d c recs->d.length=S.length->c.gen=j.gen+1->(∀(i:Nat) (b:Blk),L[i]?=some b->NoS b->M[i]?=some b)->L.length<=M.length->K (.tup [.ptr A.sp 0,.int .i64 0]) M):
  abw 7 [.ptr dp 0,.sl (suf.map aJ) suf.length cap] L K:=by
 have e:=Ui NU g h.n8;have s:cA S.length lim=(S.length:Int):=by unfold cA;split<;>omega
 refine Tk h hd n f (by rw[e,s];exact Qu g l) (by rw[e];exact a) (λM A d c q r a3 a4 a5 k o m=>?_);rw[e]at a4 k;exact p M A d c q r a3 a4 a5 k o m
end
theorem SP{L:List Blk}{dp lp wp:Nat}{lim:Int}{S:List Sec}(h:HD L dp lp wp lim S){k t a:Int}{K:abx}(g:∀(M:List Blk),HD M dp lp wp lim S->L.length<=M.length->K (.tup []) M):abw 24 [.ptr dp 0,.agg [.int .u64 k,.int .i64 t,.int .i64 a]] L K:=by obtain⟨cp,x,y,z,hd⟩:=h.d;obtain⟨ck,b⟩:=h.w;obtain⟨j,i,n3⟩:=h.ne;refine W6 hd h.l b h.n8 (λM e c f=>g M ⟨⟨cp,x,y,z,e⟩,?_,⟨ck,?_⟩,h.n4,h.n8,h.all,h.lm⟩ f);rw[c lp (Ne.symm j) (aby.1 h.l).1];exact h.l;rw[c wp (Ne.symm i) (aby.1 b).1];exact b
def u1:Upd:=⟨1,sfx,[],[]⟩
def u1S:List UInt8:=[48,11,2,1,1,4,4,100,99,61,122,48,0]
theorem Tf:wrU u1=(u1S,0):=aew
theorem VD:vf u1:=⟨by simp[u1],by simp[u1]⟩
theorem Zg:rdU u1S=(u1,0):=by have:=aaG VD (by rw[Tf]);rw[Tf]at this;exact this
theorem VE:eN sfx ([]:List aA) u1.kind u1.dn u1.tw=0:=aew
def l1:List aA:=[⟨1,sfx,[]⟩]
theorem Zh:doT sfx ([]:List aA) 0 u1.kind u1.dn u1.tw u1.attrs=(l1,1):=by unfold doT;rw[if_neg (λe=>e VE),if_pos (show u1.kind=1 from rfl)];rfl
theorem Zf:dnB u1.tw:=⟨by simp[u1],by simp[u1]⟩
theorem Yr{L:List Blk}{jp dp lp wp:Nat}{lim:Int}{S:List Sec}{j:Jst}{recs:List (List UInt8)}(h:z7 L jp dp lp wp lim S j recs)(d:(S.length:Int)<=lim):(aQ S.length:Int)-j.used<=uX S.length (cA S.length lim) j:=by
 have c:=h.inv.half;have h4:=h.k.n4;have a:cA S.length lim=(S.length:Int):=by unfold cA;split<;>omega
 have f:aK S.length j.half+aQ S.length<=S.length:=by have b:aQ S.length=(S.length-2)/2:=rfl;unfold aK;rcases(by omega:j.half=0\/j.half=1)with e|e<;>rw[e]<;>omega
 rw[a];unfold uX;omega
theorem Xn(suf:List Rdn):Fb suf []=[]:=by unfold Fb;split;simp[scL];rfl
theorem ZF{rm:Int}{j:Jst}{a:Int}{c:List aA}{b:List (List UInt8)}{code:Int}(h:Om n rm sfx 0 [] u1 j [] a c b code)(d:1<=uX n rm j):code=0/\b=[u1S]/\c=l1/\a=1:=by
 cases h with
 |no ha=>exact absurd VE ha
 | full ha r hr why =>
   rw[Tf]at why;rcases why with h|h|h
   .exact absurd rfl h
   .exact absurd h (by decide)
   .have:cw u1S.length=1:=(by decide);dsimp only at h;omega
 | ok ha r hr h1 h2 j0 h3 =>
   rw[Zh,Tf];have:r=[]:=by
    rcases hr with e|e
    .exact e
    .rw[e,Xn];rfl
   rw[this];exact⟨rfl,rfl,rfl,rfl⟩
theorem Yt:aO l1 sfx=1:=aew
theorem Ww:Ry sfx ([],0) [u1S]/\jC sfx ([],0) [u1S]=(l1,1):=by refine⟨⟨u1,Zg,OT,Zf,VD,by decide,VE,trivial⟩,?_⟩;unfold jC HK;rw[acI,adU,Zg];exact Zh
theorem SU(h:∀M,K (.bool true) M):abw 9 [] L K:=by
 have kk1:Hid (Ctr Tryz.prog 8 [] (.sl [.sl [.str [100,99],.str [122]] 1 (some 1)] 1 (some 1))):=@hid _ (by intro L K q;exact Tj q);replace h:=hid h;refine abv Kr ?_;refine Rg (n:=40) (by decide) (by decide) (λM dp lp wp i _ Z=>?_);replace i:=hid i;refine wk ?_;refine dQ ?_;refine VT (suf:=sfx) (cap:=none) (by decide) i.o (by decide) OT RX RY (λM2 A S' j' l H a3 a4 a5 j G F=>?_);have f:=hid a4;replace l:=hid l;replace a5:=hid a5;replace j:=hid j;clear H a3 a4 G;refine wk ?_;refine dQ ?_;refine aaF (u:=u1) f.o (by decide) (by decide) OT Zf VD (λM3 v Y W V x code C B z N I P S T=>?_);obtain⟨rfl,rfl,rfl,rfl⟩:=ZF B (by have:=Yr f.o.m (by rw[a5.o];decide);have hu:=f.o.m.inv.used.1;rw[a5.o]at this⊢;have e:aQ 40=19:=(by decide);have e2:bj []=0:=rfl;omega)
 have t:=hid C;have r:=hid (show W.length=40 by rw[z,a5.o]);have w:=hid (show V.gen<=2 by have:=j.o;omega);clear C B z N I P S T;refine wk ?_;refine SP (by rw[<- l.o];exact t.o.m.k) (λX g _=>?_);replace g:=hid g;refine wk ?_;refine dQ ?_;refine V0 (suf:=sfx) (cap:=none) g.o t.o.m.inv (by have:=w.o;omega) (by rw[r.o];decide) OT RX RY Ww.1 (λa y S3 j3 R Q U b O J E b8=>?_);rw[Ww.2]at b;obtain⟨nb,bn,ck,ci,rs,p⟩:=b.c;have D:=b.s;have kk2:Hid (∀{K:abx},K (.int .i64 1) a->abw 25 [.ptr y.iv 0] a K):=@hid _ (by intro K q;exact ZE p q);have kk3:Hid (∀{K:abx},K (.int .i64 1) a->abw 26 [.ptr y.iv 0,.sl [.sl [.str [100,99],.str [122]] 1 (some 1)] 1 (some 1)] a K):=@hid _ (by intro K q;exact dQ (pW (d:=sfx) (cap:=none) OT b.tok p (by rw[Yt];exact q)));clear R Q U b O J E b8 g t f i l a5 j F p;refine wk ?_;exact ag (h.o a)
theorem Vb(h:K (.bool true) L):abw 9 [] L K:=Qg (SU λ_=>rfl) h
variable {L:List Blk}{K:abx}
set_option maxHeartbeats 8000000
set_option maxRecDepth 100000
theorem RU(h:∀M,K (.bool true) M):abw 5 [] L K:=by have kk1:Hid (Ctr Tryz.prog 8 [] (.sl [.sl [.str [100,99],.str [122]] 1 (some 1)] 1 (some 1))):=@hid _ (by intro L K q;exact Tj q);have kk2:Hid (∀{L:List Blk}{a:List AV}{K:abx},K (.tup [.int .i64 1,.int .i64 1]) L->abw 11 [.nilptr,.agg a] L K):=@hid _ (by intro L a K q;exact ZK q);have kk3:Hid (Ctr Tryz.prog 7 [.nilptr,.sl [.sl [.str [100,99],.str [122]] 1 (some 1)] 1 (some 1)] (.tup [.nilptr,.int .i64 1])):=@hid _ (by intro L K q;exact dQ (VN (suf:=sfx) (cap:=none) OT RX RY q));have kk4:Hid (Ctr Tryz.prog 9 [] (.bool true)):=@hid _ (by intro L K q;exact Vb q);have kk5:Hid (Ctr Tryz.prog 17 [.nilptr] (.int .i64 1)):=@hid _ (by intro L K q;exact Ye q);have kk6:Hid (Ctr Tryz.prog 18 [.nilptr] (.int .i64 0)):=@hid _ (by intro L K q;exact VS q);have kk7:Hid (Ctr Tryz.prog 19 [.nilptr] (.int .i64 0)):=@hid _ (by intro L K q;exact Yb q);replace h:=hid h;refine abv E6 ?_;refine Rg (n:=40) (by decide) (by decide) (λM dp lp wp c _ b=>?_);clear c b;refine wk ?_;refine VO ?_;refine wk ?_;exact ag (h.o M)
end Go.Proofs.YtajkbcmleihaoaaGreatDoor.Av
