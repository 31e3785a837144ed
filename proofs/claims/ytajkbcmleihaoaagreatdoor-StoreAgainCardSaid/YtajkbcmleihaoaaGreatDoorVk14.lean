/- Joined texts of the walk, made small by a program. -/
import Derived.Test.YtajkbcmleihaoaaGreatDoorVk13
import Derived.Test.YtajkbcmleihaoaaGreatDoorVk9
import Derived.Test.YtajkbcmleihaoaaGreatDoorVk7
import Derived.Test.YtajkbcmleihaoaaGreatDoorVk10
set_option linter.unusedSimpArgs false
set_option linter.unusedVariables false
namespace Go.Proofs.YtajkbcmleihaoaaGreatDoor.Av
open Go
variable {v:List Atr}{nb bn:Int->Nat}{ck ci jp i n:Nat}{rs:List TKy}{b:Blk}{room last':Int}{ws:List aw}{f:Int->Int}{d:List Rdn}{u:Upd}
set_option maxHeartbeats 2000000
set_option maxRecDepth 100000
def avW(v:List Atr):Prop:=jm ⟨1,[],[],v⟩
theorem avW.ok(h:avW v):Yo v:=⟨h.1,λa b=>(h.2 a b).2.1⟩
theorem VU{Q:List Atr->Prop}{suf:List Rdn}{l:List aw}{last k:Int}{dn tn:List Rdn}(c:∀x∈l,Q x.av)(f:Q v):∀x∈(doT suf l last k dn tn v).1,Q x.av:=by
 have b:∀(l:List aw) (i:Int),(∀x∈l,Q x.av)->∀x∈sP l i v,Q x.av:=λl i h x a=>by obtain⟨y,e,rfl⟩:=ae1.1 a;split;exact f;exact h y e
 have d:∀x∈mu l dn tn,Q x.av:=λx a=>by obtain⟨y,e,rfl⟩:=ae1.1 a;split;exact c y e;exact c y e
 unfold doT;split;exact c;split;intro x a;rcases ae2.1 a with a|a;exact c x a;rw[afl.1 a];exact f;split;intro x a;exact c x (afB.1 a).1;split;exact b l _ c;exact b _ _ d
theorem aR.stay{L M:List Blk}{iv mn mi:Nat}{suf:List Rdn}{last:Int}{l:List aw}(h:aR L iv mn mi nb bn ck ci rs suf last l)(e:∀i,OfT iv mn mi nb l i->M[i]?=L[i]?):aR M iv mn mi nb bn ck ci rs suf last l :=
 ⟨by rw[e iv (.inl rfl)];exact h.v,by rw[e mn (.inr (.inl rfl))];exact h.n,by rw[e mi (.inr (.inr (.inl rfl)))];exact h.i,λx a=>by rw[e _ (.inr (.inr (.inr ⟨x,a,rfl⟩)))];exact h.nd x a,h.keys,h.mem,h.bnd,h.blt⟩
structure Adr where
 sp:Nat
 it:Nat
 iv:Nat
 mn:Nat
 mi:Nat
 jp:Nat
 dp:Nat
 lp:Nat
 wp:Nat
structure kJ(L:List Blk)(A:Adr)(lim:Int)(suf:List Rdn)(last:Int)(l:List aw)(S:List Sec)(j:Jst)(recs:List (List UInt8)):Prop where
 c:∃nb bn ck ci rs,aR L A.iv A.mn A.mi nb bn ck ci rs suf last l
 s:L[A.sp]?=some (.cells [.ptr A.iv 0,.ptr A.it 0,.ptr A.jp 0,.bool false])
 t:L[A.it]?=some (.cells [.ptr A.iv 0])
 m:Ej L A.jp A.dp A.lp A.wp lim S j recs
 n:A.mn≠A.mi/\A.wp≠A.mn/\A.wp≠A.mi
 tok:TOk suf last l
 l0:0<=last/\last<=900000
 ln:l.length<=900000
 av:∀x∈l,avW x.av
def NoJ(b:Blk):Prop:=∃c,b=.cells c/\c.length≠8/\∀s t,c≠.str s::t
theorem Ej.off{L:List Blk}{dp lp wp:Nat}{lim:Int}{S:List Sec}{j:Jst}{recs:List (List UInt8)}(h:Ej L jp dp lp wp lim S j recs)(a:L[i]?=some b)(g:NoJ b):¬OfJ jp lp wp i/\i≠dp:=by
 obtain⟨c,rfl,f,m⟩:=g;obtain⟨cp,x,y,z,hd⟩:=h.k.d;obtain⟨ck,o⟩:=h.k.w;have n:=h.k.l;refine⟨?_,λe=>?_⟩;rintro(e|e|e);rw[e,h.jb]at a;simp only[aeZ,Blk.cells.injEq]at a;exact f (by rw[<- a];rfl);rw[e,n]at a;have h4:=h.k.n4
 match S,h4 with
 | s::t,_ =>
   simp only[aeZ,Blk.cells.injEq,afe]at a;exact m s _ a.symm
 rw[e,o]at a;simp at a;rw[e,hd]at a;simp only[aeZ,Blk.cells.injEq]at a;exact f (by rw[<- a];rfl)
theorem aR.offJ{L:List Blk}{iv mn mi:Nat}{suf:List Rdn}{last:Int}{l:List aw}(b:aR L iv mn mi nb bn ck ci rs suf last l){dp lp wp:Nat}{lim:Int}{S:List Sec}{j:Jst}{recs:List (List UInt8)}(h:Ej L jp dp lp wp lim S j recs)(p:wp≠mn)(o:wp≠mi)(g:OfT iv mn mi nb l i):¬OfJ jp lp wp i/\i≠dp:=by
 have map:∀{i:Nat}{m:List (AV×AV×Nat)}{c:Nat},L[i]?=some (.map m c)->wp≠i->¬OfJ jp lp wp i/\i≠dp:=λ{i m c} a f=>by obtain⟨cp,x,y,z,hd⟩:=h.k.d;refine⟨?_,λe=>by rw[e,hd]at a;simp at a⟩;rintro(e|e|e);rw[e,h.jb]at a;simp at a;rw[e,h.k.l]at a;simp at a;exact f e.symm
 rcases g with e|e|e|⟨x,r,e⟩;exact h.off (by rw[e];exact b.v) ⟨_,rfl,(by intro q;cases q),λs t q=>by cases q⟩;rw[e];exact map b.n p;rw[e];exact map b.i o;exact h.off (by rw[e];exact b.nd x r) ⟨_,rfl,(by intro q;cases q),λs t q=>by unfold lz at q;cases q⟩
def NoS(b:Blk):Prop:=∃k v t,b=.cells (.int k v::t)/\t.length≠7
theorem NoS.noJ(h:NoS b):NoJ b:=by obtain⟨k,v,t,rfl,h⟩:=h;exact⟨_,rfl,by simp;omega,λs t q=>by cases q⟩
section
variable {L:List Blk}{A:Adr}{lim:Int}{suf:List Rdn}{last:Int}{l:List aw}{S:List Sec}{j:Jst}{recs:List (List UInt8)}
theorem kJ.noT(h:kJ L A lim suf last l S j recs){nb bn:Int->Nat}{ck ci:Nat}{rs:List TKy}(b:aR L A.iv A.mn A.mi nb bn ck ci rs suf last l){i:Nat}{c:List AV}(a:L[i]?=some (.cells c))(hd:∀d t,c≠dnA d::t):¬OfT A.iv A.mn A.mi nb l i:=by rintro(e|e|e|⟨x,f,e⟩);rw[e,b.v]at a;simp only[aeZ,Blk.cells.injEq]at a;exact hd _ _ a.symm;rw[e,b.n]at a;simp at a;rw[e,b.i]at a;simp at a;rw[e,b.nd x f]at a;simp only[aeZ,Blk.cells.injEq]at a;exact hd x.nm _ (by rw[<- a];rfl)
theorem kJ.app(h:kJ L A lim suf last l S j recs)(X:List Blk):kJ (L++X) A lim suf last l S j recs:=by
 obtain⟨nb,bn,ck,ci,rs,f⟩:=h.c;have key:∀{i:Nat}{b:Blk},L[i]?=some b->(L++X)[i]?=L[i]?:=λ{i b} e=>ae3 (aeY.1 e).1
 obtain⟨cp,x,y,z,hd⟩:=h.m.k.d;obtain⟨a,g⟩:=h.m.k.w;refine⟨⟨nb,bn,ck,ci,rs,f.app X⟩,by rw[key h.s];exact h.s,by rw[key h.t];exact h.t,h.m.keep λi q=>?_,h.n,h.tok,h.l0,h.ln,h.av⟩;rcases q with q|q|q|q;rw[q];exact key hd;rw[q];exact key h.m.jb;rw[q];exact key h.m.k.l;rw[q];exact key g
theorem kJ.jrn(h:kJ L A lim suf last l S j recs){M:List Blk}{o:List Sec}{k:Jst}{d:List (List UInt8)}(p:Ej M A.jp A.dp A.lp A.wp lim o k d)(g:∀i,¬OfJ A.jp A.lp A.wp i->i<L.length->M[i]?=L[i]?):kJ M A lim suf last l o k d:=by
 obtain⟨nb,bn,ck,ci,rs,f⟩:=h.c;have a:∀{i:Nat}{b:Blk},L[i]?=some b->i<L.length:=λ{i b} e=>(aeY.1 e).1
 refine⟨⟨nb,bn,ck,ci,rs,f.stay λi q=>g i (f.offJ h.m h.n.2.1 h.n.2.2 q).1 ?_⟩,?_,?_,p,h.n,h.tok,h.l0,h.ln,h.av⟩;rcases q with e|e|e|⟨x,r,e⟩;rw[e];exact a f.v;rw[e];exact a f.n;rw[e];exact a f.i;rw[e];exact a (f.nd x r);rw[g _ (h.m.off h.s ⟨_,rfl,(by intro q;cases q),λs t q=>by cases q⟩).1 (a h.s)];exact h.s;rw[g _ (h.m.off h.t ⟨_,rfl,(by intro q;cases q),λs t q=>by cases q⟩).1 (a h.t)];exact h.t
theorem kJ.tre(h:kJ L A lim suf last l S j recs){nb bn:Int->Nat}{ck ci:Nat}{rs:List TKy}(u:aR L A.iv A.mn A.mi nb bn ck ci rs suf last l){M:List Blk}{last':Int}{g:List aw}{f o:Int->Nat}{b a:Nat}{c:List TKy}(p:aR M A.iv A.mn A.mi f o b a c suf last' g)(r:M[A.it]?=some (.cells [.ptr A.iv 0]))(v:aL (OfT A.iv A.mn A.mi nb l) L M)(E:TOk suf last' g)(F:0<=last'/\last'<=900000)(G:g.length<=900000)(I:∀x∈g,avW x.av):kJ M A lim suf last' g S j recs:=by
 obtain⟨cp,x,y,z,hd⟩:=h.m.k.d;obtain⟨D,C⟩:=h.m.k.w;refine⟨⟨f,o,b,a,c,p⟩,?_,r,h.m.keep λi q=>?_,h.n,E,F,G,I⟩;exact v.get h.s (h.noT u h.s λd t q=>by cases q);have K:¬OfT A.iv A.mn A.mi nb l i:=λe=>by obtain⟨J,H⟩:=u.offJ h.m h.n.2.1 h.n.2.2 e;rcases q with q|q;exact H q;exact J q
 have B:i<L.length:=by rcases q with q|q|q|q;rw[q];exact(aeY.1 hd).1;rw[q];exact(aeY.1 h.m.jb).1;rw[q];exact(aeY.1 h.m.k.l).1;rw[q];exact(aeY.1 C).1
 exact v.eq i B K
end
set_option maxHeartbeats 8000000
set_option maxRecDepth 100000
inductive Mv (n:Nat) (rm:Int) (suf:List Rdn) (last:Int) (l:List aw) (u:Upd) (j:Jst) (recs:List (List UInt8)):Int->List aw->List (List UInt8)->Int->Prop
 |no (ha:bI suf l u.kind u.dn u.tw≠0):Mv n rm suf last l u j recs last l recs (bI suf l u.kind u.dn u.tw)
 |full (ha:bI suf l u.kind u.dn u.tw=0) (r:List (List UInt8)) (hr:r=recs\/r=s7 (cJ suf l)) (why:(wrU u).2≠0\/262144<(wrU u).1.length\/qI n rm j<cj (wrU u).1.length):Mv n rm suf last l u j recs last l r 80
 |ok (ha:bI suf l u.kind u.dn u.tw=0) (r:List (List UInt8)) (hr:r=recs\/r=s7 (cJ suf l)) (h1:(wrU u).2=0) (h2:(wrU u).1.length<=262144) (j0:Jst) (h3:(cj (wrU u).1.length:Int)<=qI n rm j0):Mv n rm suf last l u j recs (doT suf l last u.kind u.dn u.tw u.attrs).2 (doT suf l last u.kind u.dn u.tw u.attrs).1 (r++[(wrU u).1]) 0
theorem UF{S:List Sec}{j:Jst}{b:List UInt8}(h:(iK az S room j b).1=0):(cj b.length:Int)<=qI S.length room j:=by unfold iK at h;split at h;cases h;split at h;cases h;rename_i a;omega
theorem UG{S:List Sec}{j:Jst}{b:List UInt8}(c:b.length<=262144)(h:(iK az S room j b).1≠0):(iK az S room j b).1=11/\qI S.length room j<cj b.length:=by unfold iK at h⊢;rw[if_neg ah3]at h⊢;split;rename_i a;exact⟨rfl,a⟩;rename_i a;rw[if_neg a]at h;exact absurd rfl h
section
variable {L:List Blk}{A:Adr}{lim:Int}{suf:List Rdn}{last:Int}{l:List aw}{S:List Sec}{j:Jst}{recs:List (List UInt8)}
theorem Qs(w:List aw):(s7 w).length=w.length:=by simp[s7]
theorem YT(h:kJ L A lim suf last l S j recs)(y:last<=800000)(G:l.length<=800000){u:Upd}(p:dnB u.dn)(o:dnB u.tw)(f:jm u){K:aeX}(C:∀(M:List Blk),kJ M A lim suf (doT suf l last u.kind u.dn u.tw u.attrs).2 (doT suf l last u.kind u.dn u.tw u.attrs).1 S j recs->(∀(i:Nat) (b:Blk),L[i]?=some b->NoS b->M[i]?=some b)->L.length<=M.length->K (.int .i64 (bI suf l u.kind u.dn u.tw)) M):
  aeW 31 [.ptr A.it 0,.agg (cP u)] L K:=by
 obtain⟨nb,bn,ck,ci,rs,m⟩:=h.c;obtain⟨E,O,I,J⟩:=h.tok.done h.l0.1 u.kind u.dn u.tw u.attrs;have w:=VU (Q:=avW) (suf:=suf) (last:=last) (k:=u.kind) (dn:=u.dn) (tn:=u.tw) (v:=u.attrs) h.av f;have N:=h.l0;have:=ad8 (K:=K) h.tok h.n.1 ah3 h.l0.1 ah3 h.t m (k:=u.kind) p o (v:=u.attrs) f.1 (λa q=>(f.2 a q).2.1) λM s H B x F z r g =>
  C M (h.tre m z r g E ah3 ah3 w) (λi b e D=>g.get e (by obtain⟨k,v,t,rfl,_⟩:=D;exact h.noT m e λd t q=>by cases q)) g.len
 exact this
theorem To(h:kJ L A lim suf last l S j recs){K:aeX}(b:K (.sl ((s7 (cJ suf l)).map AV.str) (s7 (cJ suf l)).length none) L):aeW 30 [.ptr A.iv 0] L K:=by obtain⟨nb,bn,ck,ci,rs,d⟩:=h.c;have e:=h.ln;exact adC h.tok ah3 (λx a=>(h.av x a).ok) (λx a=>h.av x a) d (by rw[Qs]at b;exact b)
theorem acM(h:kJ L A lim suf last l S j recs)(a0:last<=800000)(a3:l.length<=800000){u:Upd}(J:dnB u.dn)(G:dnB u.tw)(T:jm u){K:aeX}(v:∀(M:List Blk) last' l' S' j' recs' code,kJ M A lim suf last' l' S' j' recs'->Mv S.length (cC S.length lim) suf last l u j recs last' l' recs' code->S'.length=S.length->j'.gen<=j.gen+1->last'<=last+1->l'.length<=l.length+1->(∀(i:Nat) (b:Blk),L[i]?=some b->NoS b->M[i]?=some b)->L.length<=M.length->K (.tup [.int .i64 code,.int .i64 0]) M):
  aeW 11 [.ptr A.sp 0,.agg (cP u)] L K:=by
 have g:kJ (L++[.cells (cP u)]) A lim suf last l S j recs:=h.app _;have ad:L.length<=(L++[Blk.cells (cP u)]).length:=ah4;have p:∀(i:Nat) (b:Blk),L[i]?=some b->(L++[Blk.cells (cP u)])[i]?=some b:=λi b e=>aeT e
 obtain⟨nb,bn,ck,ci,rs,hc⟩:=g.c;obtain⟨ab,a⟩:=aeS (bI suf l u.kind u.dn u.tw);have kk1:Hid (∀{K:aeX},K (.int .i64 ab) (L++[.cells (cP u)])->aeW 13 [.ptr A.iv 0,.agg (cP u)] (L++[.cells (cP u)]) K):=@hid _ (λ{K} q=>G0 h.tok ah3 hc J G (by rw[a];exact q));obtain⟨⟨body,we⟩,k⟩:∃q,wrU u=q:=⟨_,rfl⟩;have kk2:Hid (Ctr Tryz.prog 14 [.agg (cP u)] (.tup [.str body,.int .i64 we])):=@hid _ (λ{L K} q=>Sb J G T (by rw[k];exact q));have a1:(L++[Blk.cells (cP u)])[A.sp]?=some (.cells [.ptr A.iv 0,.ptr A.it 0,.ptr A.jp 0,.bool false]):=g.s;have av:(L++[Blk.cells (cP u)])[A.it]?=some (.cells [.ptr A.iv 0]):=g.t;have V:NoS (.cells (cP u)):=⟨_,_,_,rfl,ah4⟩;by_cases ha:ab=0;rotate_left;have h2:Hid (K (.tup [.int .i64 ab,.int .i64 0]) (L++[.cells (cP u)])):=hid (v _ last l S j recs ab g (by rw[<- a];exact .no (by rw[a];exact ha)) rfl (agU _) ah3 (agU _) (λi b e _=>p i b e) ad);have g1:decide (ab=0)=false:=decide_eq_false ha;clear h v hc g a ha k;refine aeV jq ?_;exact ag h2.o;subst ha;obtain⟨q,D⟩:=aeS ((!decide (we=0) ||decide (262144<(body.length:Int))));cases q with
 | true =>
   have h2:Hid (K (.tup [.int .i64 80,.int .i64 0]) (L++[.cells (cP u)])):=hid (v _ last l S j recs 80 g (.full a recs (.inl rfl) (by
    rw[k];simp only[afM,afA,decide_eq_false_iff_not,decide_eq_true_eq]at D;rcases D with D|D
    .exact .inl D
    .exact .inr (.inl (by show 262144<body.length;omega)))) rfl (agU _) ah3 (agU _) (λi b e _=>p i b e) ad)
   obtain⟨x1,a9⟩:=aeS (decide (we=0));obtain⟨x2,a6⟩:=aeS (decide (262144<(body.length:Int)));rw[a9,a6]at D;clear h v hc g a k;refine aeV jq ?_;exact ag h2.o
 | false =>
   have a':we=0/\body.length<=262144:=by simp only[ag3,Bool.not_eq_false',decide_eq_false_iff_not,decide_eq_true_eq]at D;exact⟨D.1,ah3⟩
   obtain⟨rfl,ap⟩:=a';have g2:¬(262144:Int)<(body.length:Int):=ah3;clear D;have I:=hid ap;replace v:=hid v;replace k:=hid k;replace a:=hid a;clear hc;have U:=hid g;replace h:=hid h;clear g ap;refine aeV jq ?_;have g:=U.o;refine Qa g.m (λM S1 j1 r1 Y q2 q3 Z q5 B q7=>?_);have Q:=g.jrn Y B;have ai:L.length<=M.length:=afw ad q7;have E:Hid (∀(i:Nat) (b:Blk),L[i]?=some b->NoS b->M[i]?=some b):=hid (λi b e f=>by rw[B i (g.m.off (p i b e) f.noJ).1 (aeY.1 (p i b e)).1];exact p i b e);have F:M[L.length]?=some (.cells (cP u)):=by have e:(L++[Blk.cells (cP u)])[L.length]?=some (.cells (cP u)):=ah4;rw[B _ (g.m.off e V.noJ).1 ah4];exact e
   have a2:=Q.s;have al:=Q.t;by_cases e1:(iK az S (cC S.length lim) j body).1=0
   .have hr:=UF e1;rw[e1];have C:=hid (λ(z:List Blk) (H:kJ z A lim suf (doT suf l last u.kind u.dn u.tw u.attrs).2 (doT suf l last u.kind u.dn u.tw u.attrs).1 S1 j1 r1) (N:∀(i:Nat) (b:Blk),M[i]?=some b->NoS b->z[i]?=some b) (t3:M.length<=z.length)=>v.o z _ _ S1 j1 r1 0 H (by rw[Z e1];have:=Mv.ok (n:=S.length) (rm:=cC S.length lim) (last:=last) (j:=j) (recs:=recs) a.o recs (.inl rfl) (by rw[k.o]) (by rw[k.o];exact I.o) j (by rw[k.o];exact hr);rw[k.o]at this;exact this) q2 ah3 (h.o.tok.done h.o.l0.1 _ _ _ _).2.2.1 (h.o.tok.done h.o.l0.1 _ _ _ _).2.2.2 (λi b e f=>N i b (E.o i b e f) f) (afw ai t3))
    replace Q:=hid Q;clear v U kk1 kk2 Y Z q5 B hr a1 av p e1 g;refine wk ?_;refine YT Q.o a0 a3 J G T (λz H N t3=>?_);rw[a.o];have O:=hid (C.o z H N t3);clear C H N t3;refine wk ?_;exact ag O.o
   .obtain⟨f1,f2⟩:=UG I.o e1;rw[f1];obtain⟨z1,z2,z3,_⟩:=q5 e1;subst z1 z2 z3;obtain⟨ds,y⟩:=aeS (s7 (cJ suf l));have a8:ds.length<=1000000:=by rw[<- y,Qs];have:=GT suf l;omega
    have x:=hid Q;obtain⟨DA,a4⟩:=aeS (ds.map AV.str);have kk3:Hid (∀{K:aeX},K (.sl DA ds.length none) M->aeW 30 [.ptr A.iv 0] M K):=@hid _ (λ{K} q=>To Q (by rw[y,a4];exact q));replace f2:=hid f2;replace y:=hid y;clear U kk1 kk2 Y Z q5 B a1 av p e1 g Q;refine wk ?_;rw[<- a4];refine RT x.o.m a8 (λz S2 j2 r2 p1 p2 p3 p4 p5 p6 p7=>?_);have d:=x.o.jrn p1 p6;have w:Hid (∀(i:Nat) (b:Blk),L[i]?=some b->NoS b->z[i]?=some b):=hid (λi b e f=>by rw[p6 i (x.o.m.off (E.o i b e f) f.noJ).1 (aeY.1 (E.o i b e f)).1];exact E.o i b e f);have R:z[L.length]?=some (.cells (cP u)):=by rw[p6 _ (x.o.m.off F V.noJ).1 (aeY.1 F).1];exact F
    have an:=d.s;have a5:=d.t;have a7:L.length<=z.length:=afw ai p7;obtain⟨e2,W⟩:=aeS ((aV az S1 (cC S1.length lim) j1 ds).1);rw[W]at p4 p5⊢;by_cases e0:e2=0
    .subst e0;have a_:=p4 rfl;subst a_;replace d:=hid d;clear p1 p4 p5 p6 kk3 x a2 al F W;refine wk ?_;refine Qa d.o.m (λM3 S3 j3 r3 Y q2 q3 Z q5 B q7=>?_);have r:=d.o.jrn Y B;have P:Hid (∀(i:Nat) (b:Blk),L[i]?=some b->NoS b->M3[i]?=some b):=hid (λi b e f=>by rw[B i (d.o.m.off (w.o i b e f) f.noJ).1 (aeY.1 (w.o i b e f)).1];exact w.o i b e f);have bk:M3[L.length]?=some (.cells (cP u)):=by rw[B _ (d.o.m.off R V.noJ).1 (aeY.1 R).1];exact R
     have bb:=r.s;have bd:=r.t;by_cases X:(iK az S2 (cC S2.length lim) j2 body).1=0
     .have hr:=UF X;rw[p2]at hr;rw[X];have C:=hid (λ(M4:List Blk) (H:kJ M4 A lim suf (doT suf l last u.kind u.dn u.tw u.attrs).2 (doT suf l last u.kind u.dn u.tw u.attrs).1 S3 j3 r3) (N:∀(i:Nat) (b:Blk),M3[i]?=some b->NoS b->M4[i]?=some b) (t3:M3.length<=M4.length)=>v.o M4 _ _ S3 j3 r3 0 H (by rw[Z X];have:=Mv.ok (n:=S1.length) (rm:=cC S1.length lim) (last:=last) (j:=j1) (recs:=r1) a.o r2 (.inr y.o.symm) (by rw[k.o]) (by rw[k.o];exact I.o) j2 (by rw[k.o];exact hr);rw[k.o]at this;exact this) ah3 ah3 (h.o.tok.done h.o.l0.1 _ _ _ _).2.2.1 (h.o.tok.done h.o.l0.1 _ _ _ _).2.2.2 (λi b e f=>N i b (P.o i b e f) f) ah3)
      replace r:=hid r;clear v Y Z q5 B hr an a5 X d;refine wk ?_;refine YT r.o a0 a3 J G T (λM4 H N t3=>?_);rw[a.o];have O:=hid (C.o M4 H N t3);clear C H N t3;refine wk ?_;exact ag O.o
     .obtain⟨f3,f4⟩:=UG I.o X;rw[f3];obtain⟨z1,z2,z3,_⟩:=q5 X;have O:Hid (K (.tup [.int .i64 80,.int .i64 0]) M3):=hid (v.o M3 last l S3 j3 r3 80 r (.full a.o r3 (.inr (by rw[z1];exact y.o.symm)) (.inr (.inr (by rw[k.o];exact f2.o)))) ah3 ah3 ah3 (agU _) P.o ah3);clear v Y Z q5 B an a5 X d r f4;refine wk ?_;exact ag O.o
    .obtain⟨z1,z2,z3⟩:=p5 e0;have O:Hid (K (.tup [.int .i64 80,.int .i64 0]) z):=hid (v.o z last l S2 j2 r2 80 d (.full a.o r2 (.inl z1) (.inr (.inr (by rw[k.o];exact f2.o)))) p2 p3 ah3 (agU _) w.o a7);clear v p1 p4 p5 p6 d x a2 al W;rcases z3 with rfl|rfl
     .refine wk ?_;exact ag O.o
     .refine wk ?_;exact ag O.o
end
set_option maxHeartbeats 8000000
set_option maxRecDepth 100000
abbrev TrS:=List aw×Int
def jv(suf:List Rdn)(s:TrS)(u:Upd):TrS:=doT suf s.1 s.2 u.kind u.dn u.tw u.attrs
def aW(suf:List Rdn)(s:TrS)(bs:List (List UInt8)):TrS:=bs.foldl (λs b=>jv suf s (rdU b).1) s
def Jl(suf:List Rdn):TrS->List (List UInt8)->Prop
 |_,[]=>True
 |s,b::r=>∃u,rdU b=(u,0)/\dnB u.dn/\dnB u.tw/\jm u/\b.length<=1100000/\bI suf s.1 u.kind u.dn u.tw=0/\Jl suf (jv suf s u) r
def Apt(mn mi i:Nat)(b:Blk):Prop:=(∃c,b=.cells c/\∀d t,c≠dnA d::t)\/(i≠mn/\i≠mi/\∃m k,b=.map m k)
theorem aR.apt{L:List Blk}{iv mn mi:Nat}{suf:List Rdn}{last:Int}{l:List aw}(f:aR L iv mn mi nb bn ck ci rs suf last l)(a:L[i]?=some b)(d:Apt mn mi i b):¬OfT iv mn mi nb l i:=by rintro(e|e|e|⟨x,g,e⟩);rw[e,f.v,aeZ]at a;rcases d with⟨c,rfl,h⟩|⟨_,_,m,k,rfl⟩;exact h _ _ (Blk.cells.inj a).symm;cases a;rcases d with⟨c,rfl,h⟩|⟨h,_⟩;rw[e,f.n,aeZ]at a;cases a;exact h e;rcases d with⟨c,rfl,h⟩|⟨_,h,_⟩;rw[e,f.i,aeZ]at a;cases a;exact h e;rw[e,f.nd x g,aeZ]at a;rcases d with⟨c,rfl,h⟩|⟨_,_,m,k,rfl⟩;exact h x.nm _ (Blk.cells.inj a).symm;cases a
section
variable {L:List Blk}{it iv mn mi B:Nat}{suf:List Rdn}
structure aaF(L:List Blk)(it iv mn mi B:Nat)(suf:List Rdn)(fin:TrS)(L':List Blk)(s:TrS)(bs:List (List UInt8)):Prop where
 c:∃nb bn ck ci rs,aR L' iv mn mi nb bn ck ci rs suf s.2 s.1/\∀x∈s.1,B<=nb x.id
 ib:B<=iv/\B<=mn/\B<=mi/\B<=L.length
 keepB:∀i,i<B->L'[i]?=L[i]?
 t:L'[it]?=some (.cells [.ptr iv 0])
 ok:Jl suf s bs
 fn:aW suf s bs=fin
 tok:TOk suf s.2 s.1
 l0:0<=s.2/\s.2+bs.length<=800000
 ln:s.1.length+bs.length<=800000
 av:∀x∈s.1,avW x.av
 keep:∀(i:Nat) (b:Blk),L[i]?=some b->Apt mn mi i b->L'[i]?=some b
 len:L.length<=L'.length
theorem Xr{bs:List (List UInt8)}{s:TrS}{cap:Option Nat}(ap:mn≠mi)(U:aaF L it iv mn mi B suf (aW suf s bs) L s bs){K:aeX}(h:∀L',aaF L it iv mn mi B suf (aW suf s bs) L' (aW suf s bs) []->K (.tup [.int .i64 bs.length,.int .i64 0]) L'):
  aeW 23 [.ptr it 0,.sl (bs.map AV.str) bs.length cap] L K:=by
 obtain⟨J,D⟩:=aeS (aW suf s bs);rw[D]at U h;have al:bs.length<=800000:=by have:=U.ln;omega
 obtain⟨Q,A⟩:=aeS (bs.map AV.str);obtain⟨n,R⟩:=aeS (bs.length);have a0:Q.length=n:=by rw[<- A,<- R];simp
 have F:Hid (∀i,i<n->Q.getD i .undef=.str (bs.getD i [])):=hid (λi h2=>by rw[<- A,afh,afh];simp[R,h2])
 rw[A,R];rw[R]at al h;replace h:=hid h;have G:=hid U;clear U A D;refine aeV JP ?_;refine ao (λm T' L'=>∃(k:Nat) (s:TrS),m=n-k/\k<=n/\Hid (aaF L it iv mn mi B suf J L' s (bs.drop k))/\T'=[(14,.int .i64 (k:Int)),(13,.int .i64 (n:Int)),(12,.sl Q n cap),(1,.sl Q n cap),(0,.ptr it 0)]) (CutS (b:=ae0 _)) ⟨0,s,rfl,ae5 _,G,rfl⟩ ?_;rintro m _ L' ⟨k,I,hm,hk,T,rfl⟩;subst m;by_cases l:k<n;have g1:(k:Int)<(n:Int):=ah3;have g2:IntKind.i64.wrap ((k:Int)+1)=((k+1:Nat):Int):=by rw[ae ah3 ah3];omega
 have a1:k<Q.length:=ah3;have e1:=F.o k l;obtain⟨b,M⟩:=aeS (bs.getD k []);rw[M]at e1;have P:bs.drop k=b::bs.drop (k+1):=by rw[afL ah3,<- M];simp[R,l]
 have d:=T.o;rw[P]at d;obtain⟨u,u1,u2,u3,V,u5,Z,u7⟩:=d.ok;have kk1:Hid (Ctr Tryz.prog 58 [.str b] (.tup [.agg (cP u),.int .i64 0])):=@hid _ (by intro L K q;exact adj u5 (by rw[u1];exact q));obtain⟨nb,bn,ck,ci,rs,O,E⟩:=d.c;have ai:=d.l0;have an:=d.ln;simp only[afg]at ai an;have z:(L'++[Blk.cells (cP u)])[it]?=some (.cells [.ptr iv 0]):=aeT d.t;have w:=O.app [Blk.cells (cP u)];have f:∀L2 g C j p r,aR L2 iv mn mi g C j p r suf (jv suf I u).2 (jv suf I u).1->L2[it]?=some (.cells [.ptr iv 0])->aL (OfT iv mn mi nb I.1) (L'++[Blk.cells (cP u)]) L2->(∀x∈(jv suf I u).1,(∃y∈I.1,y.id=x.id/\g x.id=nb x.id)\/(L'++[Blk.cells (cP u)]).length<=g x.id)->aaF L it iv mn mi B suf J L2 (jv suf I u) (bs.drop (k+1)):=λL2 g C j p r X W N Y=>by
  obtain⟨d1,d2,d3,d4⟩:=d.tok.done d.l0.1 u.kind u.dn u.tw u.attrs;have H:=d.fn;unfold aW at H;rw[afO,u1]at H;obtain⟨a4,a2,a3,a5⟩:=d.ib;have ab:=d.len;refine⟨⟨_,_,_,_,_,X,λx hx=>?_⟩,d.ib,λi hi=>?_,W,u7,by unfold aW;exact H,d1,⟨by have:=d.l0.1;unfold jv;omega,by unfold jv;omega⟩,by unfold jv;omega,VU d.av V,λi b hi M=>?_,?_⟩;rcases Y x hx with⟨y,hy,e1,e2⟩|e;rw[e2,<- e1];exact E y hy;rw[afc]at e;omega;rw[N.eq i (by simp;omega) (by rintro(e|e|e|⟨x,hx,e⟩);omega;omega;omega;have:=E x hx;omega),ae3 ah3]
  exact d.keepB i hi;have e:=d.keep i b hi M;refine N.get (aeT e) (O.apt e M);have:=N.len;have:=d.len;simp at *;omega
 replace f:=hid f;replace d:=hid d;replace O:=hid O;replace w:=hid w;replace z:=hid z;replace Z:=hid Z;have ab:=hid d.o.len;clear T P u1 u7 h M G F;refine wk ?_;refine YI d.o.tok ap ah3 d.o.l0.1 ah3 z.o w.o (k:=u.kind) u2 u3 (v:=u.attrs) V.1 (λa q=>(V.2 a q).2.1) λL2 g C j p r X W N Y=>?_
 rw[Z.o];have S:=hid (f.o L2 g C j p r X W N Y);clear X W N Y f d O w z Z u2 u3 V;refine wk ?_;exact ah8 ah3 (CutL (b:=by have:=S.o.len;omega)) ⟨k+1,_,rfl,l,S,rfl⟩;have ad:k=n:=ah3;subst ad;have g1:¬(k:Int)<(k:Int):=ah3;have d:=T.o;rw[agu ah3]at d;have e:I=J:=d.fn;subst e;have h2:=hid (h.o L' d);clear T d h G F l hk;refine wk ?_;exact ag h2.o
end
set_option maxHeartbeats 8000000
set_option maxRecDepth 100000
section
variable {L:List Blk}{dp lp wp:Nat}{lim:Int}{S:List Sec}{suf:List Rdn}
theorem J2.apt{L:List Blk}{dp lp wp mn mi:Nat}{lim:Int}{S:List Sec}(h:J2 L dp lp wp lim S)(c:wp≠mn)(a:wp≠mi):∀i b,(i=dp\/i=lp\/i=wp)->L[i]?=some b->Apt mn mi i b:=λi b q e=>by
 obtain⟨cp,x,y,z,hd⟩:=h.d;obtain⟨ck,f⟩:=h.w;rcases q with rfl|rfl|rfl;rw[hd,aeZ]at e;subst e;exact .inl ⟨_,rfl,λd t q=>by cases q⟩;rw[h.l,aeZ]at e;subst e;refine .inl ⟨_,rfl,λd t q=>?_⟩;have h4:=h.n4
 match S,h4 with
 |s::r,_=>cases q
 rw[f,aeZ]at e;subst e;exact .inr ⟨c,a,_,_,rfl⟩
theorem Wn(h:J2 L dp lp wp lim S)(hd:dnB suf)(hk:OkD suf)(ai:suf≠[]){cap:Option Nat}(I:(aV az S (cC S.length lim) (bD az S).1 (bD az S).2).1=0)(m:Jl suf ([],0) (bD az S).2){K:aeX}(U:∀(M:List Blk) A R P,A.dp=dp->A.lp=lp->A.wp=wp->kJ M A lim suf (aW suf ([],0) (bD az S).2).2 (aW suf ([],0) (bD az S).2).1 R P (bD az S).2->R.length=S.length->P.gen=(bD az S).1.gen+1->(∀(i:Nat) (b:Blk),L[i]?=some b->NoS b->M[i]?=some b)->L.length<=M.length->(∀i,i<L.length->i≠lp->i≠wp->M[i]?=L[i]?)->K (.tup [.ptr A.sp 0,.int .i64 0]) M):
  aeW 7 [.ptr dp 0,.sl (suf.map aH) suf.length cap] L K:=by
 obtain⟨recs,j⟩:=aeS ((bD az S).2);have a4:recs.length<=8192:=by rw[<- j];unfold bD;dsimp only;split;have:=ME (rdC az) (v8 az S).2.1 (aQ S.length) ((S.drop (aM S.length (v8 az S).2.2.1)).take (aQ S.length)) [];have h8:=h.n8;have:aQ S.length=(S.length-2)/2:=rfl;simp only[afF]at *;omega;simp
 obtain⟨L1,C⟩:=aeS (L++[.map [] 0,.map [] 0,.cells [dnA suf,.lmap L.length,.lmap (L.length+1),.int .i64 0],.cells [.ptr (L.length+2) 0]]);have f:∀(i:Nat) (b:Blk),L[i]?=some b->L1[i]?=some b:=λi b e=>by rw[<- C,ae3 (aeY.1 e).1];exact e
 obtain⟨cp,x,y,z,n⟩:=h.d;obtain⟨ck,D⟩:=h.w;have J:=h.l;have a:∀i,i=dp\/i=lp\/i=wp->L1[i]?=L[i]?/\i<L.length:=λi q=>by rcases q with rfl|rfl|rfl;exact⟨by rw[f _ _ n,n],(aeY.1 n).1⟩;exact⟨by rw[f _ _ J,J],(aeY.1 J).1⟩;exact⟨by rw[f _ _ D,D],(aeY.1 D).1⟩
 have O:J2 L1 dp lp wp lim S:=h.keep λi q=>(a i q).1
 have G:aR L1 (L.length+2) L.length (L.length+1) (λ_=>0) (λ_=>0) 0 0 [] suf 0 []:=by rw[<- C];exact aR.start L suf
 have u:L1[L.length+3]?=some (.cells [.ptr (L.length+2) 0]):=by rw[<- C,aff ah3];simp
 have a8:L1.length=L.length+4:=by rw[<- C];simp
 have kk1:Hid (∀{K:aeX},K (.tup [.ptr (L.length+3) 0,.int .i64 0]) L1->aeW 21 [.sl (suf.map aH) suf.length cap] L K):=@hid _ (λ{K} q=>aba hd (λe=>absurd hk e) (λe=>absurd e ai) (λ_ _=>by rw[C];exact q));obtain⟨a1,a2,a3⟩:=O.ne;obtain⟨i1,V⟩:=Rw Qy (Xi h.n4) h.n8 I;obtain⟨i3,i4⟩:=Rx h.all h.n8 I;obtain⟨Y,Q⟩:=aeS (aV az S (cC S.length lim) (bD az S).1 (bD az S).2);rw[Q]at i1 V i3 i4;have X:Hid (∀(K2:AV->List Blk->Prop),(∀(M:List Blk) jp c,Ej M jp dp lp wp lim Y.2.2 Y.2.1 recs->(∀i,i≠lp->i≠wp->i<L1.length->M[i]?=L1[i]?)->L1.length<=M.length->L1.length<=jp->K2 (.tup [.ptr jp 0,.sl (recs.map AV.str) recs.length c,.int .i64 0]) M)->aeW 22 [.ptr dp 0] L1 K2):=hid (λK2 q=>by obtain⟨cp,x,y,z,n⟩:=O.d;obtain⟨ck,D⟩:=O.w;refine abP n O.l D a1 a2 a3 h.n8 h.n4 h.all h.lm.2 I (λM jp al c r1 r2 r3 r4 r5 r6=>?_);rw[show aV az S (if(S.length:Int)<lim then(S.length:Int)else lim) (bD az S).1 (bD az S).2=Y from Q]at r1 r2;rw[j]at i1⊢;refine q M jp c ⟨⟨⟨cp,x,y,z,?_⟩,r2,⟨al,r3⟩,by rw[V];exact h.n4,by rw[V];exact h.n8,i3,h.lm⟩,r1,i1⟩ r4 r5 r6;rw[r4 dp a1 a2 (aeY.1 n).1,V];exact n)
 rw[j]at U m;obtain⟨W,g⟩:=aeS (aW suf ([],0) recs);rw[g]at U;replace U:=hid U;replace m:=hid m;replace g:=hid g;replace G:=hid G;replace u:=hid u;replace f:=hid f;replace a:=hid a;obtain⟨AL,an⟩:=aeS (suf.map aH);rw[an]at kk1⊢;have F:=hid (a.o wp (.inr (.inr rfl))).2;clear i1 i3 Q I j C O n D J;refine aeV OW ?_;refine X.o _ (λM jp c B T m3 m4=>?_);clear X kk1;have ad:Hid (aaF M (L.length+3) (L.length+2) L.length (L.length+1) L.length suf (aW suf ([],0) recs) M ([],0) recs):=hid (by
  have hq:∀i,i=L.length\/i=L.length+1\/i=L.length+2\/i=L.length+3->M[i]?=L1[i]?:=λi q=>by have w1:=(a.o lp (.inr (.inl rfl))).2;have w2:=F.o;exact T i ah3 ah3 ah3
  refine⟨⟨_,_,_,_,_,G.o.stay λi q=>hq i ?_,ah4⟩,⟨ah3,ah3,ah3,ah3⟩,λ_ _=>rfl,?_,m.o,rfl,TOk.nil hk ai,⟨agS _,by dsimp only;omega⟩,by simp;omega,ah4,λi b e _=>e,ae0 _⟩;rcases q with q|q|q|⟨x,hx,q⟩;omega;omega;omega;cases hx;rw[hq _ (.inr (.inr (.inr rfl)))];exact u.o)
 replace B:=hid B;replace T:=hid T;refine wk ?_;refine Xr ah3 ad.o (λL' E=>?_);have a0:=E.t;have hS:Hid (∃R P,kJ (L'++[.cells [.ptr (L.length+2) 0,.ptr (L.length+3) 0,.ptr jp 0,.bool false]]) ⟨L'.length,L.length+3,L.length+2,L.length,L.length+1,jp,dp,lp,wp⟩ lim suf W.2 W.1 R P recs/\R.length=S.length/\P.gen=(bD az S).1.gen+1):=hid (by
  obtain⟨nb,bn,ck,ci,rs,hc,_⟩:=E.c;have N:=E.l0;have Z:=E.ln;rw[g.o]at hc N Z;have ab:∀{i:Nat}{b:Blk},L'[i]?=some b->(L'++[Blk.cells [.ptr (L.length+2) 0,.ptr (L.length+3) 0,.ptr jp 0,.bool false]])[i]?=some b:=λ{i b} e=>aeT e
  have p:wp≠L.length/\wp≠L.length+1:=(by have:=F.o;omega);have H:∀(i:Nat) (b:Blk),M[i]?=some b->Apt L.length (L.length+1) i b->(L'++[Blk.cells [.ptr (L.length+2) 0,.ptr (L.length+3) 0,.ptr jp 0,.bool false]])[i]?=M[i]?:=λi b e q=>by rw[ab (E.keep i b e q),e]
  refine⟨Y.2.2,Y.2.1,⟨⟨nb,bn,ck,ci,rs,hc.app _⟩,ah4,ab E.t,B.o.keep λi q=>?_,⟨by show L.length≠L.length+1;omega,p⟩,by have:=E.tok;rw[g.o]at this;exact this,⟨N.1,by have:=N.2;simp at this;omega⟩,by simp at Z;omega,by have:=E.av;rw[g.o]at this;exact this⟩,V,i4⟩;rcases q with q|q|q;obtain⟨cp,x,y,z,e⟩:=B.o.k.d;rw[q];exact H _ _ e (B.o.k.apt p.1 p.2 _ _ (.inl rfl) e);rw[q];exact H _ _ B.o.jb (.inl ⟨_,rfl,λd t q=>by cases q⟩);rcases q with q|q;rw[q];exact H _ _ B.o.k.l (B.o.k.apt p.1 p.2 _ _ (.inr (.inl rfl)) B.o.k.l);obtain⟨a6,e⟩:=B.o.k.w;rw[q];exact H _ _ e (B.o.k.apt p.1 p.2 _ _ (.inr (.inr rfl)) e))
 have hF:Hid (K (.tup [.ptr L'.length 0,.int .i64 0]) (L'++[.cells [.ptr (L.length+2) 0,.ptr (L.length+3) 0,.ptr jp 0,.bool false]])):=hid (by
  obtain⟨R,P,s1,s2,s3⟩:=hS.o;refine U.o _ ⟨L'.length,L.length+3,L.length+2,L.length,L.length+1,jp,dp,lp,wp⟩ R P rfl rfl rfl s1 s2 s3 (λi b e hb=>?_) (by have:=E.len;simp;omega) (λi hi O h2=>?_);rotate_left;have ap:=E.keepB i hi;rw[ae3 (by have:=E.len;omega),ap,T.o i O h2 ah3];have hg:L[i]?=some L[i]:=afn hi;rw[hg];exact f.o i _ hg;have e1:=f.o i b e;have a5:=(aeY.1 e).1;have a7:=hb;obtain⟨k,v,t,rfl,ht⟩:=hb;have off:=B.o.off (b:=.cells (.int k v::t)) (i:=i);have e2:M[i]?=some (.cells (.int k v::t)):=by
   rw[T.o i ?_ ?_ ah3];exact e1;rintro rfl;rw[h.l,aeZ]at e;have h4:=h.n4
   match S,h4 with
   |s::r,_=>cases Blk.cells.inj e
   rintro rfl;obtain⟨ck,hw⟩:=h.w;rw[hw]at e;cases e
  have e3:=E.keep i _ e2 (.inl ⟨_,rfl,λd t q=>by cases q⟩);rw[ae3 (aeY.1 e3).1];exact e3)
 clear hS E U g m G u f a ad B T V i4 h F;refine wk ?_;exact ag hF.o
end
variable {L:List Blk}{K:aeX}
set_option maxHeartbeats 8000000
set_option maxRecDepth 100000
def sfx:List Rdn:=[[([100,99],[122])]]
theorem adb:(prS sfx).2=0:=ah5
theorem Js:OkD sfx:=adb
theorem Jt:sfx≠[]:=by simp[sfx]
theorem Nq:dnB sfx:=⟨by simp[sfx],λr hr=>by simp[sfx]at hr;subst hr;simp⟩
theorem Wm(h:K (.sl [.sl [.str [100,99],.str [122]] 1 (some 1)] 1 (some 1)) L):aeW 8 [] L K:=by replace h:=hid h;refine aeV Mi ?_;exact ag h.o
def Jx(x:aw):aw:={x with id:=0}
theorem Qn:∀l:List aw,AV.frzL (cK l)=cK l
 |[]=>rfl
 |x::l=>by have e:cK (x::l)=.int .i64 x.id::dnA x.nm::atR x.av::cK l:=rfl;rw[e];simp only[AV.frzL,AV.frz,ce,atR,oe,Qn l]
theorem OG(q:Nat->Bool):∀l:List aw,AV.refsL q (cK l)=true
 |[]=>rfl
 |x::l=>by have a:=OG q l;unfold cK at a⊢;rw[afT];show AV.refsL q (.int .i64 x.id::dnA x.nm::atR x.av::l.flatMap SH)=true;simp only[AV.refsL,a];unfold atR;simp only[AV.refs,fb,qU];rfl
theorem Qo{L:List Blk}{sp iv mn mi:Nat}{suf:List Rdn}{last:Int}{l:List aw}{y z:AV}{J:Bool}(E:L[sp]?=some (.cells [.ptr iv 0,y,z,.bool J]))(u:aR L iv mn mi nb bn ck ci rs suf last l)(f:TOk suf last l)(T:l.length<=900000)(t:∀x∈l,Yo x.av){K:aeX}(v:K (.sl (cK ((cJ suf l).map Jx)) (cJ suf l).length none) L):
  aeW 12 [.ptr sp 0] L K:=by
 have r:=f.sok.m.b;obtain⟨s,B⟩:=aeS (aN l suf);obtain⟨ws,a⟩:=aeS (cJ suf l);have p:=W0 f;rw[B,a]at p;have O:ws.length<=l.length:=by rw[<- a];exact GT _ _
 have h:∀x∈ws,x∈l:=λx g=>Mq (by rw[a];exact g)
 rw[a]at v;have kk1:Hid (∀{K:aeX},K (dnA suf) L->aeW 33 [.ptr iv 0] L K):=@hid _ (by intro K q;exact YH r u q);have kk2:Hid (∀{K:aeX},K (.int .i64 s) L->aeW 26 [.ptr iv 0,dnA suf] L K):=@hid _ (by intro K q;exact mO r f u (by rw[B];exact q))
 obtain⟨w,d⟩:=aeS ((ws.map (·.id)).map (AV.int .i64));have kk3:Hid (∀{K:aeX},K (.sl w ws.length none) L->aeW 32 [.ptr iv 0,.int .i64 s,.int .i64 2] L K):=@hid _ (by intro K q;exact J6 f ah3 u (by rw[p,ae6,d];exact q))
 have M:w.length=ws.length:=by rw[<- d];simp
 have H:Hid (∀i,i<ws.length->w.getD i .undef=.int .i64 (ws.getD i default).id):=hid (λi R=>by rw[<- d,afh,afh];simp[R])
 have I:Hid (∀x∈ws,∀{X:List Blk}{K:aeX},K (.tup [dnA x.nm,.sl (bj x.av) x.av.length none]) (L++X)->aeW 34 [.ptr iv 0,.int .i64 x.id] (L++X) K):=hid (λx g {X K} q=>by refine Tj f t (u.app X) (λe=>?_) (λy e=>?_);rw[f.ent (h x g)]at e;cases e;rw[f.ent (h x g)]at e;cases e;exact q)
 have N:∀X:List Blk,(L++X)[sp]?=some (.cells [.ptr iv 0,y,z,.bool J]):=λX=>aeT E
 replace v:=hid v;clear u f r B a p d h t;refine aeV JQ ?_;clear kk1 kk2 kk3;refine cG (l:=[]) (n:=0) 3 3 rfl (afD 3).symm ?_;refine ao (λm T' L'=>∃(j:Nat) (C:List AV) (X:List Blk),m=ws.length-j/\j<=ws.length/\Hid (C=cK ((ws.take j).map Jx))/\T'=[(24,.int .i64 (j:Int)),(23,.int .i64 ws.length),(22,.sl w ws.length none),(3,.gsl C j L.length 3),(0,.ptr sp 0)]/\L'=L++(.spare j 3::X)) ah7 ⟨0,[],[],rfl,ae5 _,hid rfl,rfl,ah4⟩ ?_;rintro m _ _ ⟨j,C,X,W,hj,A,rfl,rfl⟩;subst m;by_cases c:j<ws.length;have U:(j:Int)<(ws.length:Int):=ah3;have Y:IntKind.i64.wrap ((j:Int)+1)=((j+1:Nat):Int):=by rw[ae ah3 ah3];omega
 have Q:=H.o j c;have S:j<w.length:=ah3;have k:ws.getD j default∈ws:=by simp[c]
 obtain⟨x,g⟩:=aeS (ws.getD j default);rw[g]at Q k;have kk1:=@hid _ (λ{X:List Blk}{K:aeX}=>I.o x k (X:=X) (K:=K));have F:Hid (C++[.int .i64 0,dnA x.nm,.sl (bj x.av) x.av.length none]=cK ((ws.take (j+1)).map Jx)):=hid (by have:ws[j]=x:=(by rw[<- g];simp[c]);rw[afs c,this,afk,Yb,<- A.o];rfl)
 have Z:=ce x.nm;have V:=oe x.av;clear g k A v I;refine wk ?_;exact ah8 ah3 ah6 ⟨j+1,_,_,rfl,c,F,rfl,rfl⟩;have G:j=ws.length:=ah3;subst G;have U:¬(ws.length:Int)<(ws.length:Int):=ah3;rw[afo]at A;have D:=A.o;subst D;have P:=Qn (ws.map Jx);clear A;refine wk ?_;refine aB ?_;simp only[AV.frz,P];refine af ?_ v.o;simp only[AV.refs,OG]
theorem MY{L:List Blk}{A:Adr}{lim:Int}{suf:List Rdn}{last:Int}{l:List aw}{S:List Sec}{j:Jst}{recs:List (List UInt8)}(h:kJ L A lim suf last l S j recs){K:aeX}(a:K (.sl (cK ((cJ suf l).map Jx)) (cJ suf l).length none) L):
  aeW 12 [.ptr A.sp 0] L K:=by
 obtain⟨nb,bn,ck,ci,rs,b⟩:=h.c;exact Qo h.s b h.tok h.ln (λx d=>(h.av x d).ok) a
theorem Y6{c c':Option Nat}(B:ws.length<=1000000)(n:∀x∈ws,dnB x.nm/\Yo x.av)(h:K (.bool true) L):aeW 16 [.sl (cK ws) ws.length c,.sl (cK ws) ws.length c'] L K:=by
 obtain⟨E,l⟩:=aeS (cK ws);have p:E.length=ws.length*3:=by rw[<- l];exact X9 ws
 have a:=hid (λk (q:k<ws.length)=>Ya q);rw[l]at a⊢;have e:=hid n;replace h:=hid h;clear l n;refine aeV OX ?_;refine ao (λm T' L'=>∃(k:Nat),m=ws.length-k/\k<=ws.length/\T'=[(13,.int .i64 (k:Int)),(12,.int .i64 ws.length),(4,.bool false),(0,.sl E ws.length c),(1,.sl E ws.length c')]/\L=L') (CutS (b:=ae0 _)) ⟨0,rfl,ae5 _,rfl,rfl⟩ ?_;rintro m _ _ ⟨k,z,r,rfl,rfl⟩;subst m;by_cases d:k<ws.length;have u:(k:Int)<(ws.length:Int):=ah3;have A:IntKind.i64.wrap ((k:Int)+1)=((k+1:Nat):Int):=by rw[ae ah3 ah3];omega
 obtain⟨x,g⟩:=aeS (ws.getD k default);obtain⟨v,s,t⟩:=a.o k d;rw[g]at v s t;obtain⟨f,j⟩:=e.o x (by rw[<- g];simp[d]);have kk1:Hid (Ctr Tryz.prog 46 [dnA x.nm,dnA x.nm] (.bool true)):=@hid _ (by intro L K q;exact abr f.1 f.2 q);have kk2:Hid (Ctr Tryz.prog 47 [atR x.av,atR x.av] (.bool true)):=@hid _ (by intro L K q;exact adh j.1 j.2 q);have w:k*3+1<E.length:=ah3;have y:k*3+2<E.length:=ah3;clear g f j h a e;refine wk ?_;exact ah8 ah3 (CutL (b:=ae0 _)) ⟨k+1,rfl,d,rfl,rfl⟩;have i:k=ws.length:=ah3;subst i;have u:¬(ws.length:Int)<(ws.length:Int):=ah3;clear d r a e;refine wk ?_;exact ag h.o
theorem WC{r:List UInt8}(h:D8 az He=some r):r.getD 0 0=0:=by unfold D8 at h;split at h;cases h;rfl;cases h
theorem aec:rdH az He=none:=by
 unfold rdH;cases h:D8 az He with
 |none=>rfl
 |some r=>exact if_pos (.inl (by rw[WC h];decide))
theorem aed:rdC az He=none:=by
 unfold rdC;cases h:D8 az He with
 |none=>rfl
 |some r=>exact if_pos (by rw[WC h];decide)
theorem PZ{m:Nat}:∀{l:List Sec},(∀s∈l,rdC az s=none)->qG az m l=m
 |[],_=>rfl
 | s::l,h=>by
   have a:=PZ (m:=m) (l:=l) λs b=>h s (agB _ b)
   unfold qG at a⊢;rw[afO,h s ahv];exact a
abbrev W8(n:Nat):List Sec:=List.replicate n He
theorem abe(h:4<=n):bD az (W8 n)=(⟨0,1,-1,0,0⟩,[]):=by
 have a:∀i,i<2->(W8 n).getD i []=He:=λi d=>by simp[show i<n by omega]
 have b:v8 az (W8 n)=(0,0,1,-1):=by unfold v8 Gw;rw[a 0 (by decide),a 1 (by decide),aec]
 unfold bD;rw[b,PZ λs c=>by have:=agv (ahd c);rw[ahV this];exact aed]
 rfl
theorem abv(h:2<=room):(aV az (W8 n) room ⟨0,1,-1,0,0⟩ []).1=0:=by unfold aV;rw[if_neg ah4,if_neg (by simp[br];omega)]
theorem Tw{S:List Sec}{j:Jst}{recs:List (List UInt8)}(a:QY az S j recs)(g:j.gen<4294967295):(aV az S S.length ⟨j.gen,j.half,j.slot,0,0⟩ recs).1=0:=by
 have f:=a.used;have h4:=a.n4;have h:=a.half;have d:aQ S.length=(S.length-2)/2:=rfl;have i:aM S.length (1-j.half)<=2+aQ S.length:=by unfold aM;rcases(by omega:j.half=0\/j.half=1)with e|e<;>rw[e]<;>simp
 unfold aV;rw[if_neg (by rw[Bool.not_eq_true,agI];intro b c;have:=a.bd b c;simp;omega),if_neg (by simp only[not_or,Nat.not_lt];omega)]
section
variable {L:List Blk}{dp lp wp:Nat}{lim:Int}{S:List Sec}{suf:List Rdn}
theorem Uo{n:Nat}(h:4<=n)(f:n<=8192){K:aeX}(c:∀(M:List Blk) dp lp wp,J2 M dp lp wp n (W8 n)->(∀i,i<L.length->M[i]?=L[i]?)->L.length<=M.length->K (.ptr dp 0) M):aeW 6 [.int .i64 (n:Int)] L K:=by refine adD ah3 ah3 (λM dp lp wp a b d j e _ _ _ _ _ _=>?_);rw[Int.toNat_natCast]at a b;exact c M dp lp wp ⟨⟨_,_,_,_,by rw[agN];exact a⟩,b,⟨_,d⟩,by simpa using h,by simpa using f,λs g=>by rw[ahV g];rfl,ah3⟩ j e
theorem Tq{n:Nat}(h4:4<=n)(h:J2 L dp lp wp lim (W8 n))(p:2<=lim)(hd:dnB suf)(j:OkD suf)(d:suf≠[]){cap:Option Nat}{K:aeX}(g:∀(M:List Blk) A c a,A.dp=dp->A.lp=lp->A.wp=wp->kJ M A lim suf 0 [] c a []->c.length=n->a.gen=1->(∀(i:Nat) (b:Blk),L[i]?=some b->NoS b->M[i]?=some b)->L.length<=M.length->K (.tup [.ptr A.sp 0,.int .i64 0]) M):
  aeW 7 [.ptr dp 0,.sl (suf.map aH) suf.length cap] L K:=by
 have e:=abe h4;refine Wn h hd j d (by rw[e];exact abv (by unfold cC;rw[agN];split<;>omega)) (by rw[e];exact trivial) (λM A c a l o a3 a4 a5 f k m _=>?_);rw[e]at a4 f;exact g M A c a l o a3 a4 (by rw[a5,agN]) f k m
theorem PB{j:Jst}{recs:List (List UInt8)}(h:J2 L dp lp wp lim S)(k:QY az S j recs)(q:j.gen<4294967295)(t:(S.length:Int)<=lim)(hd:dnB suf)(m:OkD suf)(f:suf≠[])(a:Jl suf ([],0) recs){cap:Option Nat}{K:aeX}(l:∀(M:List Blk) A d c,A.dp=dp->A.lp=lp->A.wp=wp->kJ M A lim suf (aW suf ([],0) recs).2 (aW suf ([],0) recs).1 d c recs->d.length=S.length->c.gen=j.gen+1->(∀(i:Nat) (b:Blk),L[i]?=some b->NoS b->M[i]?=some b)->L.length<=M.length->(∀i,i<L.length->i≠lp->i≠wp->M[i]?=L[i]?)->K (.tup [.ptr A.sp 0,.int .i64 0]) M):
  aeW 7 [.ptr dp 0,.sl (suf.map aH) suf.length cap] L K:=by
 have e:=Xj Qy k h.n8;have p:cC S.length lim=(S.length:Int):=by unfold cC;split<;>omega
 refine Wn h hd m f (by rw[e,p];exact Tw k q) (by rw[e];exact a) (λM A d c o s a3 a4 a5 g n r a9=>?_);rw[e]at a4 g;exact l M A d c o s a3 a4 a5 g n r a9
end
theorem VW{L:List Blk}{dp lp wp:Nat}{lim:Int}{S:List Sec}(h:J2 L dp lp wp lim S){k t a:Int}{K:aeX}(f:∀(M:List Blk),J2 M dp lp wp lim S->L.length<=M.length->K (.tup []) M):aeW 24 [.ptr dp 0,.agg [.int .u64 k,.int .i64 t,.int .i64 a]] L K:=by obtain⟨cp,x,y,z,hd⟩:=h.d;obtain⟨ck,b⟩:=h.w;obtain⟨g,i,n3⟩:=h.ne;refine aaf hd h.l b h.n8 (λM e c j=>f M ⟨⟨cp,x,y,z,e⟩,?_,⟨ck,?_⟩,h.n4,h.n8,h.all,h.lm⟩ j);rw[c lp (Ne.symm g) (aeY.1 h.l).1];exact h.l;rw[c wp (Ne.symm i) (aeY.1 b).1];exact b
def u1:Upd:=⟨1,sfx,[],[]⟩
def u1S:List UInt8:=[48,11,2,1,1,4,4,100,99,61,122,48,0]
theorem Wi:wrU u1=(u1S,0):=ah5
theorem YO:jm u1:=⟨by simp[u1],by simp[u1]⟩
theorem acH:rdU u1S=(u1,0):=by have:=Zi YO (by rw[Wi]);rw[Wi]at this;exact this
theorem YP:bI sfx ([]:List aw) u1.kind u1.dn u1.tw=0:=ah5
def l1:List aw:=[⟨1,sfx,[]⟩]
theorem acI:doT sfx ([]:List aw) 0 u1.kind u1.dn u1.tw u1.attrs=(l1,1):=by unfold doT;rw[if_neg (λe=>e YP),if_pos (show u1.kind=1 from rfl)];rfl
theorem acG:dnB u1.tw:=⟨by simp[u1],by simp[u1]⟩
theorem abM{L:List Blk}{dp lp wp:Nat}{lim:Int}{S:List Sec}{j:Jst}{recs:List (List UInt8)}(h:Ej L jp dp lp wp lim S j recs)(f:(S.length:Int)<=lim):(aQ S.length:Int)-j.used<=qI S.length (cC S.length lim) j:=by
 have c:=h.inv.half;have h4:=h.k.n4;have a:cC S.length lim=(S.length:Int):=by unfold cC;split<;>omega
 have d:aM S.length j.half+aQ S.length<=S.length:=by have b:aQ S.length=(S.length-2)/2:=rfl;unfold aM;rcases(by omega:j.half=0\/j.half=1)with e|e<;>rw[e]<;>omega
 rw[a];unfold qI;omega
theorem aax(suf:List Rdn):cJ suf []=[]:=by unfold cJ;split;simp[scL];rfl
theorem ac8{rm:Int}{j:Jst}{b:List aw}{a:List (List UInt8)}{code:Int}(h:Mv n rm sfx 0 [] u1 j [] last' b a code)(c:1<=qI n rm j):code=0/\a=[u1S]/\b=l1/\last'=1:=by
 cases h with
 |no ha=>exact absurd YP ha
 | full ha r hr why =>
   rw[Wi]at why;rcases why with h|h|h
   .exact absurd rfl h
   .exact absurd h (by decide)
   .have:cj u1S.length=1:=(by decide);dsimp only at h;omega
 | ok ha r hr h1 h2 j0 h3 =>
   rw[acI,Wi];have:r=[]:=by
    rcases hr with e|e
    .exact e
    .rw[e,aax];rfl
   rw[this];exact⟨rfl,rfl,rfl,rfl⟩
theorem abO:aN l1 sfx=1:=ah5
theorem ZF:Jl sfx ([],0) [u1S]/\aW sfx ([],0) [u1S]=(l1,1):=by refine⟨⟨u1,acH,Nq,acG,YO,by decide,YP,trivial⟩,?_⟩;unfold aW jv;rw[afO,ag7,acH];exact acI
theorem V0(h:∀M,K (.bool true) M):aeW 9 [] L K:=by
 have kk1:Hid (Ctr Tryz.prog 8 [] (.sl [.sl [.str [100,99],.str [122]] 1 (some 1)] 1 (some 1))):=@hid _ (by intro L K q;exact Wm q);replace h:=hid h;refine aeV Nf ?_;refine Uo (n:=40) (by decide) (by decide) (λM dp lp wp g _ Y=>?_);replace g:=hid g;refine wk ?_;refine cL ?_;refine Tq (suf:=sfx) (cap:=none) (by decide) g.o (by decide) Nq Js Jt (λM2 A S' j' l W a3 a4 a5 j R V=>?_);have f:=hid a4;replace l:=hid l;replace a5:=hid a5;replace j:=hid j;clear W a3 a4 R;refine wk ?_;refine cL ?_;refine acM (u:=u1) f.o (by decide) (by decide) Nq acG YO (λX last' l' H S w code z B y O U E C F=>?_);obtain⟨rfl,rfl,rfl,rfl⟩:=ac8 B (by have:=abM f.o.m (by rw[a5.o];decide);have Z:=f.o.m.inv.used.1;rw[a5.o]at this⊢;have e:aQ 40=19:=(by decide);have e2:br []=0:=rfl;omega)
 have v:=hid z;have p:=hid (show H.length=40 by rw[y,a5.o]);have r:=hid (show S.gen<=2 by have:=j.o;omega);clear z B y O U E C F;refine wk ?_;refine VW (by rw[<- l.o];exact v.o.m.k) (λM4 i _=>?_);replace i:=hid i;refine wk ?_;refine cL ?_;refine PB (suf:=sfx) (cap:=none) i.o v.o.m.inv (by have:=r.o;omega) (by rw[p.o];decide) Nq Js Jt ZF.1 (λb x S3 j3 G N P a D Q I b8 J=>?_);rw[ZF.2]at a;obtain⟨nb,bn,ck,ci,rs,t⟩:=a.c;have T:=a.s;have kk2:Hid (∀{K:aeX},K (.int .i64 1) b->aeW 25 [.ptr x.iv 0] b K):=@hid _ (by intro K q;exact ac7 t q);have kk3:Hid (∀{K:aeX},K (.int .i64 1) b->aeW 26 [.ptr x.iv 0,.sl [.sl [.str [100,99],.str [122]] 1 (some 1)] 1 (some 1)] b K):=@hid _ (by intro K q;exact cL (mO (d:=sfx) (cap:=none) Nq a.tok t (by rw[abO];exact q)));clear G N P a D Q I b8 J i v f g l a5 j V t;refine wk ?_;exact ag (h.o b)
theorem Yk(h:K (.bool true) L):aeW 9 [] L K:=Te (V0 λ_=>rfl) h
variable {α:Type}
def Sim(l l':List (Ent α)):Prop:=∃f:Int->Int,(∀x∈l,∀y∈l,f x.id=f y.id->x.id=y.id)/\l'.Perm (l.map λx=>{x with id:=f x.id})
theorem Sim.refl(l:List (Ent α)):Sim l l:=⟨id,λ_ _ _ _ h=>h,by rw[show(l.map λx=>{x with id:=id x.id})=l from by simp]⟩
theorem Sim.len{l a:List (Ent α)}(h:Sim l a):a.length=l.length:=by obtain⟨f,_,b⟩:=h;rw[b.length_eq,ae6]
theorem Sim.mem{l b:List (Ent α)}{f:Int->Int}(c:b.Perm (l.map λx=>{x with id:=f x.id})){y:Ent α}:y∈b↔∃x∈l,y={x with id:=f x.id}:=by rw[c.mem_iff,ae1];constructor;rintro⟨x,a,rfl⟩;exact⟨x,a,rfl⟩;rintro⟨x,a,rfl⟩;exact⟨x,a,rfl⟩
theorem Sim.at{suf:List Rdn}{last last':Int}{l a:List (Ent α)}(i:TOk suf last l)(b:TOk suf last' a){f:Int->Int}(g:a.Perm (l.map λx=>{x with id:=f x.id}))(d:List Rdn):atE a d=(atE l d).map λx=>{x with id:=f x.id}:=by
 by_cases hd:OkD d;cases h:atE l d with
 | none =>
   cases h':atE a d with
   |none=>rfl
   | some y =>
     obtain⟨_,j,e⟩:=bi h';obtain⟨x,c,rfl⟩:=(Sim.mem g).1 j;rw[i.at c hd e.symm]at h;cases h
 | some x =>
   obtain⟨_,c,e⟩:=bi h;exact b.at (x:={x with id:=f x.id}) ((Sim.mem g).2 ⟨x,c,rfl⟩) hd e.symm
 unfold atE;rw[if_neg hd,if_neg hd];rfl
structure fC(f:Int->Int)(l l':List (Ent α)):Prop where
 inj:∀x∈l,∀y∈l,f x.id=f y.id->x.id=y.id
 perm:l'.Perm (l.map λx=>{x with id:=f x.id})
theorem RQ(l:List (Ent α))(p:Pth):aO (cu l) p=(l.filter λx=>decide (NK x.nm≠[]/\(NK x.nm).tail=p)).length:=by unfold aO cu;rw[agR,ae6];rfl
theorem fC.kids{l a:List (Ent α)}(h:fC f l a)(p:Pth):aO (cu a) p=aO (cu l) p:=by rw[RQ,RQ,(h.perm.filter _).length_eq,agR,ae6];rfl
theorem fC.len{l a:List (Ent α)}(h:fC f l a):a.length=l.length:=by rw[h.perm.length_eq,ae6]
theorem fC.bad{l a:List (Ent α)}(h:fC f l a)(dn tn:List Rdn):UD a dn tn=UD l dn tn:=by unfold UD;rw[h.perm.any_eq,List.any_map];rfl
theorem fC.oth{suf:List Rdn}{last:Int}{l b:List (Ent α)}(h:fC f l b)(d:TOk suf last l)(a:TOk suf last' b){x:Ent α}(c:x∈l)(tn:List Rdn):TK b (f x.id) tn=TK l x.id tn:=by
 unfold TK;rw[Sim.at d a h.perm];cases e:atE l tn with
 |none=>rfl
 | some y =>
   simp only[afi];rw[ahD];simp only[decide_eq_true_eq,ne_eq];exact not_congr ⟨λq=>h.inj y (bi e).2.1 x c q,λq=>by rw[q]⟩
theorem fC.able{suf:List Rdn}{last:Int}{l b:List (Ent α)}(h:fC f l b)(c:TOk suf last l)(a:TOk suf last' b)(k:Int)(dn tn:List Rdn):bI suf b k dn tn=bI suf l k dn tn:=by
 have g:∀d,(atE b d=none↔atE l d=none):=λd=>by rw[Sim.at c a h.perm,Option.map_eq_none_iff]
 unfold bI;rw[h.len,Sim.at c a h.perm dn];cases e:atE l dn with
 |none=>simp only[afx,g]
 | some x =>
   simp only[afi,g,h.kids,Sr,h.oth c a (bi e).2.1,h.bad,ne_eq,reduceCtorEq,not_false_eq_true]
theorem fC.find{suf:List Rdn}{last:Int}{l b:List (Ent α)}(h:fC f l b)(c:TOk suf last l)(a:TOk suf last' b)(hd:atE l d≠none):aN b d=f (aN l d):=by
 unfold aN;rw[Sim.at c a h.perm];cases e:atE l d with
 |none=>exact absurd e hd
 |some x=>rfl
theorem fC.cha{l e:List (Ent α)}(h:fC f l e){i:Int}(j:∃x∈l,x.id=i)(v:α):fC f (sP l i v) (sP e (f i) v):=by
 obtain⟨z,k,rfl⟩:=j;have hid:∀(x:Ent α),(if x.id=z.id then{x with av:=v}else x).id=x.id:=λx=>by split<;>rfl
 refine⟨λx d y m q=>?_,?_⟩;obtain⟨g,b,rfl⟩:=ae1.1 d;obtain⟨n,a,rfl⟩:=ae1.1 m;rw[hid,hid]at q⊢;exact h.inj g b n a q;unfold sP;refine(h.perm.map _).trans ?_;rw[afj,afj];refine ahp (afN λx d=>?_);simp only[agz];by_cases c:x.id=z.id;rw[if_pos c,if_pos (by rw[c])];rw[if_neg c,if_neg (λq=>c (h.inj x d z k q))]
theorem fC.ren{l e:List (Ent α)}(h:fC f l e)(dn tn:List Rdn):fC f (mu l dn tn) (mu e dn tn):=by
 have hid:∀(x:Ent α),(if gk x.nm dn=true then{x with nm:=nR x.nm dn.length tn}else x).id=x.id:=λx=>by split<;>rfl
 refine⟨λx d y i q=>?_,?_⟩;obtain⟨g,a,rfl⟩:=ae1.1 d;obtain⟨j,b,rfl⟩:=ae1.1 i;rw[hid,hid]at q⊢;exact h.inj g a j b q;unfold mu;refine(h.perm.map _).trans ?_;rw[afj,afj];refine ahp (afN λx d=>?_);simp only[agz];by_cases c:gk x.nm dn=true;rw[if_pos c,if_pos c];rw[if_neg c,if_neg c]
theorem fC.do{suf:List Rdn}{last:Int}{l t:List (Ent α)}(h:fC f l t)(s:TOk suf last l)(d:TOk suf last' t)(k:Int)(dn tn:List Rdn)(v:α):∃g,fC g (doT suf l last k dn tn v).1 (doT suf t last' k dn tn v).1:=by
 unfold doT;rw[h.able s d];by_cases m:bI suf l k dn tn≠0;rw[if_pos m,if_pos m];exact⟨f,h⟩;rw[if_neg m,if_neg m];by_cases n:k=1;rw[if_pos n,if_pos n];refine⟨λi=>if i=last+1 then last'+1 else f i,λx a y b q=>?_,?_⟩;have key:∀x∈l,x.id≠last+1/\f x.id≠last'+1:=λx a=>⟨by have:=(s.ids x a).2;omega,by have:f x.id<=last':=(d.ids _ ((Sim.mem h.perm).2 ⟨x,a,rfl⟩)).2;omega⟩
 simp only[mM,ae2,afl]at a b;rcases a with a|rfl<;>rcases b with b|rfl;rw[if_neg (key x a).1,if_neg (key y b).1]at q;exact h.inj x a y b q;rw[if_neg (key x a).1,if_pos rfl]at q;exact absurd q (key x a).2;rw[if_neg (key y b).1,if_pos rfl]at q;exact absurd q.symm (key y b).2;rfl;simp only[mM,afk,afe,afQ,if_true];refine List.Perm.append ?_ (List.Perm.refl _);refine h.perm.trans (ahp (afN λx a=>?_));rw[if_neg (by have:=(s.ids x a).2;omega)];rw[if_neg n,if_neg n];have o:atE l dn≠none:=by
  intro e;apply m;unfold bI;split;decide
  first|rw[if_neg n,e]|rw[e]
  simp
 obtain⟨z,u⟩:=Option.ne_none_iff_exists'.1 o;have j:=(bi u).2.1;have c:aN l dn=z.id:=by unfold aN;rw[u]
 rw[h.find s d o];by_cases p:k=2;rw[if_pos p,if_pos p];refine⟨f,λx a y b q=>h.inj x (afB.1 a).1 y (afB.1 b).1 q,?_⟩;unfold MZ;refine(h.perm.filter _).trans ?_;rw[agR];refine ahp (congrArg _ (ahC λx a=>?_));simp only[agz,decide_eq_decide,ne_eq];rw[c];exact not_congr ⟨λq=>h.inj x a z j q,λq=>by rw[q]⟩;rw[if_neg p,if_neg p];by_cases r:k=3;rw[if_pos r,if_pos r];exact⟨f,h.cha ⟨z,j,c.symm⟩ v⟩;rw[if_neg r,if_neg r];refine⟨f,(h.ren dn tn).cha ?_ v⟩;refine⟨_,ae1.2 ⟨z,j,rfl⟩,?_⟩;rw[c];split<;>rfl
variable {α:Type}
theorem fC.scL{suf:List Rdn}{last:Int}{l e:List (Ent α)}(h:fC f l e)(d:TOk suf last' e){a:Ent α}(i:a∈l)(s:Int):scL e {a with id:=f a.id} s=(scL l a s).map λx=>{x with id:=f x.id}:=by symm;refine d.one ?_ ?_;unfold Av.scL;refine((aga _ _).map _).trans ?_;refine List.Perm.trans ?_ (h.perm.filter _).symm;rw[agR];exact List.Perm.refl _;have g:=ag5 (le:=leE) (λa b c=>G8 a b c) yE (l.filter (fA a s));change(Av.scL l a s).Pairwise _ at g;rw[List.pairwise_map];exact g.imp λq=>q
theorem fC.all{suf:List Rdn}{last:Int}{l c:List aw}(h:fC f l c)(d:TOk suf last l)(b:TOk suf last' c):cJ suf c=(cJ suf l).map λx=>{x with id:=f x.id}:=by
 unfold cJ;rw[Sim.at d b h.perm];cases e:atE l suf with
 |none=>rfl
 |some a=>exact h.scL (last:=last) b (bi e).2.1 2
def Z7(suf:List Rdn)(l:List aw):List (List Rdn×List Atr):=(cJ suf l).map λx=>(x.nm,x.av)
theorem fC.ents{suf:List Rdn}{last:Int}{l b:List aw}(h:fC f l b)(c:TOk suf last l)(a:TOk suf last' b):Z7 suf b=Z7 suf l:=by unfold Z7;rw[h.all c a,afj];rfl
theorem fC.nil(f:Int->Int):fC f ([]:List (Ent α)) []:=⟨(λ_ a=>by cases a),List.Perm.refl _⟩
theorem fC.add{l j:List (Ent α)}(h:fC f l j){x:Ent α}(e:∀y∈l,y.id≠x.id)(k:∀y∈j,y.id<=last'):fC (λi=>if i=x.id then last'+1 else f i) (l++[x]) (mM j last' x.nm x.av):=by
 have key:∀y∈l,f y.id≠last'+1:=λy g=>by have:f y.id<=last':=k _ ((Sim.mem h.perm).2 ⟨y,g,rfl⟩);omega
 refine⟨λa d b c q=>?_,?_⟩;simp only[ae2,afl]at d c;rcases d with d|rfl<;>rcases c with c|rfl;rw[if_neg (e a d),if_neg (e b c)]at q;exact h.inj a d b c q;rw[if_neg (e a d),if_pos rfl]at q;exact absurd q (key a d);rw[if_neg (e b c),if_pos rfl]at q;exact absurd q.symm (key b c);rfl;simp only[mM,afk,afe,afQ,if_true];refine List.Perm.append ?_ (List.Perm.refl _);refine h.perm.trans (ahp (afN λy g=>?_));rw[if_neg (e y g)]
def qP(suf:List Rdn)(s:List (Ent α)×Int)(x:Ent α):List (Ent α)×Int:=doT suf s.1 s.2 1 x.nm [] x.av
def Q2(suf:List Rdn):List (Ent α)×Int->List (Ent α)->Prop
 |_,[]=>True
 |s,x::ws=>bI suf s.1 1 x.nm []=0/\Q2 suf (qP suf s x) ws
theorem UI{suf:List Rdn}:∀(ws c D:List (Ent α)) (last:Int) (g:Int->Int),TOk suf last D->0<=last->fC g c D->((c++ws).map λx=>NK x.nm).Nodup->((c++ws).map (·.id)).Nodup->(∀x∈c++ws,OkD x.nm) ->
  (∀a x b,c++ws=a++x::b->NK x.nm=NK suf\/∃y∈a,NK y.nm=(NK x.nm).tail)->(c++ws).length<=4096->∃o,fC o (c++ws) (ws.foldl (qP suf) (D,last)).1/\TOk suf (ws.foldl (qP suf) (D,last)).2 (ws.foldl (qP suf) (D,last)).1/\0<=(ws.foldl (qP suf) (D,last)).2/\Q2 suf (D,last) ws
 |[],c,D,last,g,ht,hl0,h,_,_,_,_,_=>⟨g,by rw[afq];exact h,ht,hl0,trivial⟩
 | x::ws,c,D,last,g,ht,hl0,h,hnd,hid,hok,hpar,hlen=>by
   have j:=hok x ah4;have k:∀y∈c,y.id≠x.id/\NK y.nm≠NK x.nm:=λy f=>by rw[afk,agq]at hnd hid;exact⟨λe=>hid.2.2 _ (ae1.2 ⟨y,f,rfl⟩) _ (ae1.2 ⟨x,ah4,rfl⟩) e,λe=>hnd.2.2 _ (ae1.2 ⟨y,f,rfl⟩) _ (ae1.2 ⟨x,ah4,rfl⟩) e⟩
   have m:atE D x.nm=none:=by
    cases e:atE D x.nm with
    |none=>rfl
    | some z =>
      obtain⟨_,n,u⟩:=bi e;obtain⟨y,f,rfl⟩:=(Sim.mem h.perm).1 n;exact absurd u (k y f).2
   have i:bI suf D 1 x.nm []=0:=by
    unfold bI;rw[if_neg ah3,if_pos rfl,if_neg (by simpa using j),if_neg (by simp[m]),if_neg,if_neg (by rw[h.len];simp only[afc,afg]at hlen;omega)];rintro⟨p,l⟩;rcases hpar c x ws rfl with e|⟨y,f,e⟩
    .rw[PA.2 ⟨j,ht.sok,e⟩]at p;cases p
    .have hn:x.nm≠[]:=by intro q;have:=(hok y (by simp[f]));rw[q]at e;have v:NK y.nm=[]:=(by rw[e,Nn.2 rfl];rfl);exact(k y f).2 (by rw[v,q,Nn.2 rfl])
     rcases l with l|l
     .exact hn l
     .have ht2:OkD x.nm.tail:=(by rw[<- ag9];exact j.drop 1);have n:({y with id:=g y.id}:Ent α)∈D:=(Sim.mem h.perm).2 ⟨y,f,rfl⟩;have:=ht.at n ht2 (by rw[<- ag9,S8,ag9];exact e.symm);rw[l]at this;cases this
   have d:qP suf (D,last) x=(mM D last x.nm x.av,last+1):=by unfold qP doT;simp only;rw[if_neg (by rw[i];simp),if_pos trivial]
   rw[afO,d];have hd:=ht.done hl0 1 x.nm [] x.av;have t:doT suf D last 1 x.nm [] x.av=(mM D last x.nm x.av,last+1):=d;rw[t]at hd;obtain⟨o,r,s,h4,w⟩:=UI ws (c++[x]) (mM D last x.nm x.av) (last+1) _ hd.1 ah3 (h.add (λy f=>(k y f).1) (λy f=>(ht.ids y f).2)) (by rw[afa];exact hnd) (by rw[afa];exact hid) (by rw[afa];exact hok) (by rw[afa];exact hpar) (by rw[afa];exact hlen);exact⟨o,by rw[afa]at r;exact r,s,h4,i,by rw[d];exact w⟩
set_option maxHeartbeats 1000000
set_option maxRecDepth 100000
theorem UA(f:Nd->List UInt8×Int):∀(l m:List Nd) (a:List UInt8),(dY f a l).2=0->dY f a (l++m)=dY f (dY f a l).1 m
 |[],m,a,_=>rfl
 | n::l,m,a,h=>by
   rw[afI,dY,dY];rw[dY]at h;by_cases c:(f n).2≠0
   .rw[if_pos c]at h;exact absurd h c
   .rw[if_neg c]at h;rw[if_neg c,if_neg c];exact UA f l m _ h
theorem Uz{f:Nd->List UInt8×Int}{n:Nd}:∀(l:List Nd) (a:List UInt8),(dY f a l).2≠0->(dY f a (l++[n])).2≠0
 |[],a,h=>absurd rfl h
 | x::l,a,h=>by
   rw[afI,dY];rw[dY]at h;by_cases d:(f x).2≠0
   .rw[if_pos d];exact d
   .rw[if_neg d]at h⊢;exact Uz l _ h
theorem Yh{f:Nd->List UInt8×Int}{l:List Nd}{a:List UInt8}{n:Nd}(h:(dY f a (l++[n])).2=0):(f n).2=0/\(f n).1.length<=(dY f a (l++[n])).1.length:=by by_cases c:(dY f a l).2=0;rw[UA f l [n] a c]at h⊢;rw[dY]at h⊢;by_cases d:(f n).2≠0;rw[if_pos d]at h;exact absurd h d;rw[if_neg d,dY];exact⟨by simpa using d,ah4⟩;exact absurd h (Uz l a c)
def Mp(v:List Atr):List UInt8×Int:=de 3 (OR v)
theorem ac0(h:(wrU u).2=0)(d:u.kind≠2):(Mp u.attrs).2=0/\(Mp u.attrs).1.length<=(wrU u).1.length:=by unfold wrU at h⊢;split at h;cases h;rename_i g;split at h;rename_i b;exact absurd h b;rename_i b;split at h;rename_i c;exact absurd h c.2;rename_i c;rw[if_neg g,if_neg b,if_neg c];unfold wv at h⊢;rw[if_neg d]at h⊢;generalize([Nd.mk 2 [b8 u.kind.toNat] [],bm (prS u.dn).1]++if u.kind=4 then[bm (prS u.tw).1]else[])=pre at h⊢;rw[de]at h⊢;split at h;rename_i a;exact absurd h a;rename_i a;split at h;cases h;rename_i c5;rw[if_neg a,if_neg c5];obtain⟨f,e⟩:=Yh (ag6.1 a);refine⟨f,afw e ?_⟩;simp only[afg,afc];omega
theorem abD(h:OkD d):(prS d).1.length<=4096:=by have a:(prS d).2=0:=h;unfold prS at a⊢;split;simp;split;simp;split;simp;rename_i c;exact Nat.not_lt.1 c
theorem Wb(hd:OkD d)(j:(Mp v).2=0)(k:(Mp v).1.length<=500000):(wrU ⟨1,d,[],v⟩).2=0/\(wrU ⟨1,d,[],v⟩).1.length<=(Mp v).1.length+4200:=by
 have h:(prS d).2=0:=hd;have l:=abD hd;have e:wrU ⟨1,d,[],v⟩=de 4 (wv 1 (prS d).1 (prS []).1 v):=by unfold wrU;rw[if_neg ah4,if_neg (by simp[h]),if_neg ah4]
 have i:de 3 (.mk 2 [b8 (1:Int).toNat] [])=([2,1,1],0):=by rfl
 have f:de 3 (bm (prS d).1)=(b8 4::(sL (prS d).1.length++(prS d).1),0):=by unfold bm;rw[de,dY,if_neg ah4,if_neg (by simp;omega)];rfl
 have g:dY (de 3) [] ([.mk 2 [b8 (1:Int).toNat] [],bm (prS d).1]++[]++[OR v])=(([2,1,1]++(b8 4::(sL (prS d).1.length++(prS d).1)))++(Mp v).1,0):=by simp only[afq,afI,afH];rw[dY,i,if_neg ah4,dY,f,if_neg ah4,dY,if_neg (by show ¬(Mp v).2≠0;simp[j]),dY];simp[Mp]
 have c:=G7 (prS d).1.length;have a:(([2,1,1]++(b8 4::(sL (prS d).1.length++(prS d).1)))++(Mp v).1).length<=(Mp v).1.length+4104:=by simp;omega
 rw[e];unfold wv;rw[if_neg (by decide),if_neg (by decide),de,g];rw[if_neg ah4,if_neg (by dsimp only;omega)];refine⟨rfl,?_⟩;have b:=G7 ((([2,1,1]++(b8 4::(sL (prS d).1.length++(prS d).1)))++(Mp v).1)).length;rw[afg,afc];dsimp only at *;omega
theorem R4{suf:List Rdn}{last:Int}{l:List aw}(a:TOk suf last l):(cJ suf l).Perm l:=by rcases l with _|⟨x,t⟩;unfold cJ;split;simp[scL];exact List.Perm.refl _;obtain⟨r,hr,e⟩:=Wd a _ x ahv (ae0 _);have b:=a.at hr a.sok e.symm;unfold cJ;rw[b];exact aa5 a hr e
theorem V2{suf:List Rdn}{last:Int}{l:List aw}(i:TOk suf last l):∀a x b,cJ suf l=a++x::b->NK x.nm=NK suf\/∃y∈a,NK y.nm=(NK x.nm).tail:=λa x b e=>by
 have o:=R4 i;have p:x∈l:=o.mem_iff.1 (by rw[e];simp);rcases i.inv.par _ (cH p)with u|⟨k,r,g⟩;exact .inl u;obtain⟨y,v,rfl⟩:=ae1.1 r;simp only at g;refine .inr ⟨y,?_,g⟩;have f:y∈cJ suf l:=o.mem_iff.2 v;have n:(cJ suf l).Pairwise λx y=>leE x y=true:=by unfold cJ;split;exact ag5 (le:=leE) (λa b c=>G8 a b c) yE _;exact List.Pairwise.nil
 rw[e]at f n;have j:NK x.nm≠[]:=by intro q;have:=i.inv.un _ (cH p);simp only at this;rw[q]at this;exact absurd (ahB.1 this) i.inv.sne
 have d:pLt (pth y) (pth x)=true:=by refine WA ?_ ?_;unfold pth;exact List.reverse_prefix.2 (by rw[g];exact agJ _);intro q;have:=Pe q;rw[g]at this;have t:=congrArg List.length this;rw[agA]at t;have:0<(NK x.nm).length:=afP.2 j;omega
 rcases ae2.1 f with h|h;exact h;exfalso;rcases afp.1 h with h|h;rw[h]at d;have:=yE x x;unfold leE at this;rw[d]at this;simp at this;have s:=(ahM.1 n).2.1;have m:=(List.pairwise_cons.1 s).1 y h;unfold leE at m;rw[d]at m;simp at m
theorem R7{suf:List Rdn}{b:List (List UInt8)}:∀{a:List (List UInt8)}{s:TrS},Jl suf s a->Jl suf (aW suf s a) b->Jl suf s (a++b)
 |[],s,_,h=>h
 |x::a,s,⟨u,u1,u2,u3,u4,u5,u6,u7⟩,h=>by refine⟨u,u1,u2,u3,u4,u5,u6,R7 u7 ?_⟩;have e:aW suf s (x::a)=aW suf (jv suf s u) a:=(by unfold aW;rw[afO,u1]);rw[<- e];exact h
theorem Va(suf:List Rdn)(s:TrS)(a b:List (List UInt8)):aW suf s (a++b)=aW suf (aW suf s a) b:=by unfold aW;rw[ahA]
structure zA(suf:List Rdn)(l:List aw)(recs:List (List UInt8)):Prop where
 ok:Jl suf ([],0) recs
 sim:∃f,fC f l (aW suf ([],0) recs).1
 tok:TOk suf (aW suf ([],0) recs).2 (aW suf ([],0) recs).1
 l0:0<=(aW suf ([],0) recs).2
def OK(v:List Atr):Prop:=(Mp v).2=0/\(Mp v).1.length<=20000
theorem R5(suf:List Rdn)(l:List aw)(u:Upd):bI suf l (dV u).kind (dV u).dn (dV u).tw=bI suf l u.kind u.dn u.tw:=by
 unfold dV;by_cases h:u.kind=4;simp only[if_pos h];simp only[if_neg h];unfold bI;by_cases c:u.kind<1\/4<u.kind;rw[if_pos c,if_pos c];rw[if_neg c,if_neg c];by_cases a:u.kind=1;rw[if_pos a,if_pos a];rw[if_neg a,if_neg a];cases atE l u.dn with
 |none=>rfl
 | some x =>
   by_cases b:u.kind=2
   .simp only[if_pos b]
   .simp only[if_neg b,if_pos (show u.kind=3 by omega)]
theorem ab7(suf:List Rdn)(s:TrS)(u:Upd)(h:1<=u.kind/\u.kind<=4):jv suf s (dV u)=jv suf s u:=by have e:=R5 suf s.1 u;unfold jv doT;rw[e];unfold dV;by_cases h4:u.kind=4;have a:u.kind≠2:=ah3;simp only[if_pos h4,if_neg a];by_cases a:u.kind=2;simp[a];have d:¬(¬u.kind=1/\¬u.kind=3):=ah3;simp only[if_neg h4,if_neg a];by_cases c:u.kind=1;simp[c];have b:u.kind=3:=ah3;simp[b]
theorem aaZ(h:(wrU u).2=0):1<=u.kind/\u.kind<=4:=by unfold wrU at h;split at h;cases h;rename_i c;omega
theorem aci(hd:dnB u.dn)(a:dnB u.tw)(b:jm u):dnB (dV u).dn/\dnB (dV u).tw/\jm (dV u):=by unfold dV;refine⟨hd,?_,?_⟩;dsimp only;split;exact a;exact⟨ah4,ah4⟩;by_cases h:u.kind=2;simp only[if_pos h];exact⟨ah4,ah4⟩;simp only[if_neg h];exact b
theorem Q2.rep{suf:List Rdn}:∀{ws:List aw}{s:TrS},Q2 suf s ws->(∀x∈ws,OkD x.nm/\OK x.av/\avW x.av)->Jl suf s (s7 ws)/\aW suf s (s7 ws)=ws.foldl (qP suf) s
 |[],s,_,_=>⟨trivial,rfl⟩
 | x::ws,s,⟨h1,h2⟩,h=>by
   obtain⟨f,a,a3⟩:=h x ahv;obtain⟨j,k⟩:=Wb f a.1 (by have:=a.2;omega);have hr:rdU (wrU (wa x)).1=(wa x,0):=by have:=Zi (u:=wa x) a3 j;rw[this];rfl
   have c:jv suf s (wa x)=qP suf s x:=rfl;obtain⟨g,d⟩:=h2.rep λy i=>h y (agB _ i)
   have e:s7 (x::ws)=(wrU (wa x)).1::s7 ws:=rfl;rw[e];refine⟨⟨wa x,hr,f.m.b,⟨by simp[wa],by simp[wa]⟩,a3,?_,h1,by rw[c];exact g⟩,?_⟩
   .have:(wrU (wa x)).1.length<=(Mp x.av).1.length+4200:=k;have:=a.2;omega
   .unfold aW at d⊢;rw[afO,afO,hr];exact d
theorem zA.dump{suf:List Rdn}{last:Int}{l:List aw}(b:TOk suf last l)(m:l.length<=4096)(k:∀x∈l,OK x.av/\avW x.av):zA suf l (s7 (cJ suf l)):=by
 have a:=R4 b;have h:=(a.map λx=>NK x.nm).nodup_iff.2 (by have:=b.inv.nd;unfold cu at this;rw[afj]at this;exact this)
 have hid:=(a.map (·.id)).nodup_iff.2 (by have:=b.inv.ids;unfold cu at this;rw[afj]at this;exact this)
 have i:suf≠[]:=λe=>b.inv.sne (by rw[e];exact Nn.2 rfl)
 obtain⟨g,f,j,h4,p⟩:=UI (suf:=suf) (cJ suf l) [] [] 0 id (TOk.nil b.sok i) (agS 0) (fC.nil _) (by simpa using h) (by simpa using hid) (λx c=>b.ok x (a.mem_iff.1 (by simpa using c))) (by simpa using V2 b) (by rw[afH,a.length_eq];exact m);obtain⟨n,d⟩:=Q2.rep (s:=([],0)) p λx c=>⟨b.ok x (a.mem_iff.1 c),k x (a.mem_iff.1 c)⟩
 refine⟨n,⟨g,?_⟩,by rw[d];exact j,by rw[d];exact h4⟩;rw[d];rw[afH]at f;exact⟨λx c y o q=>f.inj x (a.mem_iff.2 c) y (a.mem_iff.2 o) q,f.perm.trans (a.map _)⟩
theorem zA.app{suf:List Rdn}{last:Int}{l:List aw}{recs:List (List UInt8)}(h:zA suf l recs)(d:TOk suf last l)(hd:dnB u.dn)(a:dnB u.tw)(c:jm u)(k:bI suf l u.kind u.dn u.tw=0)(g:(wrU u).2=0)(q:(wrU u).1.length<=262144):zA suf (doT suf l last u.kind u.dn u.tw u.attrs).1 (recs++[(wrU u).1]):=by
 have j:=aaZ g;have hr:=Zi c g;obtain⟨n,o,p⟩:=aci hd a c;obtain⟨f,i⟩:=h.sim;have b:bI suf (aW suf ([],0) recs).1 u.kind u.dn u.tw=0:=by rw[i.able d h.tok];exact k
 have e:aW suf ([],0) (recs++[(wrU u).1])=jv suf (aW suf ([],0) recs) u:=by rw[Va];unfold aW;rw[afO,ag7,hr];exact ab7 suf _ u j
 obtain⟨m,t,r,s⟩:=h.tok.done h.l0 u.kind u.dn u.tw u.attrs;refine⟨R7 h.ok ⟨dV u,hr,n,o,p,ah3,by rw[R5];exact b,trivial⟩,?_,by rw[e];exact m,by rw[e];have:=h.l0;unfold jv;omega⟩;rw[e];exact i.do d h.tok u.kind u.dn u.tw u.attrs
theorem zA.nil{suf:List Rdn}(h:OkD suf)(a:suf≠[]):zA suf [] []:=⟨trivial,⟨id,fC.nil _⟩,TOk.nil h a,agS _⟩
theorem zA.o{rm:Int}{suf:List Rdn}{last:Int}{l:List aw}{j:Jst}{recs:List (List UInt8)}{f:List aw}{a:List (List UInt8)}{code:Int}(h:zA suf l recs)(i:TOk suf last l)(q:l.length<=4096)(c:∀x∈l,OK x.av/\avW x.av)(hd:dnB u.dn)(d:dnB u.tw)(p:jm u)(m:n<=300)(t:Mv n rm suf last l u j recs last' f a code):zA suf f a/\∀x∈f,OK x.av:=by
 have k:=zA.dump i q c;cases t with
 |no hb=>exact⟨h,λx b=>(c x b).1⟩
 | full hb r hr why =>
   refine⟨?_,λx b=>(c x b).1⟩;rcases hr with rfl|rfl
   .exact h
   .exact k
 | ok hb r hr h1 h2 j0 h3 =>
   have s:zA suf l r:=by
    rcases hr with rfl|rfl
    .exact h
    .exact k
   refine⟨s.app i hd d p hb h1 h2,?_⟩;by_cases g:u.kind=2
   .intro x b;unfold doT at b;rw[if_neg (λe=>e hb),if_neg ah3,if_pos g]at b;exact(c x (afB.1 b).1).1
   .obtain⟨a1,a2⟩:=ac0 h1 g;refine VU (Q:=OK) (λx b=>(c x b).1) ⟨a1,?_⟩;have h4:qI n rm j0<=149:=by unfold qI aQ;omega
    have v:(wrU u).1.length<=110*cj (wrU u).1.length:=(by unfold cj;omega);omega
set_option maxHeartbeats 8000000
theorem U9{S:List Sec}{j:Jst}{bs:List (List UInt8)}(h:(aV az S room j bs).1=5):∃b∈bs,262144<b.length:=by unfold aV at h;split at h;rename_i c;obtain⟨b,a,e⟩:=agp.1 c;exact⟨b,a,of_decide_eq_true e⟩;split at h;cases h;cases h
section
variable {L:List Blk}{A:Adr}{lim:Int}{suf:List Rdn}{last:Int}{l:List aw}{S:List Sec}{j:Jst}{recs:List (List UInt8)}
theorem ade(h:kJ L A lim suf last l S j recs)(a:∀b∈s7 (cJ suf l),b.length<=262144){K:aeX}(n:∀(M:List Blk) S' j' recs' (e:Int),kJ M A lim suf last l S' j' recs'->S'.length=S.length->j'.gen<=j.gen+1->(recs'=recs\/recs'=s7 (cJ suf l))->(e=0\/e=11)->(∀(i:Nat) (b:Blk),L[i]?=some b->NoS b->M[i]?=some b)->L.length<=M.length->K (.int .i64 e) M):
  aeW 17 [.ptr A.sp 0] L K:=by
 obtain⟨ds,d⟩:=aeS (s7 (cJ suf l));have z:ds.length<=1000000:=by rw[<- d,Qs];have:=GT suf l;have:=h.ln;omega
 obtain⟨T,r⟩:=aeS (ds.map AV.str);have kk1:Hid (∀{K:aeX},K (.sl T ds.length none) L->aeW 30 [.ptr A.iv 0] L K):=@hid _ (λ{K} q=>To h (by rw[d,r];exact q));rw[d]at n a;have R:=h.s;have O:=h.t;have u:=hid h;replace n:=hid n;replace a:=hid a;clear h d;refine aeV qO ?_;rw[<- r];refine RT u.o.m z (λM Q U y G F H C v x N=>?_);have B:=u.o.jrn G x;have k:Hid (∀(i:Nat) (b:Blk),L[i]?=some b->NoS b->M[i]?=some b):=hid (λi b e w=>by rw[x i (u.o.m.off e w.noJ).1 (aeY.1 e).1];exact e);have D:=B.s;have J:M.set A.sp (.cells [.ptr A.iv 0,.ptr A.it 0,.ptr A.jp 0,.bool false])=M:=Se D;obtain⟨p,g⟩:=aeS ((aV az S (cC S.length lim) j ds).1);rw[g]at C v⊢;have E:p=0\/p=11:=by by_cases c:p=0;exact .inl c;rcases(v c).2.2 with e|e;obtain⟨b,w,P⟩:=U9 (g.trans e);have:=a.o b w;omega;exact .inr e
 have f:y=recs\/y=ds:=by by_cases c:p=0;exact .inr (C c);exact .inl (v c).1
 have I:=hid (n.o M Q U y p B F H f E k.o N);clear G F H C v x N B k n g f u a kk1 R O;rcases E with rfl|rfl;refine wk ?_;exact ag I.o;refine wk ?_;exact ag I.o
end
variable {L:List Blk}{K:aeX}
set_option maxHeartbeats 8000000
set_option maxRecDepth 100000
theorem abn(e:aaA u)(h:smU u=true):dnB u.dn/\dnB u.tw/\jm u:=by obtain⟨f,g,d⟩:=aeb e h;refine⟨f.b,g.b,d.1,λa c=>⟨(e.names a c).1,d.2 a c,?_⟩⟩;simp only[smU,ae7]at h;intro v i;have:=((WR h.2.2).2 a c).2 v i;omega
theorem Ty{suf:List Rdn}:∀(bs:List (List UInt8)) (s:TrS),TOk suf s.2 s.1->0<=s.2->(aW suf s bs).2<=s.2+bs.length
 |[],s,_,_=>by show s.2<=s.2+((0:Nat):Int);omega
 |b::bs,s,ht,h0=>by obtain⟨a,d,c,f⟩:=ht.done h0 (rdU b).1.kind (rdU b).1.dn (rdU b).1.tw (rdU b).1.attrs;have:=Ty bs (jv suf s (rdU b).1) a (by unfold jv;omega);have e:aW suf s (b::bs)=aW suf (jv suf s (rdU b).1) bs:=rfl;rw[e,afg];unfold jv at this⊢;omega
theorem abE{vs:List aw}(h:ws.map (λx=>(x.nm,x.av))=vs.map λx=>(x.nm,x.av)):ws.map Jx=vs.map Jx:=by
 have e:∀l:List aw,l.map Jx=(l.map λx=>(x.nm,x.av)).map λp=>(⟨0,p.1,p.2⟩:aw):=λl=>by rw[afj];rfl
 rw[e,e,h]
theorem fC.refl(l:List aw):fC id l l:=⟨λ_ _ _ _ h=>h,by rw[show(l.map λx=>{x with id:=id x.id})=l from by simp]⟩
structure AgM(L:List Blk)(A:Adr)(dp:Nat)(k:Nat)(last:Int)(l:List aw)(S:List Sec)(j:Jst)(recs:List (List UInt8)):Prop where
 m:kJ L A 300 sfx last l S j recs
 d:A.dp=dp
 n:S.length=300
 l0:last<=4200+k
 ln:l.length<=k
 kb:k<=20
 r:zA sfx l recs
 a:∀x∈l,OK x.av
 g:j.gen<=1+4*k
section
variable {L:List Blk}{A:Adr}{dp k:Nat}{last:Int}{l:List aw}{S:List Sec}{j:Jst}{recs:List (List UInt8)}
theorem AgM.short(h:AgM L A dp k last l S j recs):∀b∈s7 (cJ sfx l),b.length<=262144:=λb f=>by obtain⟨x,d,rfl⟩:=ae1.1 f;have c:=Mq d;have:=h.a x c;have:=(Wb (h.m.tok.ok x c) this.1 (by have:=this.2;omega)).2;have e:wa x=⟨1,x.nm,[],x.av⟩:=rfl;rw[e];have:=(h.a x c).2;omega
theorem AgM.step(h:AgM L A dp k last l S j recs){u:Upd}(hd:dnB u.dn)(t:dnB u.tw)(s:jm u)(C:k<20){M:List Blk}{last':Int}{c:List aw}{f:List Sec}{e:Jst}{b:List (List UInt8)}{code:Int}(w:kJ M A 300 sfx last' c f e b)(B:Mv S.length (cC S.length 300) sfx last l u j recs last' c b code)(E:f.length=S.length)(D:e.gen<=j.gen+1)(H:last'<=last+1)(h4:c.length<=l.length+1):AgM M A dp (k+1) last' c f e b:=by have G:=h.n;have F:=h.g;have v:=h.l0;have y:=h.ln;have p:=h.kb;obtain⟨z,q⟩:=h.r.o h.m.tok ah3 (λx i=>⟨h.a x i,h.m.av x i⟩) hd t s ah3 B;exact⟨w,h.d,ah3,ah3,ah3,ah3,z,q,ah3⟩
theorem AgM.check(h:AgM L A dp k last l S j recs){M:List Blk}{d:List Sec}{f:Jst}{b:List (List UInt8)}(n:kJ M A 300 sfx last l d f b)(i:d.length=S.length)(hr:b=recs\/b=s7 (cJ sfx l)):zA sfx l b:=by have e:=h.kb;have g:=h.ln;rcases hr with rfl|rfl;exact h.r;exact zA.dump h.m.tok ah3 (λx c=>⟨h.a x c,h.m.av x c⟩)
theorem zA.again{recs:List (List UInt8)}{l:List aw}{last:Int}(h:zA sfx l recs)(e:TOk sfx last l)(g:recs.length<=4095)(d:∀x∈l,OK x.av):
  zA sfx (aW sfx ([],0) recs).1 recs/\(cJ sfx (aW sfx ([],0) recs).1).map Jx=(cJ sfx l).map Jx/\(∀x∈(aW sfx ([],0) recs).1,OK x.av)/\(aW sfx ([],0) recs).1.length=l.length/\(aW sfx ([],0) recs).2<=4095:=by
 obtain⟨f,a⟩:=h.sim;refine⟨⟨h.ok,⟨id,fC.refl _⟩,h.tok,h.l0⟩,abE (a.ents e h.tok),λx b=>?_,a.len,?_⟩;obtain⟨y,c,rfl⟩:=(Sim.mem a.perm).1 b;exact d y c;have:=Ty recs ([],0) (TOk.nil Js Jt) (agS 0);simp only at this;omega
end
theorem Wr{ws:List aw}{last:Int}{l:List aw}{L0:List Blk}{A:Adr}{S:List Sec}{j:Jst}{recs:List (List UInt8)}(h:kJ L0 A 300 sfx last l S j recs)(e:K (.bool true) L):aeW 16 [.sl (cK ((cJ sfx l).map Jx)) (cJ sfx l).length none,.sl (cK ((cJ sfx l).map Jx)) (cJ sfx l).length none] L K:=by
 have:=Y6 (ws:=(cJ sfx l).map Jx) (c:=none) (c':=none) (L:=L) (K:=K) (by rw[ae6];have:=GT sfx l;have:=h.ln;omega) (λx d=>by obtain⟨y,f,rfl⟩:=ae1.1 d;have a:=Mq f;exact⟨(h.tok.ok y a).m.b,(h.av y a).ok⟩) e
 rw[ae6]at this;exact this
theorem aaq{bs:List Bool}{k:Nat}(h:k<bs.length):(bs.map AV.bool).getD k .undef=.bool (bs.getD k false):=by rw[afh,afh];simp[h]
theorem Sd{us:List Upd}(hn:(us.length:Int)<=9223372036854775807)(hu:∀u∈us,aaA u){bs:List Bool}(a9:(bs.length:Int)<=9223372036854775807){cp cb:Option Nat}{K:aeX}(h:∀M,K (.bool true) M):
  aeW 4 [.sl (us.flatMap cP) us.length cp,.sl (bs.map AV.bool) bs.length cb] [] K:=by
 have kk1:Hid (Ctr Tryz.prog 8 [] (.sl [.sl [.str [100,99],.str [122]] 1 (some 1)] 1 (some 1))):=@hid _ (by intro L K q;exact Wm q);have kk2:Hid (Ctr Tryz.prog 9 [] (.bool true)):=@hid _ (by intro L K q;exact Yk q);have a':=Xc us;obtain⟨US,ai⟩:=aeS (us.flatMap cP);rw[ai]at a'⊢;have G:=hid (λk (q:k<us.length)=>Tl q);rw[ai]at G;obtain⟨BL,Y⟩:=aeS (bs.map AV.bool);obtain⟨bn,P⟩:=aeS (bs.length);have p:=hid (λk (q:k<bs.length)=>aaq q);have b':BL.length=bn:=by rw[<- Y,ae6,P]
 rw[Y,P]at p;rw[Y,P];rw[P]at a9;have R:=hid hu;replace h:=hid h;clear hu ai Y P;refine aeV Eh ?_;refine Uo (n:=300) (by decide) (by decide) (λM dp lp wp m1 m2 m3=>?_);replace m1:=hid m1;clear m2;refine wk ?_;refine cL ?_;refine Tq (suf:=sfx) (cap:=none) (by decide) m1.o (by decide) Nq Js Jt (λM2 A S' j' a1 a2 a3 a4 a5 a6 a7 a8=>?_);have hA:Hid (∃last l S j recs,AgM M2 A dp 0 last l S j recs):=hid ⟨0,[],S',j',[],⟨a4,a1,a5,by decide,ae0 _,by decide,zA.nil Js Jt,ah4,ah3⟩⟩;clear a1 a2 a3 a4 a5 a6 a7 a8 m1 m3;by_cases hl:20<us.length;have g1:(20:Int)<(us.length:Int):=ah3;clear R G hA p;refine wk ?_;exact ag (h.o M2);have g1:¬(20:Int)<(us.length:Int):=ah3;refine wk ?_;refine ao (λm T' L'=>∃(k:Nat) (A:Adr),m=us.length-k/\k<=us.length/\Hid (∃last l S j recs,AgM L' A dp k last l S j recs)/\Hid (M2.length<=L'.length)/\T'=[(37,.int .i64 (k:Int)),(36,.int .i64 us.length),(35,.sl US us.length cp),(7,.int .i64 0),(6,.ptr A.sp 0),(5,.ptr dp 0),(4,.bool false),(0,.sl US us.length cp),(1,.sl BL bn cb)]) ah7 ⟨0,A,rfl,ae5 _,hA,hid (ae0 _),rfl⟩ ?_;clear hA;rintro m _ L' ⟨k,A,I,hk,hP,D,rfl⟩;subst m;by_cases N:k<us.length
 .have j4:(k:Int)<(us.length:Int):=ah3;have j5:IntKind.i64.wrap ((k:Int)+1)=((k+1:Nat):Int):=(by rw[ae ah3 ah3];omega);have e4:k*4+4<=US.length:=ah3;have e5:=G.o k N;have hq:=R.o (us.getD k OA) (by simp[N]);obtain⟨x,hx⟩:=aeS (us.getD k OA);rw[hx]at e5 hq;obtain⟨sx,Z⟩:=aeS (smU x);have kk3:Hid (Ctr Tryz.prog 10 [.agg (cP x)] (.bool sx)):=@hid _ (by intro L K q;exact YZ hq.dn.1 hq.tw.1 hq.attrs (λa ha=>(hq.names a ha).2) (by rw[Z];exact q));cases sx with
  | false =>
    clear hx hq Z hP G R kk1 kk2 p;obtain⟨uk,ud,ut,ua⟩:=x;simp only[cP]at e5 kk3;refine wk ?_;exact ag (h.o _)
  | true =>
    have B:=hid (abn hq Z);obtain⟨last,l,S,j,recs,f⟩:=hP.o;replace f:=hid f;clear hx hq Z G R kk2 hP;obtain⟨uk,ud,ut,ua⟩:=x;simp only[cP]at e5 kk3;refine wk ?_;refine acM (u:=⟨uk,ud,ut,ua⟩) (f.o.m.app _) (by have:=f.o.l0;have:=f.o.kb;omega) (by have:=f.o.ln;have:=f.o.kb;omega) B.o.1 B.o.2.1 B.o.2.2 (λM3 last' l' S2 j2 bk code d1 d2 d3 d4 d5 d6 d7 d8=>?_);have C:=hid (f.o.step B.o.1 B.o.2.1 B.o.2.2 ah3 d1 d2 d3 d4 d5 d6);have H:=hid d8;have bx:j2.gen<=2+4*k:=(by have:=f.o.g;omega);clear d1 d2 d3 d4 d5 d6 d7 d8 f B;obtain⟨cv,al⟩:=aeS (bs.getD k false);by_cases a0:k<bn;rotate_left
    .have c1:¬(k:Int)<(bn:Int):=ah3;have ad:Hid (∃last l S j recs,AgM M3 A dp (k+1) last l S j recs):=hid ⟨_,_,_,_,_,C.o⟩;clear C p;refine wk ?_;exact ah8 ah3 (CutL (b:=by have:=H.o;have:=D.o;simp at *;omega)) ⟨k+1,A,rfl,N,ad,hid (by have:=H.o;have:=D.o;simp at *;omega),rfl⟩
    have c1:(k:Int)<(bn:Int):=ah3;have bo:k<BL.length:=ah3;have e6:=p.o k a0;rw[al]at e6;cases cv with
    | false =>
      have ad:Hid (∃last l S j recs,AgM M3 A dp (k+1) last l S j recs):=hid ⟨_,_,_,_,_,C.o⟩;clear C p al;refine wk ?_;exact ah8 ah3 (CutL (b:=by have:=H.o;have:=D.o;simp at *;omega)) ⟨k+1,A,rfl,N,ad,hid (by have:=H.o;have:=D.o;simp at *;omega),rfl⟩
    | true =>
      clear p al;refine wk ?_;refine ade C.o.m C.o.short (λM4 S4 jn ab e X q2 q3 q4 q5 q6 q7=>?_);obtain⟨y1,ap⟩:=aeS (decide (e=0));obtain⟨y2,a_⟩:=aeS (decide (e=11));have hg:(!y1 && !y2)=false:=by rw[<- ap,<- a_];rcases q5 with e|e<;>simp[e]
      have U:=C.o.check X q2 q4;obtain⟨w1,V,w3,w4,w5⟩:=U.again X.tok X.m.small.2.2 C.o.a;obtain⟨E,F⟩:=aeS (cK ((cJ sfx l').map Jx));obtain⟨T,y⟩:=aeS ((cJ sfx l').length);have kk4:Hid (∀{K:aeX},K (.sl E T none) M4->aeW 12 [.ptr A.sp 0] M4 K):=@hid _ (by intro K q;exact MY X (by rw[F,y];exact q));have kk5:Hid (Ctr Tryz.prog 16 [.sl E T none,.sl E T none] (.bool true)):=@hid _ (by intro L K q;rw[<- F,<- y];exact Wr (ws:=[]) X q);have w:(cJ sfx (aW sfx ([],0) ab).1).length=T:=by have:=congrArg List.length V;rw[ae6,ae6,y]at this;exact this
      have O:=hid q7;have bd:S4.length=300:=(by rw[q2];exact C.o.n);have bl:jn.gen<=3+4*k:=ah3;replace X:=hid X;replace U:=hid U;replace F:=hid F;replace V:=hid V;replace w3:=hid w3;clear q2 q3 q4 q5 q6 q7 y;refine wk ?_;refine cL ?_;refine PB (suf:=sfx) (cap:=none) (by rw[<- C.o.d];exact X.o.m.k) X.o.m.inv (by have:=C.o.kb;omega) (by rw[bd];decide) Nq Js Jt U.o.ok (λW A5 S5 j5 b1 b2 b3 b4 b5 b6 b7 b8 b9=>?_);have an:Hid (∃last l S j recs,AgM W A5 dp (k+1) last l S j recs):=hid ⟨_,_,_,_,_,b4,b1,ah3,ah3,by rw[w4];exact C.o.ln,C.o.kb,w1,w3.o,ah3⟩;have kk6:Hid (∀{K:aeX},K (.sl E T none) W->aeW 12 [.ptr A5.sp 0] W K):=@hid _ (by intro K q;exact MY b4 (by rw[V.o,F.o,w];exact q));have Q:=hid b8;clear b1 b2 b3 b4 b5 b6 b7 b8 b9 kk4 X U F w1 V w3 w4 w5 C w;refine wk ?_;exact ah8 ah3 (CutL (b:=by have:=H.o;have:=D.o;have:=O.o;have:=Q.o;simp at *;omega)) ⟨k+1,A5,rfl,N,an,hid (by have:=H.o;have:=D.o;have:=O.o;have:=Q.o;simp at *;omega),rfl⟩
 have bb:k=us.length:=ah3;subst bb;have j4:¬(us.length:Int)<(us.length:Int):=ah3;obtain⟨last,l,S,j,recs,f⟩:=hP.o;obtain⟨w1,V,w3,w4,w5⟩:=f.r.again f.m.tok f.m.m.small.2.2 f.a;obtain⟨E,F⟩:=aeS (cK ((cJ sfx l).map Jx));obtain⟨T,y⟩:=aeS ((cJ sfx l).length);have kk5:Hid (Ctr Tryz.prog 16 [.sl E T none,.sl E T none] (.bool true)):=@hid _ (by intro L K q;rw[<- F,<- y];exact Wr (ws:=[]) f.m q);have w:(cJ sfx (aW sfx ([],0) recs).1).length=T:=by have:=congrArg List.length V;rw[ae6,ae6,y]at this;exact this
 replace f:=hid f;replace F:=hid F;replace y:=hid y;replace V:=hid V;clear w1 w3 w4 w5 hP G R p kk2;refine wk ?_;refine cL ?_;refine PB (suf:=sfx) (cap:=none) (by rw[<- f.o.d];exact f.o.m.m.k) f.o.m.m.inv (by have:=f.o.kb;have:=f.o.g;omega) (by rw[f.o.n];decide) Nq Js Jt f.o.r.ok (λW A5 S5 j5 b1 b2 b3 b4 b5 b6 b7 b8 b9=>?_);have kk4:Hid (∀{K:aeX},K (.sl E T none) W->aeW 12 [.ptr A5.sp 0] W K):=@hid _ (by intro K q;exact MY b4 (by rw[V.o,F.o,w];exact q));have kk6:Hid (∀{K:aeX},K (.sl E T none) W->aeW 12 [.ptr A.sp 0] W K):=@hid _ (by
  intro K q;have I:=f.o.m;obtain⟨nb,b0,ck,ci,rs,hc⟩:=I.c;have J:∀{i:Nat}{b:Blk},L'[i]?=some b->¬OfJ A.jp A.lp A.wp i->W[i]?=L'[i]?:=λ{i b} e z=>b9 i (aeY.1 e).1 (λe=>z (.inr (.inl e))) (λe=>z (.inr (.inr e)))
  refine Qo (by rw[J I.s (I.m.off I.s ⟨_,rfl,(by intro q;cases q),λs t q=>by cases q⟩).1];exact I.s) (hc.stay λi q=>?_) I.tok I.ln (λx hx=>(I.av x hx).ok) (by rw[F.o,y.o];exact q);have z:=(hc.offJ I.m I.n.2.1 I.n.2.2 q).1;rcases q with e|e|e|⟨x,hx,e⟩;rw[e]at z⊢;exact J hc.v z;rw[e]at z⊢;exact J hc.n z;rw[e]at z⊢;exact J hc.i z;rw[e]at z⊢;exact J (hc.nd x hx) z)
 clear b1 b2 b3 b4 b5 b6 b7 b8 b9 f F y V w;refine wk ?_;exact ag (h.o W)
open Go Go.ChangeShapes
set_option maxHeartbeats 8000000
set_option maxRecDepth 100000
theorem Xz:RdZ Tryz.prog 52 (λl:List Bool=>[.sl (l.map AV.bool) l.length none]) (λl=>(l.length:Int)<=9223372036854775807):=
 (qS Tryz.underlying52 (Rd.z (abz Tryz.underlying4)) ah5).map fun l hl=>⟨l,by have:=hl.1;simp only [maxLen] at this;omega,by
  have e:∀l:List Bool,l.map AV.bool=l.flatMap λr=>[AV.bool r]:=λl=>by
   induction l with
   |nil=>rfl
   |cons a l ih=>rw[afe,afT,ih];rfl
  simp only[e l]⟩
end Go.Proofs.YtajkbcmleihaoaaGreatDoor.Av
