/- Joined texts of the walk, made small by a program. -/
import Derived.Test.YtajkbcmleihaoaaGreatDoorWk13
import Derived.Test.YtajkbcmleihaoaaGreatDoorWk9
import Derived.Test.YtajkbcmleihaoaaGreatDoorWk7
set_option linter.unusedSimpArgs false
set_option linter.unusedVariables false
namespace Go.Proofs.YtajkbcmleihaoaaGreatDoor.Av
open Go
variable {nb bn:Int->Nat}{ck ci jp i n:Nat}{rs:List TKy}{b:Blk}{room rm last':Int}{l':List aw}{recs':List (List UInt8)}{u:Upd}
set_option maxHeartbeats 2000000
set_option maxRecDepth 100000
def avW(v:List Atr):Prop:=qF ⟨1,[],[],v⟩
theorem avW.ok{v:List Atr}(h:avW v):XQ v:=⟨h.1,λa b=>(h.2 a b).2.1⟩
theorem ZG{Q:List Atr->Prop}{suf:List Rdn}{l:List aw}{last k:Int}{dn tn:List Rdn}{v:List Atr}(c:∀x∈l,Q x.av)(f:Q v):∀x∈(doT suf l last k dn tn v).1,Q x.av:=by
 have b:∀(l:List aw) (i:Int),(∀x∈l,Q x.av)->∀x∈yR l i v,Q x.av:=λl i h x a=>by obtain⟨y,e,rfl⟩:=ael.1 a;split;exact f;exact h y e
 have d:∀x∈qu l dn tn,Q x.av:=λx a=>by obtain⟨y,e,rfl⟩:=ael.1 a;split;exact c y e;exact c y e
 unfold doT;split;exact c;split;intro x a;rcases aen.1 a with a|a;exact c x a;rw[aeG.1 a];exact f;split;intro x a;exact c x (ae0.1 a).1;split;exact b l _ c;exact b _ _ d
theorem aU.stay{L M:List Blk}{iv mn mi:Nat}{suf:List Rdn}{last:Int}{l:List aw}(h:aU L iv mn mi nb bn ck ci rs suf last l)(e:∀i,OfT iv mn mi nb l i->M[i]?=L[i]?):aU M iv mn mi nb bn ck ci rs suf last l :=
 ⟨by rw[e iv (.inl rfl)];exact h.v,by rw[e mn (.inr (.inl rfl))];exact h.n,by rw[e mi (.inr (.inr (.inl rfl)))];exact h.i,λx a=>by rw[e _ (.inr (.inr (.inr ⟨x,a,rfl⟩)))];exact h.nd x a,h.keys,h.mem,h.bnd,h.blt⟩
structure Adr where
 sp:Nat
 it:Nat
 iv:Nat
 mn:Nat
 mi:Nat
 jp:Nat
 dp:Nat
 lp:Nat
 wp:Nat
structure jG(L:List Blk)(A:Adr)(lim:Int)(suf:List Rdn)(last:Int)(l:List aw)(S:List Sec)(j:Jst)(recs:List (List UInt8)):Prop where
 c:∃nb bn ck ci rs,aU L A.iv A.mn A.mi nb bn ck ci rs suf last l
 s:L[A.sp]?=some (.cells [.ptr A.iv 0,.ptr A.it 0,.ptr A.jp 0,.bool false])
 t:L[A.it]?=some (.cells [.ptr A.iv 0])
 m:DY L A.jp A.dp A.lp A.wp lim S j recs
 n:A.mn≠A.mi/\A.wp≠A.mn/\A.wp≠A.mi
 tok:TOk suf last l
 l0:0<=last/\last<=900000
 ln:l.length<=900000
 av:∀x∈l,avW x.av
def NoJ(b:Blk):Prop:=∃c,b=.cells c/\c.length≠8/\∀s t,c≠.str s::t
theorem DY.off{L:List Blk}{dp lp wp:Nat}{lim:Int}{S:List Sec}{j:Jst}{recs:List (List UInt8)}(h:DY L jp dp lp wp lim S j recs)(a:L[i]?=some b)(n:NoJ b):¬OfJ jp lp wp i/\i≠dp:=by
 obtain⟨c,rfl,f,g⟩:=n;obtain⟨cp,x,y,z,hd⟩:=h.k.d;obtain⟨ck,m⟩:=h.k.w;have o:=h.k.l;refine⟨?_,λe=>?_⟩;rintro(e|e|e);rw[e,h.jb]at a;simp only[aej,Blk.cells.injEq]at a;exact f (by rw[<- a];rfl);rw[e,o]at a;have h4:=h.k.n4
 match S,h4 with
 | s::t,_ =>
   simp only[aej,Blk.cells.injEq,aex]at a;exact g s _ a.symm
 rw[e,m]at a;simp at a;rw[e,hd]at a;simp only[aej,Blk.cells.injEq]at a;exact f (by rw[<- a];rfl)
theorem aU.offJ{L:List Blk}{iv mn mi:Nat}{suf:List Rdn}{last:Int}{l:List aw}(b:aU L iv mn mi nb bn ck ci rs suf last l){dp lp wp:Nat}{lim:Int}{S:List Sec}{j:Jst}{recs:List (List UInt8)}(h:DY L jp dp lp wp lim S j recs)(o:wp≠mn)(p:wp≠mi)(r:OfT iv mn mi nb l i):¬OfJ jp lp wp i/\i≠dp:=by
 have map:∀{i:Nat}{m:List (AV×AV×Nat)}{c:Nat},L[i]?=some (.map m c)->wp≠i->¬OfJ jp lp wp i/\i≠dp:=λ{i m c} a f=>by obtain⟨cp,x,y,z,hd⟩:=h.k.d;refine⟨?_,λe=>by rw[e,hd]at a;simp at a⟩;rintro(e|e|e);rw[e,h.jb]at a;simp at a;rw[e,h.k.l]at a;simp at a;exact f e.symm
 rcases r with e|e|e|⟨x,g,e⟩;exact h.off (by rw[e];exact b.v) ⟨_,rfl,(by intro q;cases q),λs t q=>by cases q⟩;rw[e];exact map b.n o;rw[e];exact map b.i p;exact h.off (by rw[e];exact b.nd x g) ⟨_,rfl,(by intro q;cases q),λs t q=>by unfold kN at q;cases q⟩
def NoS(b:Blk):Prop:=∃k v t,b=.cells (.int k v::t)/\t.length≠7
theorem NoS.noJ(h:NoS b):NoJ b:=by obtain⟨k,v,t,rfl,h⟩:=h;exact⟨_,rfl,by simp;omega,λs t q=>by cases q⟩
section
variable {L:List Blk}{A:Adr}{lim:Int}{suf:List Rdn}{last:Int}{l:List aw}{S:List Sec}{j:Jst}{recs:List (List UInt8)}
theorem jG.noT(h:jG L A lim suf last l S j recs){nb bn:Int->Nat}{ck ci:Nat}{rs:List TKy}(b:aU L A.iv A.mn A.mi nb bn ck ci rs suf last l){i:Nat}{c:List AV}(a:L[i]?=some (.cells c))(hd:∀d t,c≠dnA d::t):¬OfT A.iv A.mn A.mi nb l i:=by rintro(e|e|e|⟨x,f,e⟩);rw[e,b.v]at a;simp only[aej,Blk.cells.injEq]at a;exact hd _ _ a.symm;rw[e,b.n]at a;simp at a;rw[e,b.i]at a;simp at a;rw[e,b.nd x f]at a;simp only[aej,Blk.cells.injEq]at a;exact hd x.nm _ (by rw[<- a];rfl)
theorem jG.app(h:jG L A lim suf last l S j recs)(X:List Blk):jG (L++X) A lim suf last l S j recs:=by
 obtain⟨nb,bn,ck,ci,rs,g⟩:=h.c;have key:∀{i:Nat}{b:Blk},L[i]?=some b->(L++X)[i]?=L[i]?:=λ{i b} e=>aem (aei.1 e).1
 obtain⟨cp,x,y,z,hd⟩:=h.m.k.d;obtain⟨f,a⟩:=h.m.k.w;refine⟨⟨nb,bn,ck,ci,rs,g.app X⟩,by rw[key h.s];exact h.s,by rw[key h.t];exact h.t,h.m.keep λi q=>?_,h.n,h.tok,h.l0,h.ln,h.av⟩;rcases q with q|q|q|q;rw[q];exact key hd;rw[q];exact key h.m.jb;rw[q];exact key h.m.k.l;rw[q];exact key a
theorem jG.jrn(h:jG L A lim suf last l S j recs){M:List Blk}{g:List Sec}{k:Jst}{recs':List (List UInt8)}(o:DY M A.jp A.dp A.lp A.wp lim g k recs')(f:∀i,¬OfJ A.jp A.lp A.wp i->i<L.length->M[i]?=L[i]?):jG M A lim suf last l g k recs':=by
 obtain⟨nb,bn,ck,ci,rs,d⟩:=h.c;have a:∀{i:Nat}{b:Blk},L[i]?=some b->i<L.length:=λ{i b} e=>(aei.1 e).1
 refine⟨⟨nb,bn,ck,ci,rs,d.stay λi q=>f i (d.offJ h.m h.n.2.1 h.n.2.2 q).1 ?_⟩,?_,?_,o,h.n,h.tok,h.l0,h.ln,h.av⟩;rcases q with e|e|e|⟨x,p,e⟩;rw[e];exact a d.v;rw[e];exact a d.n;rw[e];exact a d.i;rw[e];exact a (d.nd x p);rw[f _ (h.m.off h.s ⟨_,rfl,(by intro q;cases q),λs t q=>by cases q⟩).1 (a h.s)];exact h.s;rw[f _ (h.m.off h.t ⟨_,rfl,(by intro q;cases q),λs t q=>by cases q⟩).1 (a h.t)];exact h.t
theorem jG.tre(h:jG L A lim suf last l S j recs){nb bn:Int->Nat}{ck ci:Nat}{rs:List TKy}(u:aU L A.iv A.mn A.mi nb bn ck ci rs suf last l){M:List Blk}{last':Int}{l':List aw}{c g:Int->Nat}{b f:Nat}{a:List TKy}(o:aU M A.iv A.mn A.mi c g b f a suf last' l')(p:M[A.it]?=some (.cells [.ptr A.iv 0]))(r:aM (OfT A.iv A.mn A.mi nb l) L M)(H:TOk suf last' l')(C:0<=last'/\last'<=900000)(I:l'.length<=900000)(G:∀x∈l',avW x.av):jG M A lim suf last' l' S j recs:=by
 obtain⟨cp,x,y,z,hd⟩:=h.m.k.d;obtain⟨B,J⟩:=h.m.k.w;refine⟨⟨c,g,b,f,a,o⟩,?_,p,h.m.keep λi q=>?_,h.n,H,C,I,G⟩;exact r.get h.s (h.noT u h.s λd t q=>by cases q);have D:¬OfT A.iv A.mn A.mi nb l i:=λe=>by obtain⟨v,E⟩:=u.offJ h.m h.n.2.1 h.n.2.2 e;rcases q with q|q;exact E q;exact v q
 have F:i<L.length:=by rcases q with q|q|q|q;rw[q];exact(aei.1 hd).1;rw[q];exact(aei.1 h.m.jb).1;rw[q];exact(aei.1 h.m.k.l).1;rw[q];exact(aei.1 J).1
 exact r.eq i F D
end
set_option maxHeartbeats 8000000
set_option maxRecDepth 100000
inductive GD (n:Nat) (rm:Int) (suf:List Rdn) (last:Int) (l:List aw) (u:Upd) (j:Jst) (recs:List (List UInt8)):Int->List aw->List (List UInt8)->Int->Prop
 |no (ha:dd suf l u.kind u.dn u.tw≠0):GD n rm suf last l u j recs last l recs (dd suf l u.kind u.dn u.tw)
 |full (ha:dd suf l u.kind u.dn u.tw=0) (r:List (List UInt8)) (hr:r=recs\/r=On (sO suf l)) (why:(wrU u).2≠0\/262144<(wrU u).1.length\/nq n rm j<cC (wrU u).1.length):GD n rm suf last l u j recs last l r 80
 |ok (ha:dd suf l u.kind u.dn u.tw=0) (r:List (List UInt8)) (hr:r=recs\/r=On (sO suf l)) (h1:(wrU u).2=0) (h2:(wrU u).1.length<=262144) (j0:Jst) (h3:(cC (wrU u).1.length:Int)<=nq n rm j0):GD n rm suf last l u j recs (doT suf l last u.kind u.dn u.tw u.attrs).2 (doT suf l last u.kind u.dn u.tw u.attrs).1 (r++[(wrU u).1]) 0
theorem T8{S:List Sec}{j:Jst}{b:List UInt8}(h:(io aA S room j b).1=0):(cC b.length:Int)<=nq S.length room j:=by unfold io at h;split at h;cases h;split at h;cases h;rename_i a;omega
theorem T9{S:List Sec}{j:Jst}{b:List UInt8}(c:b.length<=262144)(h:(io aA S room j b).1≠0):(io aA S room j b).1=11/\nq S.length room j<cC b.length:=by unfold io at h⊢;rw[if_neg ahd]at h⊢;split;rename_i a;exact⟨rfl,a⟩;rename_i a;rw[if_neg a]at h;exact absurd rfl h
section
variable {L:List Blk}{A:Adr}{lim:Int}{suf:List Rdn}{last:Int}{l:List aw}{S:List Sec}{j:Jst}{recs:List (List UInt8)}
theorem TO(w:List aw):(On w).length=w.length:=by simp[On]
theorem Yn(h:jG L A lim suf last l S j recs)(E:last<=800000)(G:l.length<=800000){u:Upd}(g:dnB u.dn)(o:dnB u.tw)(f:qF u){K:aeh}(x:∀(M:List Blk),jG M A lim suf (doT suf l last u.kind u.dn u.tw u.attrs).2 (doT suf l last u.kind u.dn u.tw u.attrs).1 S j recs->(∀(i:Nat) (b:Blk),L[i]?=some b->NoS b->M[i]?=some b)->L.length<=M.length->K (.int .i64 (dd suf l u.kind u.dn u.tw)) M):
  aeg 31 [.ptr A.it 0,.agg (bV u)] L K:=by
 obtain⟨nb,bn,ck,ci,rs,p⟩:=h.c;obtain⟨y,J,I,O⟩:=h.tok.done h.l0.1 u.kind u.dn u.tw u.attrs;have B:=ZG (Q:=avW) (suf:=suf) (last:=last) (k:=u.kind) (dn:=u.dn) (tn:=u.tw) (v:=u.attrs) h.av f;have N:=h.l0;have:=ab0 (K:=K) h.tok h.n.1 ahd h.l0.1 ahd h.t p (k:=u.kind) g o (v:=u.attrs) f.1 (λa q=>(f.2 a q).2.1) λM w H F z D r s m =>
  x M (h.tre p r s m y ahd ahd B) (λi b e C=>m.get e (by obtain⟨k,v,t,rfl,_⟩:=C;exact h.noT p e λd t q=>by cases q)) m.len
 exact this
theorem Ym(h:jG L A lim suf last l S j recs){K:aeh}(b:K (.sl ((On (sO suf l)).map AV.str) (On (sO suf l)).length none) L):aeg 30 [.ptr A.iv 0] L K:=by obtain⟨nb,bn,ck,ci,rs,d⟩:=h.c;have e:=h.ln;exact acW h.tok ahd (λx a=>(h.av x a).ok) (λx a=>h.av x a) d (by rw[TO]at b;exact b)
theorem VQ(h:jG L A lim suf last l S j recs)(a0:last<=800000)(a1:l.length<=800000){u:Upd}(E:dnB u.dn)(G:dnB u.tw)(X:qF u){K:aeh}(w:∀(M:List Blk) last' l' S' j' recs' code,jG M A lim suf last' l' S' j' recs'->GD S.length (bZ S.length lim) suf last l u j recs last' l' recs' code->S'.length=S.length->j'.gen<=j.gen+1->last'<=last+1->l'.length<=l.length+1->(∀(i:Nat) (b:Blk),L[i]?=some b->NoS b->M[i]?=some b)->L.length<=M.length->K (.tup [.int .i64 code,.int .i64 0]) M):
  aeg 11 [.ptr A.sp 0,.agg (bV u)] L K:=by
 have g:jG (L++[.cells (bV u)]) A lim suf last l S j recs:=h.app _;have ad:L.length<=(L++[Blk.cells (bV u)]).length:=ahe;have p:∀(i:Nat) (b:Blk),L[i]?=some b->(L++[Blk.cells (bV u)])[i]?=some b:=λi b e=>aed e
 obtain⟨nb,bn,ck,ci,rs,hc⟩:=g.c;obtain⟨ab,a⟩:=aec (dd suf l u.kind u.dn u.tw);have kk1:Hid (∀{K:aeh},K (.int .i64 ab) (L++[.cells (bV u)])->aeg 13 [.ptr A.iv 0,.agg (bV u)] (L++[.cells (bV u)]) K):=@hid _ (λ{K} q=>yB h.tok ahd hc E G (by rw[a];exact q));obtain⟨⟨body,we⟩,k⟩:∃q,wrU u=q:=⟨_,rfl⟩;have kk2:Hid (Ctr Tryz.prog 14 [.agg (bV u)] (.tup [.str body,.int .i64 we])):=@hid _ (λ{L K} q=>OG E G X (by rw[k];exact q));have av:(L++[Blk.cells (bV u)])[A.sp]?=some (.cells [.ptr A.iv 0,.ptr A.it 0,.ptr A.jp 0,.bool false]):=g.s;have a2:(L++[Blk.cells (bV u)])[A.it]?=some (.cells [.ptr A.iv 0]):=g.t;have T:NoS (.cells (bV u)):=⟨_,_,_,rfl,ahe⟩;by_cases ha:ab=0;rotate_left;have h2:Hid (K (.tup [.int .i64 ab,.int .i64 0]) (L++[.cells (bV u)])):=hid (w _ last l S j recs ab g (by rw[<- a];exact .no (by rw[a];exact ha)) rfl (aga _) ahd (aga _) (λi b e _=>p i b e) ad);have g1:decide (ab=0)=false:=decide_eq_false ha;clear h w hc g a ha k;refine aef iW ?_;exact ag h2.o;subst ha;obtain⟨q,N⟩:=aec ((!decide (we=0) ||decide (262144<(body.length:Int))));cases q with
 | true =>
   have h2:Hid (K (.tup [.int .i64 80,.int .i64 0]) (L++[.cells (bV u)])):=hid (w _ last l S j recs 80 g (.full a recs (.inl rfl) (by
    rw[k];simp only[ae4,aeU,decide_eq_false_iff_not,decide_eq_true_eq]at N;rcases N with N|N
    .exact .inl N
    .exact .inr (.inl (by show 262144<body.length;omega)))) rfl (aga _) ahd (aga _) (λi b e _=>p i b e) ad)
   obtain⟨x1,a9⟩:=aec (decide (we=0));obtain⟨x2,a'⟩:=aec (decide (262144<(body.length:Int)));rw[a9,a']at N;clear h w hc g a k;refine aef iW ?_;exact ag h2.o
 | false =>
   have a_:we=0/\body.length<=262144:=by simp only[agm,Bool.not_eq_false',decide_eq_false_iff_not,decide_eq_true_eq]at N;exact⟨N.1,ahd⟩
   obtain⟨rfl,an⟩:=a_;have g2:¬(262144:Int)<(body.length:Int):=ahd;clear N;have J:=hid an;replace w:=hid w;replace k:=hid k;replace a:=hid a;clear hc;have ai:=hid g;replace h:=hid h;clear g an;refine aef iW ?_;have g:=ai.o;refine PJ g.m (λM S1 j1 r1 R q2 q3 Z q5 C q7=>?_);have P:=g.jrn R C;have a5:L.length<=M.length:=aeR ad q7;have D:Hid (∀(i:Nat) (b:Blk),L[i]?=some b->NoS b->M[i]?=some b):=hid (λi b e f=>by rw[C i (g.m.off (p i b e) f.noJ).1 (aei.1 (p i b e)).1];exact p i b e);have F:M[L.length]?=some (.cells (bV u)):=by have e:(L++[Blk.cells (bV u)])[L.length]?=some (.cells (bV u)):=ahe;rw[C _ (g.m.off e T.noJ).1 ahe];exact e
   have al:=P.s;have ap:=P.t;by_cases V:(io aA S (bZ S.length lim) j body).1=0
   .have hr:=T8 V;rw[V];have B:=hid (λ(z:List Blk) (H:jG z A lim suf (doT suf l last u.kind u.dn u.tw u.attrs).2 (doT suf l last u.kind u.dn u.tw u.attrs).1 S1 j1 r1) (I:∀(i:Nat) (b:Blk),M[i]?=some b->NoS b->z[i]?=some b) (t3:M.length<=z.length)=>w.o z _ _ S1 j1 r1 0 H (by rw[Z V];have:=GD.ok (n:=S.length) (rm:=bZ S.length lim) (last:=last) (j:=j) (recs:=recs) a.o recs (.inl rfl) (by rw[k.o]) (by rw[k.o];exact J.o) j (by rw[k.o];exact hr);rw[k.o]at this;exact this) q2 ahd (h.o.tok.done h.o.l0.1 _ _ _ _).2.2.1 (h.o.tok.done h.o.l0.1 _ _ _ _).2.2.2 (λi b e f=>I i b (D.o i b e f) f) (aeR a5 t3))
    replace P:=hid P;clear w ai kk1 kk2 R Z q5 C hr av a2 p V g;refine wk ?_;refine Yn P.o a0 a1 E G X (λz H I t3=>?_);rw[a.o];have O:=hid (B.o z H I t3);clear B H I t3;refine wk ?_;exact ag O.o
   .obtain⟨f1,f2⟩:=T9 J.o V;rw[f1];obtain⟨z1,z2,z3,_⟩:=q5 V;subst z1 z2 z3;obtain⟨ds,x⟩:=aec (On (sO suf l));have bb:ds.length<=1000000:=by rw[<- x,TO];have:=LX suf l;omega
    have y:=hid P;obtain⟨DA,a6⟩:=aec (ds.map AV.str);have kk3:Hid (∀{K:aeh},K (.sl DA ds.length none) M->aeg 30 [.ptr A.iv 0] M K):=@hid _ (λ{K} q=>Ym P (by rw[x,a6];exact q));replace f2:=hid f2;replace x:=hid x;clear ai kk1 kk2 R Z q5 C av a2 p V g P;refine wk ?_;rw[<- a6];refine Xj y.o.m bb (λz S2 j2 r2 p1 p2 p3 p4 p5 p6 p7=>?_);have d:=y.o.jrn p1 p6;have v:Hid (∀(i:Nat) (b:Blk),L[i]?=some b->NoS b->z[i]?=some b):=hid (λi b e f=>by rw[p6 i (y.o.m.off (D.o i b e f) f.noJ).1 (aei.1 (D.o i b e f)).1];exact D.o i b e f);have Y:z[L.length]?=some (.cells (bV u)):=by rw[p6 _ (y.o.m.off F T.noJ).1 (aei.1 F).1];exact F
    have a3:=d.s;have a4:=d.t;have a8:L.length<=z.length:=aeR a5 p7;obtain⟨e2,W⟩:=aec ((aX aA S1 (bZ S1.length lim) j1 ds).1);rw[W]at p4 p5⊢;by_cases e0:e2=0
    .subst e0;have a7:=p4 rfl;subst a7;replace d:=hid d;clear p1 p4 p5 p6 kk3 y al ap F W;refine wk ?_;refine PJ d.o.m (λM3 S3 j3 r3 R q2 q3 Z q5 C q7=>?_);have r:=d.o.jrn R C;have Q:Hid (∀(i:Nat) (b:Blk),L[i]?=some b->NoS b->M3[i]?=some b):=hid (λi b e f=>by rw[C i (d.o.m.off (v.o i b e f) f.noJ).1 (aei.1 (v.o i b e f)).1];exact v.o i b e f);have bd:M3[L.length]?=some (.cells (bV u)):=by rw[C _ (d.o.m.off Y T.noJ).1 (aei.1 Y).1];exact Y
     have bl:=r.s;have bk:=r.t;by_cases U:(io aA S2 (bZ S2.length lim) j2 body).1=0
     .have hr:=T8 U;rw[p2]at hr;rw[U];have B:=hid (λ(M4:List Blk) (H:jG M4 A lim suf (doT suf l last u.kind u.dn u.tw u.attrs).2 (doT suf l last u.kind u.dn u.tw u.attrs).1 S3 j3 r3) (I:∀(i:Nat) (b:Blk),M3[i]?=some b->NoS b->M4[i]?=some b) (t3:M3.length<=M4.length)=>w.o M4 _ _ S3 j3 r3 0 H (by rw[Z U];have:=GD.ok (n:=S1.length) (rm:=bZ S1.length lim) (last:=last) (j:=j1) (recs:=r1) a.o r2 (.inr x.o.symm) (by rw[k.o]) (by rw[k.o];exact J.o) j2 (by rw[k.o];exact hr);rw[k.o]at this;exact this) ahd ahd (h.o.tok.done h.o.l0.1 _ _ _ _).2.2.1 (h.o.tok.done h.o.l0.1 _ _ _ _).2.2.2 (λi b e f=>I i b (Q.o i b e f) f) ahd)
      replace r:=hid r;clear w R Z q5 C hr a3 a4 U d;refine wk ?_;refine Yn r.o a0 a1 E G X (λM4 H I t3=>?_);rw[a.o];have O:=hid (B.o M4 H I t3);clear B H I t3;refine wk ?_;exact ag O.o
     .obtain⟨f3,f4⟩:=T9 J.o U;rw[f3];obtain⟨z1,z2,z3,_⟩:=q5 U;have O:Hid (K (.tup [.int .i64 80,.int .i64 0]) M3):=hid (w.o M3 last l S3 j3 r3 80 r (.full a.o r3 (.inr (by rw[z1];exact x.o.symm)) (.inr (.inr (by rw[k.o];exact f2.o)))) ahd ahd ahd (aga _) Q.o ahd);clear w R Z q5 C a3 a4 U d r f4;refine wk ?_;exact ag O.o
    .obtain⟨z1,z2,z3⟩:=p5 e0;have O:Hid (K (.tup [.int .i64 80,.int .i64 0]) z):=hid (w.o z last l S2 j2 r2 80 d (.full a.o r2 (.inl z1) (.inr (.inr (by rw[k.o];exact f2.o)))) p2 p3 ahd (aga _) v.o a8);clear w p1 p4 p5 p6 d y al ap W;rcases z3 with rfl|rfl
     .refine wk ?_;exact ag O.o
     .refine wk ?_;exact ag O.o
end
set_option maxHeartbeats 8000000
set_option maxRecDepth 100000
abbrev TrS:=List aw×Int
def JN(suf:List Rdn)(s:TrS)(u:Upd):TrS:=doT suf s.1 s.2 u.kind u.dn u.tw u.attrs
def jx(suf:List Rdn)(s:TrS)(bs:List (List UInt8)):TrS:=bs.foldl (λs b=>JN suf s (rdU b).1) s
def Ud(suf:List Rdn):TrS->List (List UInt8)->Prop
 |_,[]=>True
 |s,b::r=>∃u,rdU b=(u,0)/\dnB u.dn/\dnB u.tw/\qF u/\b.length<=1100000/\dd suf s.1 u.kind u.dn u.tw=0/\Ud suf (JN suf s u) r
def Apt(mn mi i:Nat)(b:Blk):Prop:=(∃c,b=.cells c/\∀d t,c≠dnA d::t)\/(i≠mn/\i≠mi/\∃m k,b=.map m k)
theorem aU.apt{L:List Blk}{iv mn mi:Nat}{suf:List Rdn}{last:Int}{l:List aw}(f:aU L iv mn mi nb bn ck ci rs suf last l)(a:L[i]?=some b)(d:Apt mn mi i b):¬OfT iv mn mi nb l i:=by rintro(e|e|e|⟨x,g,e⟩);rw[e,f.v,aej]at a;rcases d with⟨c,rfl,h⟩|⟨_,_,m,k,rfl⟩;exact h _ _ (Blk.cells.inj a).symm;cases a;rcases d with⟨c,rfl,h⟩|⟨h,_⟩;rw[e,f.n,aej]at a;cases a;exact h e;rcases d with⟨c,rfl,h⟩|⟨_,h,_⟩;rw[e,f.i,aej]at a;cases a;exact h e;rw[e,f.nd x g,aej]at a;rcases d with⟨c,rfl,h⟩|⟨_,_,m,k,rfl⟩;exact h x.nm _ (Blk.cells.inj a).symm;cases a
section
variable {L:List Blk}{it iv mn mi:Nat}{suf:List Rdn}
structure aac(L:List Blk)(it iv mn mi:Nat)(suf:List Rdn)(fin:TrS)(L':List Blk)(s:TrS)(bs:List (List UInt8)):Prop where
 c:∃nb bn ck ci rs,aU L' iv mn mi nb bn ck ci rs suf s.2 s.1
 t:L'[it]?=some (.cells [.ptr iv 0])
 ok:Ud suf s bs
 fn:jx suf s bs=fin
 tok:TOk suf s.2 s.1
 l0:0<=s.2/\s.2+bs.length<=800000
 ln:s.1.length+bs.length<=800000
 av:∀x∈s.1,avW x.av
 keep:∀(i:Nat) (b:Blk),L[i]?=some b->Apt mn mi i b->L'[i]?=some b
 len:L.length<=L'.length
theorem WR{bs:List (List UInt8)}{s:TrS}{cap:Option Nat}(Z:mn≠mi)(R:aac L it iv mn mi suf (jx suf s bs) L s bs){K:aeh}(h:∀L',aac L it iv mn mi suf (jx suf s bs) L' (jx suf s bs) []->K (.tup [.int .i64 bs.length,.int .i64 0]) L'):
  aeg 23 [.ptr it 0,.sl (bs.map AV.str) bs.length cap] L K:=by
 obtain⟨C,A⟩:=aec (jx suf s bs);rw[A]at R h;have V:bs.length<=800000:=by have:=R.ln;omega
 obtain⟨M,g⟩:=aec (bs.map AV.str);obtain⟨n,H⟩:=aec (bs.length);have ab:M.length=n:=by rw[<- g,<- H];simp
 have B:Hid (∀i,i<n->M.getD i .undef=.str (bs.getD i [])):=hid (λi h2=>by rw[<- g,aeA,aeA];simp[H,h2])
 rw[g,H];rw[H]at V h;replace h:=hid h;have D:=hid R;clear R g A;refine aef Js ?_;refine ao (λm T' L'=>∃(k:Nat) (s:TrS),m=n-k/\k<=n/\Hid (aac L it iv mn mi suf C L' s (bs.drop k))/\T'=[(14,.int .i64 (k:Int)),(13,.int .i64 (n:Int)),(12,.sl M n cap),(1,.sl M n cap),(0,.ptr it 0)]) (CutS (b:=aek _)) ⟨0,s,rfl,aep _,D,rfl⟩ ?_;rintro m _ L' ⟨k,O,hm,hk,P,rfl⟩;subst m;by_cases j:k<n;have g1:(k:Int)<(n:Int):=ahd;have g2:IntKind.i64.wrap ((k:Int)+1)=((k+1:Nat):Int):=by rw[ac ahd ahd];omega
 have ad:k<M.length:=ahd;have e1:=B.o k j;obtain⟨b,F⟩:=aec (bs.getD k []);rw[F]at e1;have N:bs.drop k=b::bs.drop (k+1):=by rw[ae3 ahd,<- F];simp[H,j]
 have d:=P.o;rw[N]at d;obtain⟨u,u1,u2,u3,Q,u5,U,u7⟩:=d.ok;have kk1:Hid (Ctr Tryz.prog 58 [.str b] (.tup [.agg (bV u),.int .i64 0])):=@hid _ (by intro L K q;exact acE u5 (by rw[u1];exact q));obtain⟨nb,bn,ck,ci,rs,J⟩:=d.c;have Y:=d.l0;have W:=d.ln;simp only[aeB]at Y W;have p:(L'++[Blk.cells (bV u)])[it]?=some (.cells [.ptr iv 0]):=aed d.t;have y:=J.app [Blk.cells (bV u)];have f:∀L2 w z r x l,aU L2 iv mn mi w z r x l suf (JN suf O u).2 (JN suf O u).1->L2[it]?=some (.cells [.ptr iv 0])->aM (OfT iv mn mi nb O.1) (L'++[Blk.cells (bV u)]) L2->aac L it iv mn mi suf C L2 (JN suf O u) (bs.drop (k+1)):=λL2 w z r x l S T I=>by obtain⟨d1,d2,d3,d4⟩:=d.tok.done d.l0.1 u.kind u.dn u.tw u.attrs;have E:=d.fn;unfold jx at E;rw[aft,u1]at E;refine⟨⟨_,_,_,_,_,S⟩,T,u7,by unfold jx;exact E,d1,⟨by have:=d.l0.1;unfold JN;omega,by unfold JN;omega⟩,by unfold JN;omega,ZG d.av Q,λi b hi F=>?_,?_⟩;have e:=d.keep i b hi F;refine I.get (aed e) (J.apt e F);have:=I.len;have:=d.len;simp at *;omega
 replace f:=hid f;replace d:=hid d;replace J:=hid J;replace y:=hid y;replace p:=hid p;replace U:=hid U;have ai:=hid d.o.len;clear P N u1 u7 h F D B;refine wk ?_;refine ab0 d.o.tok Z ahd d.o.l0.1 ahd p.o y.o (k:=u.kind) u2 u3 (v:=u.attrs) Q.1 (λa q=>(Q.2 a q).2.1) λL2 w z r x l S T I=>?_
 rw[U.o];have G:=hid (f.o L2 w z r x l S T I);clear S T I f d J y p U u2 u3 Q;refine wk ?_;exact ahi ahd (CutL (b:=by have:=G.o.len;omega)) ⟨k+1,_,rfl,j,G,rfl⟩;have X:k=n:=ahd;subst X;have g1:¬(k:Int)<(k:Int):=ahd;have d:=P.o;rw[afI ahd]at d;have e:O=C:=d.fn;subst e;have h2:=hid (h.o L' d);clear P d h D B j hk;refine wk ?_;exact ag h2.o
end
set_option maxHeartbeats 8000000
set_option maxRecDepth 100000
section
variable {L:List Blk}{dp lp wp:Nat}{lim:Int}{S:List Sec}{suf:List Rdn}
theorem JF.apt{L:List Blk}{dp lp wp mn mi:Nat}{lim:Int}{S:List Sec}(h:JF L dp lp wp lim S)(c:wp≠mn)(f:wp≠mi):∀i b,(i=dp\/i=lp\/i=wp)->L[i]?=some b->Apt mn mi i b:=λi b q e=>by
 obtain⟨cp,x,y,z,hd⟩:=h.d;obtain⟨ck,a⟩:=h.w;rcases q with rfl|rfl|rfl;rw[hd,aej]at e;subst e;exact .inl ⟨_,rfl,λd t q=>by cases q⟩;rw[h.l,aej]at e;subst e;refine .inl ⟨_,rfl,λd t q=>?_⟩;have h4:=h.n4
 match S,h4 with
 |s::r,_=>cases q
 rw[a,aej]at e;subst e;exact .inr ⟨c,f,_,_,rfl⟩
theorem VN(h:JF L dp lp wp lim S)(hd:dnB suf)(hk:OkD suf)(ad:suf≠[]){cap:Option Nat}(H:(aX aA S (bZ S.length lim) (bB aA S).1 (bB aA S).2).1=0)(m:Ud suf ([],0) (bB aA S).2){K:aeh}(T:∀(M:List Blk) A O N,A.dp=dp->A.lp=lp->A.wp=wp->jG M A lim suf (jx suf ([],0) (bB aA S).2).2 (jx suf ([],0) (bB aA S).2).1 O N (bB aA S).2->O.length=S.length->N.gen=(bB aA S).1.gen+1->(∀(i:Nat) (b:Blk),L[i]?=some b->NoS b->M[i]?=some b)->L.length<=M.length->K (.tup [.ptr A.sp 0,.int .i64 0]) M):
  aeg 7 [.ptr dp 0,.sl (suf.map aH) suf.length cap] L K:=by
 obtain⟨recs,j⟩:=aec ((bB aA S).2);have an:recs.length<=8192:=by rw[<- j];unfold bB;dsimp only;split;have:=Md (rdC aA) (vL aA S).2.1 (aQ S.length) ((S.drop (aJ S.length (vL aA S).2.2.1)).take (aQ S.length)) [];have h8:=h.n8;have:aQ S.length=(S.length-2)/2:=rfl;simp only[aeY]at *;omega;simp
 obtain⟨L1,D⟩:=aec (L++[.map [] 0,.map [] 0,.cells [dnA suf,.lmap L.length,.lmap (L.length+1),.int .i64 0],.cells [.ptr (L.length+2) 0]]);have g:∀(i:Nat) (b:Blk),L[i]?=some b->L1[i]?=some b:=λi b e=>by rw[<- D,aem (aei.1 e).1];exact e
 obtain⟨cp,x,y,z,n⟩:=h.d;obtain⟨ck,C⟩:=h.w;have G:=h.l;have a:∀i,i=dp\/i=lp\/i=wp->L1[i]?=L[i]?/\i<L.length:=λi q=>by rcases q with rfl|rfl|rfl;exact⟨by rw[g _ _ n,n],(aei.1 n).1⟩;exact⟨by rw[g _ _ G,G],(aei.1 G).1⟩;exact⟨by rw[g _ _ C,C],(aei.1 C).1⟩
 have U:JF L1 dp lp wp lim S:=h.keep λi q=>(a i q).1
 have I:aU L1 (L.length+2) L.length (L.length+1) (λ_=>0) (λ_=>0) 0 0 [] suf 0 []:=by rw[<- D];exact aU.start L suf
 have u:L1[L.length+3]?=some (.cells [.ptr (L.length+2) 0]):=by rw[<- D,aey ahd];simp
 have a4:L1.length=L.length+4:=by rw[<- D];simp
 have kk1:Hid (∀{K:aeh},K (.tup [.ptr (L.length+3) 0,.int .i64 0]) L1->aeg 21 [.sl (suf.map aH) suf.length cap] L K):=@hid _ (λ{K} q=>aaF hd (λe=>absurd hk e) (λe=>absurd e ad) (λ_ _=>by rw[D];exact q));obtain⟨a1,a2,a3⟩:=U.ne;obtain⟨i1,R⟩:=Q5 P6 (WI h.n4) h.n8 H;obtain⟨i3,i4⟩:=Q6 h.all h.n8 H;obtain⟨Y,P⟩:=aec (aX aA S (bZ S.length lim) (bB aA S).1 (bB aA S).2);rw[P]at i1 R i3 i4;have ab:Hid (∀(K2:AV->List Blk->Prop),(∀(M:List Blk) jp c,DY M jp dp lp wp lim Y.2.2 Y.2.1 recs->(∀i,i≠lp->i≠wp->i<L1.length->M[i]?=L1[i]?)->L1.length<=M.length->L1.length<=jp->K2 (.tup [.ptr jp 0,.sl (recs.map AV.str) recs.length c,.int .i64 0]) M)->aeg 22 [.ptr dp 0] L1 K2):=hid (λK2 q=>by obtain⟨cp,x,y,z,n⟩:=U.d;obtain⟨ck,C⟩:=U.w;refine abf n U.l C a1 a2 a3 h.n8 h.n4 h.all h.lm.2 H (λM jp al c r1 r2 r3 r4 r5 r6=>?_);rw[show aX aA S (if(S.length:Int)<lim then(S.length:Int)else lim) (bB aA S).1 (bB aA S).2=Y from P]at r1 r2;rw[j]at i1⊢;refine q M jp c ⟨⟨⟨cp,x,y,z,?_⟩,r2,⟨al,r3⟩,by rw[R];exact h.n4,by rw[R];exact h.n8,i3,h.lm⟩,r1,i1⟩ r4 r5 r6;rw[r4 dp a1 a2 (aei.1 n).1,R];exact n)
 rw[j]at T m;obtain⟨W,f⟩:=aec (jx suf ([],0) recs);rw[f]at T;replace T:=hid T;replace m:=hid m;replace f:=hid f;replace I:=hid I;replace u:=hid u;replace g:=hid g;replace a:=hid a;obtain⟨AL,ai⟩:=aec (suf.map aH);rw[ai]at kk1⊢;have F:=hid (a.o wp (.inr (.inr rfl))).2;clear i1 i3 P H j D U n C G;refine aef Ow ?_;refine ab.o _ (λM jp c B m2 m3 m4=>?_);clear ab kk1;have X:Hid (aac M (L.length+3) (L.length+2) L.length (L.length+1) suf (jx suf ([],0) recs) M ([],0) recs):=hid (by
  have hq:∀i,i=L.length\/i=L.length+1\/i=L.length+2\/i=L.length+3->M[i]?=L1[i]?:=λi q=>by have w1:=(a.o lp (.inr (.inl rfl))).2;have w2:=F.o;exact m2 i ahd ahd ahd
  refine⟨⟨_,_,_,_,_,I.o.stay λi q=>hq i ?_⟩,?_,m.o,rfl,TOk.nil hk ad,⟨agF _,by dsimp only;omega⟩,by simp;omega,ahe,λi b e _=>e,aek _⟩;rcases q with q|q|q|⟨x,hx,q⟩;omega;omega;omega;cases hx;rw[hq _ (.inr (.inr (.inr rfl)))];exact u.o)
 replace B:=hid B;replace m2:=hid m2;refine wk ?_;refine WR ahd X.o (λL' E=>?_);have ap:=E.t;have hS:Hid (∃O N,jG (L'++[.cells [.ptr (L.length+2) 0,.ptr (L.length+3) 0,.ptr jp 0,.bool false]]) ⟨L'.length,L.length+3,L.length+2,L.length,L.length+1,jp,dp,lp,wp⟩ lim suf W.2 W.1 O N recs/\O.length=S.length/\N.gen=(bB aA S).1.gen+1):=hid (by
  obtain⟨nb,bn,ck,ci,rs,hc⟩:=E.c;have Q:=E.l0;have Z:=E.ln;rw[f.o]at hc Q Z;have V:∀{i:Nat}{b:Blk},L'[i]?=some b->(L'++[Blk.cells [.ptr (L.length+2) 0,.ptr (L.length+3) 0,.ptr jp 0,.bool false]])[i]?=some b:=λ{i b} e=>aed e
  have p:wp≠L.length/\wp≠L.length+1:=(by have:=F.o;omega);have J:∀(i:Nat) (b:Blk),M[i]?=some b->Apt L.length (L.length+1) i b->(L'++[Blk.cells [.ptr (L.length+2) 0,.ptr (L.length+3) 0,.ptr jp 0,.bool false]])[i]?=M[i]?:=λi b e q=>by rw[V (E.keep i b e q),e]
  refine⟨Y.2.2,Y.2.1,⟨⟨nb,bn,ck,ci,rs,hc.app _⟩,ahe,V E.t,B.o.keep λi q=>?_,⟨by show L.length≠L.length+1;omega,p⟩,by have:=E.tok;rw[f.o]at this;exact this,⟨Q.1,by have:=Q.2;simp at this;omega⟩,by simp at Z;omega,by have:=E.av;rw[f.o]at this;exact this⟩,R,i4⟩;rcases q with q|q|q;obtain⟨cp,x,y,z,e⟩:=B.o.k.d;rw[q];exact J _ _ e (B.o.k.apt p.1 p.2 _ _ (.inl rfl) e);rw[q];exact J _ _ B.o.jb (.inl ⟨_,rfl,λd t q=>by cases q⟩);rcases q with q|q;rw[q];exact J _ _ B.o.k.l (B.o.k.apt p.1 p.2 _ _ (.inr (.inl rfl)) B.o.k.l);obtain⟨a0,e⟩:=B.o.k.w;rw[q];exact J _ _ e (B.o.k.apt p.1 p.2 _ _ (.inr (.inr rfl)) e))
 have hF:Hid (K (.tup [.ptr L'.length 0,.int .i64 0]) (L'++[.cells [.ptr (L.length+2) 0,.ptr (L.length+3) 0,.ptr jp 0,.bool false]])):=hid (by
  obtain⟨O,N,s1,s2,s3⟩:=hS.o;refine T.o _ ⟨L'.length,L.length+3,L.length+2,L.length,L.length+1,jp,dp,lp,wp⟩ O N rfl rfl rfl s1 s2 s3 (λi b e hb=>?_) (by have:=E.len;simp;omega);have e1:=g.o i b e;have a5:=(aei.1 e).1;have a6:=hb;obtain⟨k,v,t,rfl,ht⟩:=hb;have off:=B.o.off (b:=.cells (.int k v::t)) (i:=i);have e2:M[i]?=some (.cells (.int k v::t)):=by
   rw[m2.o i ?_ ?_ ahd];exact e1;rintro rfl;rw[h.l,aej]at e;have h4:=h.n4
   match S,h4 with
   |s::r,_=>cases Blk.cells.inj e
   rintro rfl;obtain⟨ck,hw⟩:=h.w;rw[hw]at e;cases e
  have e3:=E.keep i _ e2 (.inl ⟨_,rfl,λd t q=>by cases q⟩);rw[aem (aei.1 e3).1];exact e3)
 clear hS E T f m I u g a X B m2 R i4 h F;refine wk ?_;exact ag hF.o
end
variable {L:List Blk}{K:aeh}
set_option maxHeartbeats 8000000
set_option maxRecDepth 100000
def sfx:List Rdn:=[[([100,99],[122])]]
theorem acy:(prS sfx).2=0:=ahf
theorem Uy:OkD sfx:=acy
theorem Uz:sfx≠[]:=by simp[sfx]
theorem Q2:dnB sfx:=⟨by simp[sfx],λr hr=>by simp[sfx]at hr;subst hr;simp⟩
theorem VM(h:K (.sl [.sl [.str [100,99],.str [122]] 1 (some 1)] 1 (some 1)) L):aeg 8 [] L K:=by replace h:=hid h;refine aef LQ ?_;exact ag h.o
def W7(x:aw):aw:={x with id:=0}
theorem PW:∀l:List aw,AV.frzL (dN l)=dN l
 |[]=>rfl
 |x::l=>by have e:dN (x::l)=.int .i64 x.id::dnA x.nm::atR x.av::dN l:=rfl;rw[e];simp only[AV.frzL,AV.frz,b9,atR,nB,PW l]
theorem N6(q:Nat->Bool):∀l:List aw,AV.refsL q (dN l)=true
 |[]=>rfl
 |x::l=>by have a:=N6 q l;unfold dN at a⊢;rw[afe];show AV.refsL q (.int .i64 x.id::dnA x.nm::atR x.av::l.flatMap R9)=true;simp only[AV.refsL,a];unfold atR;simp only[AV.refs,eS,qD];rfl
theorem Rv{L:List Blk}{A:Adr}{lim:Int}{suf:List Rdn}{last:Int}{l:List aw}{S:List Sec}{j:Jst}{recs:List (List UInt8)}(h:jG L A lim suf last l S j recs){K:aeh}(z:K (.sl (dN ((sO suf l).map W7)) (sO suf l).length none) L):
  aeg 12 [.ptr A.sp 0] L K:=by
 obtain⟨nb,bn,ck,ci,rs,D⟩:=h.c;have k:=h.tok;have t:=k.sok.m.b;have W:=h.ln;obtain⟨s,E⟩:=aec (aO l suf);obtain⟨ws,a⟩:=aec (sO suf l);have u:=Wq k;rw[E,a]at u;have V:ws.length<=l.length:=by rw[<- a];exact LX _ _
 have r:∀x∈ws,x∈l:=λx f=>Qt (by rw[a];exact f)
 rw[a]at z;have kk1:Hid (∀{K:aeh},K (dnA suf) L->aeg 33 [.ptr A.iv 0] L K):=@hid _ (by intro K q;exact Yb t D q);have kk2:Hid (∀{K:aeh},K (.int .i64 s) L->aeg 26 [.ptr A.iv 0,dnA suf] L K):=@hid _ (by intro K q;exact l8 t k D (by rw[E];exact q))
 obtain⟨w,g⟩:=aec ((ws.map (·.id)).map (AV.int .i64));have kk3:Hid (∀{K:aeh},K (.sl w ws.length none) L->aeg 32 [.ptr A.iv 0,.int .i64 s,.int .i64 2] L K):=@hid _ (by intro K q;exact JJ k ahd D (by rw[u,aeu,g];exact q))
 have M:w.length=ws.length:=by rw[<- g];simp
 have F:Hid (∀i,i<ws.length->w.getD i .undef=.int .i64 (ws.getD i default).id):=hid (λi R=>by rw[<- g,aeA,aeA];simp[R])
 have B:∀x∈l,XQ x.av:=λx f=>(h.av x f).ok
 have J:Hid (∀x∈ws,∀{X:List Blk}{K:aeh},K (.tup [dnA x.nm,.sl (bh x.av) x.av.length none]) (L++X)->aeg 34 [.ptr A.iv 0,.int .i64 x.id] (L++X) K):=hid (λx f {X K} q=>by refine SC k B (D.app X) (λe=>?_) (λy e=>?_);rw[k.ent (r x f)]at e;cases e;rw[k.ent (r x f)]at e;cases e;exact q)
 have N:∀X:List Blk,(L++X)[A.sp]?=some (.cells [.ptr A.iv 0,.ptr A.it 0,.ptr A.jp 0,.bool false]):=λX=>aed h.s
 have U:=h.s;replace z:=hid z;clear D k t E a u g r B h;refine aef Jt ?_;clear kk1 kk2 kk3;refine cB (l:=[]) (n:=0) 3 3 rfl (aeW 3).symm ?_;refine ao (λm T' L'=>∃(j:Nat) (C:List AV) (X:List Blk),m=ws.length-j/\j<=ws.length/\Hid (C=dN ((ws.take j).map W7))/\T'=[(24,.int .i64 (j:Int)),(23,.int .i64 ws.length),(22,.sl w ws.length none),(3,.gsl C j L.length 3),(0,.ptr A.sp 0)]/\L'=L++(.spare j 3::X)) ahh ⟨0,[],[],rfl,aep _,hid rfl,rfl,ahe⟩ ?_;rintro m _ _ ⟨j,C,X,Y,hj,v,rfl,rfl⟩;subst m;by_cases d:j<ws.length;have O:(j:Int)<(ws.length:Int):=ahd;have Z:IntKind.i64.wrap ((j:Int)+1)=((j+1:Nat):Int):=by rw[ac ahd ahd];omega
 have Q:=F.o j d;have P:j<w.length:=ahd;have p:ws.getD j default∈ws:=by simp[d]
 obtain⟨x,f⟩:=aec (ws.getD j default);rw[f]at Q p;have kk1:=@hid _ (λ{X:List Blk}{K:aeh}=>J.o x p (X:=X) (K:=K));have G:Hid (C++[.int .i64 0,dnA x.nm,.sl (bh x.av) x.av.length none]=dN ((ws.take (j+1)).map W7)):=hid (by have:ws[j]=x:=(by rw[<- f];simp[d]);rw[aeM d,this,aeD,XE,<- v.o];rfl)
 have f1:=b9 x.nm;have f2:=nB x.av;clear f p v z J;refine wk ?_;exact ahi ahd ahg ⟨j+1,_,_,rfl,d,G,rfl,rfl⟩;have H:j=ws.length:=ahd;subst H;have O:¬(ws.length:Int)<(ws.length:Int):=ahd;rw[aeI]at v;have I:=v.o;subst I;have T:=PW (ws.map W7);clear v;refine wk ?_;refine aB ?_;simp only[AV.frz,T];refine af ?_ z.o;simp only[AV.refs,N6]
theorem YB{ws:List aw}{c c':Option Nat}(A:ws.length<=1000000)(n:∀x∈ws,dnB x.nm/\XQ x.av)(h:K (.bool true) L):aeg 16 [.sl (dN ws) ws.length c,.sl (dN ws) ws.length c'] L K:=by
 obtain⟨E,g⟩:=aec (dN ws);have v:E.length=ws.length*3:=by rw[<- g];exact XC ws
 have d:=hid (λk (q:k<ws.length)=>XD q);rw[g]at d⊢;have e:=hid n;replace h:=hid h;clear g n;refine aef Ox ?_;refine ao (λm T' L'=>∃(k:Nat),m=ws.length-k/\k<=ws.length/\T'=[(13,.int .i64 (k:Int)),(12,.int .i64 ws.length),(4,.bool false),(0,.sl E ws.length c),(1,.sl E ws.length c')]/\L=L') (CutS (b:=aek _)) ⟨0,rfl,aep _,rfl,rfl⟩ ?_;rintro m _ _ ⟨k,w,r,rfl,rfl⟩;subst m;by_cases a:k<ws.length;have t:(k:Int)<(ws.length:Int):=ahd;have y:IntKind.i64.wrap ((k:Int)+1)=((k+1:Nat):Int):=by rw[ac ahd ahd];omega
 obtain⟨x,f⟩:=aec (ws.getD k default);obtain⟨u,p,s⟩:=d.o k a;rw[f]at u p s;obtain⟨l,j⟩:=e.o x (by rw[<- f];simp[a]);have kk1:Hid (Ctr Tryz.prog 46 [dnA x.nm,dnA x.nm] (.bool true)):=@hid _ (by intro L K q;exact aaV l.1 l.2 q);have kk2:Hid (Ctr Tryz.prog 47 [atR x.av,atR x.av] (.bool true)):=@hid _ (by intro L K q;exact acC j.1 j.2 q);have B:k*3+1<E.length:=ahd;have z:k*3+2<E.length:=ahd;clear f l j h d e;refine wk ?_;exact ahi ahd (CutL (b:=aek _)) ⟨k+1,rfl,a,rfl,rfl⟩;have i:k=ws.length:=ahd;subst i;have t:¬(ws.length:Int)<(ws.length:Int):=ahd;clear a r d e;refine wk ?_;exact ag h.o
theorem V2{r:List UInt8}(h:DM aA GX=some r):r.getD 0 0=0:=by unfold DM at h;split at h;cases h;rfl;cases h
theorem adw:rdH aA GX=none:=by
 unfold rdH;cases h:DM aA GX with
 |none=>rfl
 |some r=>exact if_pos (.inl (by rw[V2 h];decide))
theorem adx:rdC aA GX=none:=by
 unfold rdC;cases h:DM aA GX with
 |none=>rfl
 |some r=>exact if_pos (by rw[V2 h];decide)
theorem Py{m:Nat}:∀{l:List Sec},(∀s∈l,rdC aA s=none)->qp aA m l=m
 |[],_=>rfl
 | s::l,h=>by
   have a:=Py (m:=m) (l:=l) λs b=>h s (afZ _ b)
   unfold qp at a⊢;rw[aft,h s List.mem_cons_self];exact a
abbrev Wy(n:Nat):List Sec:=List.replicate n GX
theorem aaJ(h:4<=n):bB aA (Wy n)=(⟨0,1,-1,0,0⟩,[]):=by
 have a:∀i,i<2->(Wy n).getD i []=GX:=λi d=>by simp[show i<n by omega]
 have c:vL aA (Wy n)=(0,0,1,-1):=by unfold vL Gc;rw[a 0 (by decide),a 1 (by decide),adw]
 unfold bB;rw[c,Py λs b=>by have:=afM (agp b);rw[ag5 this];exact adx]
 rfl
theorem aaY(h:2<=room):(aX aA (Wy n) room ⟨0,1,-1,0,0⟩ []).1=0:=by unfold aX;rw[if_neg ahe,if_neg (by simp[bm];omega)]
theorem SU{S:List Sec}{j:Jst}{recs:List (List UInt8)}(a:Qx aA S j recs)(i:j.gen<4294967295):(aX aA S S.length ⟨j.gen,j.half,j.slot,0,0⟩ recs).1=0:=by
 have g:=a.used;have h4:=a.n4;have f:=a.half;have d:aQ S.length=(S.length-2)/2:=rfl;have h:aJ S.length (1-j.half)<=2+aQ S.length:=by unfold aJ;rcases(by omega:j.half=0\/j.half=1)with e|e<;>rw[e]<;>simp
 unfold aX;rw[if_neg (by rw[Bool.not_eq_true,afY];intro b c;have:=a.bd b c;simp;omega),if_neg (by simp only[not_or,Nat.not_lt];omega)]
section
variable {L:List Blk}{dp lp wp:Nat}{lim:Int}{S:List Sec}{suf:List Rdn}
theorem TP{n:Nat}(g:4<=n)(h:n<=8192){K:aeh}(j:∀(M:List Blk) dp lp wp,JF M dp lp wp n (Wy n)->(∀i,i<L.length->M[i]?=L[i]?)->L.length<=M.length->K (.ptr dp 0) M):aeg 6 [.int .i64 (n:Int)] L K:=by refine acX ahd ahd (λM dp lp wp a b c f e _ _ _ _ _ _=>?_);rw[Int.toNat_natCast]at a b;exact j M dp lp wp ⟨⟨_,_,_,_,by rw[af3];exact a⟩,b,⟨_,c⟩,by simpa using g,by simpa using h,λs d=>by rw[ag5 d];rfl,ahd⟩ f e
theorem SM{n:Nat}(h4:4<=n)(h:JF L dp lp wp lim (Wy n))(p:2<=lim)(hd:dnB suf)(j:OkD suf)(d:suf≠[]){cap:Option Nat}{K:aeh}(o:∀(M:List Blk) A a c,A.dp=dp->A.lp=lp->A.wp=wp->jG M A lim suf 0 [] a c []->a.length=n->c.gen=1->(∀(i:Nat) (b:Blk),L[i]?=some b->NoS b->M[i]?=some b)->L.length<=M.length->K (.tup [.ptr A.sp 0,.int .i64 0]) M):
  aeg 7 [.ptr dp 0,.sl (suf.map aH) suf.length cap] L K:=by
 have e:=aaJ h4;refine VN h hd j d (by rw[e];exact aaY (by unfold bZ;rw[af3];split<;>omega)) (by rw[e];exact trivial) (λM A a c k l a3 a4 a5 f g m=>?_);rw[e]at a4 f;exact o M A a c k l a3 a4 (by rw[a5,af3]) f g m
theorem YC{j:Jst}{recs:List (List UInt8)}(h:JF L dp lp wp lim S)(k:Qx aA S j recs)(o:j.gen<4294967295)(t:(S.length:Int)<=lim)(hd:dnB suf)(n:OkD suf)(f:suf≠[])(a:Ud suf ([],0) recs){cap:Option Nat}{K:aeh}(s:∀(M:List Blk) A c d,A.dp=dp->A.lp=lp->A.wp=wp->jG M A lim suf (jx suf ([],0) recs).2 (jx suf ([],0) recs).1 c d recs->c.length=S.length->d.gen=j.gen+1->(∀(i:Nat) (b:Blk),L[i]?=some b->NoS b->M[i]?=some b)->L.length<=M.length->K (.tup [.ptr A.sp 0,.int .i64 0]) M):
  aeg 7 [.ptr dp 0,.sl (suf.map aH) suf.length cap] L K:=by
 have e:=WJ P6 k h.n8;have m:bZ S.length lim=(S.length:Int):=by unfold bZ;split<;>omega
 refine VN h hd n f (by rw[e,m];exact SU k o) (by rw[e];exact a) (λM A c d p q a3 a4 a5 g l r=>?_);rw[e]at a4 g;exact s M A c d p q a3 a4 a5 g l r
end
theorem Vo{L:List Blk}{dp lp wp:Nat}{lim:Int}{S:List Sec}(h:JF L dp lp wp lim S){k t a:Int}{K:aeh}(j:∀(M:List Blk),JF M dp lp wp lim S->L.length<=M.length->K (.tup []) M):aeg 24 [.ptr dp 0,.agg [.int .u64 k,.int .i64 t,.int .i64 a]] L K:=by obtain⟨cp,x,y,z,hd⟩:=h.d;obtain⟨ck,b⟩:=h.w;obtain⟨f,g,n3⟩:=h.ne;refine ZM hd h.l b h.n8 (λM i c e=>j M ⟨⟨cp,x,y,z,i⟩,?_,⟨ck,?_⟩,h.n4,h.n8,h.all,h.lm⟩ e);rw[c lp (Ne.symm f) (aei.1 h.l).1];exact h.l;rw[c wp (Ne.symm g) (aei.1 b).1];exact b
def u1:Upd:=⟨1,sfx,[],[]⟩
def u1S:List UInt8:=[48,11,2,1,1,4,4,100,99,61,122,48,0]
theorem VI:wrU u1=(u1S,0):=ahf
theorem Yh:qF u1:=⟨by simp[u1],by simp[u1]⟩
theorem ab5:rdU u1S=(u1,0):=by have:=adv Yh (by rw[VI]);rw[VI]at this;exact this
theorem Yi:dd sfx ([]:List aw) u1.kind u1.dn u1.tw=0:=ahf
def l1:List aw:=[⟨1,sfx,[]⟩]
theorem ab6:doT sfx ([]:List aw) 0 u1.kind u1.dn u1.tw u1.attrs=(l1,1):=by unfold doT;rw[if_neg (λe=>e Yi),if_pos (show u1.kind=1 from rfl)];rfl
theorem ab1:dnB u1.tw:=⟨by simp[u1],by simp[u1]⟩
theorem abc{L:List Blk}{dp lp wp:Nat}{lim:Int}{S:List Sec}{j:Jst}{recs:List (List UInt8)}(h:DY L jp dp lp wp lim S j recs)(d:(S.length:Int)<=lim):(aQ S.length:Int)-j.used<=nq S.length (bZ S.length lim) j:=by
 have c:=h.inv.half;have h4:=h.k.n4;have a:bZ S.length lim=(S.length:Int):=by unfold bZ;split<;>omega
 have f:aJ S.length j.half+aQ S.length<=S.length:=by have b:aQ S.length=(S.length-2)/2:=rfl;unfold aJ;rcases(by omega:j.half=0\/j.half=1)with e|e<;>rw[e]<;>omega
 rw[a];unfold nq;omega
theorem Z5(suf:List Rdn):sO suf []=[]:=by unfold sO;split;simp[scL];rfl
theorem acv{j:Jst}{code:Int}(h:GD n rm sfx 0 [] u1 j [] last' l' recs' code)(a:1<=nq n rm j):code=0/\recs'=[u1S]/\l'=l1/\last'=1:=by
 cases h with
 |no ha=>exact absurd Yi ha
 | full ha r hr why =>
   rw[VI]at why;rcases why with h|h|h
   .exact absurd rfl h
   .exact absurd h (by decide)
   .have:cC u1S.length=1:=(by decide);dsimp only at h;omega
 | ok ha r hr h1 h2 j0 h3 =>
   rw[ab6,VI];have:r=[]:=by
    rcases hr with e|e
    .exact e
    .rw[e,Z5];rfl
   rw[this];exact⟨rfl,rfl,rfl,rfl⟩
theorem abe:aO l1 sfx=1:=ahf
theorem Zc:Ud sfx ([],0) [u1S]/\jx sfx ([],0) [u1S]=(l1,1):=by refine⟨⟨u1,ab5,Q2,ab1,Yh,by decide,Yi,trivial⟩,?_⟩;unfold jx JN;rw[aft,agD,ab5];exact ab6
theorem Vs(h:∀M,K (.bool true) M):aeg 9 [] L K:=by
 have kk1:Hid (Ctr Tryz.prog 8 [] (.sl [.sl [.str [100,99],.str [122]] 1 (some 1)] 1 (some 1))):=@hid _ (by intro L K q;exact VM q);replace h:=hid h;refine aef MB ?_;refine TP (n:=40) (by decide) (by decide) (λM dp lp wp i _ Z=>?_);replace i:=hid i;refine wk ?_;refine dT ?_;refine SM (suf:=sfx) (cap:=none) (by decide) i.o (by decide) Q2 Uy Uz (λM2 A W j' g E a3 a4 a5 f C S=>?_);have l:=hid a4;replace g:=hid g;replace a5:=hid a5;replace f:=hid f;clear E a3 a4 C;refine wk ?_;refine dT ?_;refine VQ (u:=u1) l.o (by decide) (by decide) Q2 ab1 Yh (λM3 last' l' D P r code B z x T N J F I=>?_);obtain⟨rfl,rfl,rfl,rfl⟩:=acv z (by have:=abc l.o.m (by rw[a5.o];decide);have hu:=l.o.m.inv.used.1;rw[a5.o]at this⊢;have e:aQ 40=19:=(by decide);have e2:bm []=0:=rfl;omega)
 have t:=hid B;have v:=hid (show D.length=40 by rw[x,a5.o]);have p:=hid (show P.gen<=2 by have:=f.o;omega);clear B z x T N J F I;refine wk ?_;refine Vo (by rw[<- g.o];exact t.o.m.k) (λX j _=>?_);replace j:=hid j;refine wk ?_;refine dT ?_;refine YC (suf:=sfx) (cap:=none) j.o t.o.m.inv (by have:=p.o;omega) (by rw[v.o];decide) Q2 Uy Uz Zc.1 (λb y S3 Y V R U a H Q G b8=>?_);rw[Zc.2]at a;obtain⟨nb,bn,ck,ci,rs,w⟩:=a.c;have O:=a.s;have kk2:Hid (∀{K:aeh},K (.int .i64 1) b->aeg 25 [.ptr y.iv 0] b K):=@hid _ (by intro K q;exact acu w q);have kk3:Hid (∀{K:aeh},K (.int .i64 1) b->aeg 26 [.ptr y.iv 0,.sl [.sl [.str [100,99],.str [122]] 1 (some 1)] 1 (some 1)] b K):=@hid _ (by intro K q;exact dT (l8 (d:=sfx) (cap:=none) Q2 a.tok w (by rw[abe];exact q)));clear V R U a H Q G b8 j t l i g a5 f S w;refine wk ?_;exact ag (h.o b)
theorem XM(h:K (.bool true) L):aeg 9 [] L K:=Sw (Vs λ_=>rfl) h
set_option maxHeartbeats 8000000
set_option maxRecDepth 100000
theorem Yt(d:XT u)(h:smU u=true):dnB u.dn/\dnB u.tw/\qF u:=by obtain⟨f,g,e⟩:=adu d h;refine⟨f.b,g.b,e.1,λa c=>⟨(d.names a c).1,e.2 a c,?_⟩⟩;simp only[smU,aeq]at h;intro v i;have:=((Wh h.2.2).2 a c).2 v i;omega
section
variable {L:List Blk}{A:Adr}{lim:Int}{suf:List Rdn}{last:Int}{l:List aw}{S:List Sec}{j:Jst}{recs:List (List UInt8)}
theorem Yu(h:jG L A lim suf last l S j recs){n:Int}(F:n<=9000){K:aeh}(C:∀(M:List Blk),jG M A (if n>0 then n else 0) suf last l S j recs->(∀(i:Nat) (b:Blk),L[i]?=some b->NoS b->M[i]?=some b)->L.length<=M.length->K (.tup []) M):aeg 15 [.ptr A.dp 0,.int .i64 n] L K:=by
 obtain⟨cp,x,y,z,hd⟩:=h.m.k.d;obtain⟨ck,v⟩:=h.m.k.w;obtain⟨nb,bn,p,ci,rs,r⟩:=h.c;obtain⟨u,B,n3⟩:=h.m.k.ne;obtain⟨n4,E,D⟩:=h.m.ne;have g:=(aei.1 hd).1;have a:∀(i:Nat) (b:Blk),i≠A.dp->(L.set A.dp b)[i]?=L[i]?:=λi b q=>aeo (Ne.symm q)
 have f:∀{i:Nat}{b:Blk},L[i]?=some b->NoJ b->i≠A.dp:=λe o=>(h.m.off e o).2
 refine ZH hd (C _ ⟨⟨nb,bn,p,ci,rs,r.stay λi q=>a i _ (r.offJ h.m h.n.2.1 h.n.2.2 q).2⟩,?_,?_,⟨⟨⟨cp,x,y,z,aeQ g⟩,?_,⟨ck,?_⟩,h.m.k.n4,h.m.k.n8,h.m.k.all,by split<;>omega⟩,?_,h.m.inv⟩,h.n,h.tok,h.l0,h.ln,h.av⟩ (λi b e o=>?_) ahe);rw[a _ _ (f h.s ⟨_,rfl,(by intro q;cases q),λs t q=>by cases q⟩)];exact h.s;rw[a _ _ (f h.t ⟨_,rfl,(by intro q;cases q),λs t q=>by cases q⟩)];exact h.t;rw[a _ _ (Ne.symm u)];exact h.m.k.l;rw[a _ _ (Ne.symm B)];exact v;rw[a _ _ n4];exact h.m.jb;rw[a _ _ (f e o.noJ)];exact e
end
theorem Xe{lim:Int}{j:Jst}(a:lim<=2):nq n (bZ n lim) j<=0:=by
 have:bZ n lim<=2:=by unfold bZ;split<;>omega
 have b:2<=aJ n j.half:=by unfold aJ;omega
 unfold nq;omega
theorem GD.none{suf:List Rdn}{last:Int}{l:List aw}{j:Jst}{recs:List (List UInt8)}{code:Int}(h:GD n rm suf last l u j recs last' l' recs' code)(a:∀j,nq n rm j<=0):last'=last/\l'=l/\code=if dd suf l u.kind u.dn u.tw=0 then 80 else dd suf l u.kind u.dn u.tw:=by
 cases h with
 |no ha=>exact⟨rfl,rfl,by rw[if_neg ha]⟩
 |full ha r hr why=>exact⟨rfl,rfl,by rw[if_pos ha]⟩
 | ok ha r hr h1 h2 j0 h3 =>
   have:=GN (wrU u).1.length;have:=a j0;omega
theorem GD.code{suf:List Rdn}{last:Int}{l:List aw}{j:Jst}{recs:List (List UInt8)}{code:Int}(h:GD n rm suf last l u j recs last' l' recs' code):code=dd suf l u.kind u.dn u.tw\/code=80:=by
 cases h with
 |no ha=>exact .inl rfl
 |full ha r hr why=>exact .inr rfl
 |ok ha r hr h1 h2 j0 h3=>exact .inl ha.symm
theorem SH{us:List Upd}(hn:(us.length:Int)<=9223372036854775807)(hu:∀u∈us,XT u)(d:XT u){lm:Int}{cp:Option Nat}{K:aeh}(h:∀M,K (.bool true) M):
  aeg 3 [.sl (us.flatMap bV) us.length cp,.agg (bV u),.int .i64 lm] [] K:=by
 have kk1:Hid (Ctr Tryz.prog 8 [] (.sl [.sl [.str [100,99],.str [122]] 1 (some 1)] 1 (some 1))):=@hid _ (by intro L K q;exact VM q);have kk2:Hid (Ctr Tryz.prog 9 [] (.bool true)):=@hid _ (by intro L K q;exact XM q);obtain⟨sm,F⟩:=aec (smU u);have kk3:Hid (Ctr Tryz.prog 10 [.agg (bV u)] (.bool sm)):=@hid _ (by intro L K q;exact SJ d.dn.1 d.tw.1 d.attrs (λa ha=>(d.names a ha).2) (by rw[F];exact q));have b3:=WC us;obtain⟨US,Z⟩:=aec (us.flatMap bV);rw[Z]at b3⊢;have r:=hid (λk (q:k<us.length)=>SF q);rw[Z]at r;have t:=hid hu;have D:=hid d;replace h:=hid h;clear hu Z d;refine aef Gr ?_;refine TP (n:=400) (by decide) (by decide) (λM dp lp wp m1 m2 m3=>?_);have a9:=hid (m2 0 ahe);replace m1:=hid m1;clear m2;refine wk ?_;refine dT ?_;refine SM (suf:=sfx) (cap:=none) (by decide) m1.o (by decide) Q2 Uy Uz (λM2 A S' j' a1 a2 a3 a4 a5 a6 a7 a8=>?_);have v:=a7 0 _ a9.o ⟨_,_,_,rfl,ahe⟩;have hA:Hid (jG M2 A 400 sfx 0 [] S' j' []/\S'.length=400):=hid ⟨a4,a5⟩;replace a1:=hid a1;replace v:=hid v;have a_:=v.o;clear a2 a3 a4 a5 a6 a7 a8 m1 m3 a9;by_cases hl:15<us.length;have g1:(15:Int)<(us.length:Int):=ahd;clear t D r hA v F;refine wk ?_;exact ag (h.o M2);have g1:¬(15:Int)<(us.length:Int):=ahd;cases sm with
 | false =>
   clear t D r hA v F;refine wk ?_;exact ag (h.o M2)
 |true =>
 refine wk ?_;have P:Hid (∃last l S j recs,jG M2 A 400 sfx last l S j recs/\S.length=400/\last<=(0:Nat)/\l.length<=0/\M2[0]?=some (.cells (bV u))):=hid ⟨0,[],S',j',[],hA.o.1,hA.o.2,agF _,aek _,v.o⟩;clear hA v a_;refine ao (λm T' L'=>∃(k:Nat),m=us.length-k/\k<=us.length/\Hid (∃last l S j recs,jG L' A 400 sfx last l S j recs/\S.length=400/\last<=(k:Nat)/\l.length<=k/\L'[0]?=some (.cells (bV u)))/\Hid (M2.length<=L'.length)/\T'=[(45,.int .i64 (k:Int)),(44,.int .i64 us.length),(43,.sl US us.length cp),(9,.int .i64 0),(8,.ptr A.sp 0),(7,.ptr dp 0),(6,.bool false),(4,.ptr 0 0),(0,.sl US us.length cp),(1,.agg (bV u)),(2,.int .i64 lm)]) ahh ⟨0,rfl,aep _,P,hid (aek _),rfl⟩ ?_;rintro m _ L' ⟨k,hm,hk,hP,ai,rfl⟩;subst m;by_cases U:k<us.length;have j4:(k:Int)<(us.length:Int):=ahd;have j5:IntKind.i64.wrap ((k:Int)+1)=((k+1:Nat):Int):=by rw[ac ahd ahd];omega
 have e4:k*4+4<=US.length:=ahd;have e5:=r.o k U;have d:=t.o (us.getD k NZ) (by simp[U]);obtain⟨x,hx⟩:=aec (us.getD k NZ);rw[hx]at e5 d;obtain⟨sx,O⟩:=aec (smU x);have kk3:Hid (Ctr Tryz.prog 10 [.agg (bV x)] (.bool sx)):=@hid _ (by intro L K q;exact SJ d.dn.1 d.tw.1 d.attrs (λa ha=>(d.names a ha).2) (by rw[O];exact q));cases sx with
 | false =>
   clear hx d O hP r t D kk1 kk2;obtain⟨uk,ud,ut,ua⟩:=x;simp only[bV]at e5 kk3;refine wk ?_;exact ag (h.o _)
 | true =>
   have f:=hid (Yt d O);obtain⟨last,l,S,j,recs,N,p2,p3,p4,p5⟩:=hP.o;have a':Hid (∀(T:List Blk) last' l' S2 j2 g,jG T A 400 sfx last' l' S2 j2 g->S2.length=S.length->last'<=last+1->l'.length<=l.length+1->(∀(i:Nat) (b:Blk),(L'++[Blk.cells (bV x)])[i]?=some b->NoS b->T[i]?=some b)->∃last l S j recs,jG T A 400 sfx last l S j recs/\S.length=400/\last<=((k+1:Nat):Int)/\l.length<=k+1/\T[0]?=some (.cells (bV u))):=hid (λT last' l' S2 j2 g q6 q7 q8 q9 bs=>⟨last',l',S2,j2,g,q6,ahd,ahd,ahd,bs 0 _ (aed p5) ⟨_,_,_,rfl,ahe⟩⟩);have J:=hid N;have z:last<=800000/\l.length<=800000:=ahd;clear hx d O r t D kk1 kk2 hP P F N p2 p3 p4 p5;obtain⟨uk,ud,ut,ua⟩:=x;simp only[bV]at e5 kk3;refine wk ?_;refine VQ (u:=⟨uk,ud,ut,ua⟩) (J.o.app _) z.1 z.2 f.o.1 f.o.2.1 f.o.2.2 (λT last' l' S2 j2 g code B Y d3 d4 d5 d6 V d8=>?_);have hN:=hid (a'.o T last' l' S2 j2 g B d3 d5 d6 V);have al:=hid d8;clear B Y d3 d4 d5 d6 V d8 a' J f;refine wk ?_;exact ahi ahd (CutL (b:=by have:=al.o;have:=ai.o;simp at *;omega)) ⟨k+1,rfl,U,hN,hid (by have:=al.o;have:=ai.o;simp at *;omega),rfl⟩
 .have hke:k=us.length:=ahd;subst hke;have j4:¬(us.length:Int)<(us.length:Int):=ahd;obtain⟨last,l,S,j,recs,N,p2,p3,p4,p5⟩:=hP.o;obtain⟨E,X⟩:=aec (dN ((sO sfx l).map W7));obtain⟨en,w⟩:=aec ((sO sfx l).length);have kk4:Hid (∀{K:aeh},K (.sl E en none) L'->aeg 12 [.ptr A.sp 0] L' K):=@hid _ (by intro K q;exact Rv N (by rw[X,w];exact q));obtain⟨nb,bn,ck,ci,rs,hc⟩:=N.c;have d:=Yt D.o F;obtain⟨ab,C⟩:=aec (dd sfx l u.kind u.dn u.tw);have kk5:Hid (∀{K:aeh},K (.int .i64 ab) L'->aeg 13 [.ptr A.iv 0,.agg (bV u)] L' K):=@hid _ (λ{K} q=>yB N.tok ahd hc d.1 d.2.1 (by rw[C];exact q));obtain⟨⟨body,we⟩,hw⟩:∃q,wrU u=q:=⟨_,rfl⟩;have kk6:Hid (Ctr Tryz.prog 14 [.agg (bV u)] (.tup [.str body,.int .i64 we])):=@hid _ (λ{L K} q=>OG d.1 d.2.1 d.2.2 (by rw[hw];exact q));have b5:=N.s;have ad:=p5;by_cases b7:5000<body.length;have g2:(5000:Int)<(body.length:Int):=ahd;clear r t hP P N hc hw X w C d D;refine wk ?_;exact ag (h.o _);have g2:¬(5000:Int)<(body.length:Int):=ahd;have J:=hid N;have z:last<=800000/\l.length<=800000:=ahd;replace X:=hid X;replace w:=hid w;replace C:=hid C;clear r t hP P N hc hw;have f:=hid d;clear d;refine wk ?_;clear kk4 kk5;rw[<- a1.o];refine Yu J.o (by split<;>omega) (λT G c2 c3=>?_);obtain⟨b4,I⟩:∃x:Int,(if(if 2<lm then 2 else lm)>0 then(if 2<lm then 2 else lm)else 0)=x:=⟨_,rfl⟩;rw[I]at G;have bb:b4<=2:=(by rw[<- I];split<;>(try split)<;>omega);have R:=c2 0 _ ad ⟨_,_,_,rfl,ahe⟩;have bl:=G.s;replace G:=hid G;clear c2 c3 I ad b5 J;refine wk ?_;refine VQ G.o z.1 z.2 f.o.1 f.o.2.1 f.o.2.2 (λM4 last' l' S4 jn b0 code B Y d3 d4 d5 d6 V d8=>?_);obtain⟨rfl,rfl,p⟩:=Y.none (λj=>Xe bb);have Q:=V 0 _ R ⟨_,_,_,rfl,ahe⟩;have bo:=B.s;rw[C.o]at p;have kk4:Hid (∀{K:aeh},K (.sl E en none) M4->aeg 12 [.ptr A.sp 0] M4 K):=@hid _ (by intro K q;exact Rv B (by rw[X.o,w.o];exact q));have kk5:Hid (∀{K:aeh},K (.bool true) M4->aeg 16 [.sl E en none,.sl E en none] M4 K):=@hid _ (by
   intro K q;have:=YB (ws:=(sO sfx l').map W7) (c:=none) (c':=none) (L:=M4) (K:=K) (by rw[aeu];have:=LX sfx l';omega) (λx hx=>by obtain⟨y,hy,rfl⟩:=ael.1 hx;have ap:=Qt hy;exact⟨(B.tok.ok y ap).m.b,(B.av y ap).ok⟩) q
   rw[X.o,aeu,w.o]at this;exact this)
  obtain⟨y1,a0⟩:=aec (decide (ab=0));obtain⟨y2,bd⟩:=aec (decide (code=80));obtain⟨y3,an⟩:=aec (decide (code=ab));have hg:(y1 && !y2 || !y1 && !y3)=false:=by rw[<- a0,<- bd,<- an,p];by_cases c:ab=0<;>simp[c]
  replace B:=hid B;replace p:=hid p;clear Y d3 d4 d5 d6 V d8 G R bl X w;refine wk ?_;clear kk4 kk5;refine Yu B.o (by decide) (λM5 G c2 c3=>?_);have bk:=c2 0 _ Q ⟨_,_,_,rfl,ahe⟩;replace G:=hid G;clear c2 c3 Q bo B hg a0 bd an;refine wk ?_;refine VQ G.o z.1 z.2 f.o.1 f.o.2.1 f.o.2.2 (λM6 bx l2 S6 b' b6 H B Y d3 d4 d5 d6 V d8=>?_);have W:=Y.code;rw[C.o]at W;obtain⟨z1,b1⟩:=aec (decide (H=ab));obtain⟨z2,b2⟩:=aec (decide (H=80));have hz:(z1 ||z2)=true:=by rw[<- b1,<- b2];rcases W with e|e<;>simp[e]
  clear B Y d3 d4 d5 d6 V d8 G bk W;refine wk ?_;exact ag (h.o _)
end Go.Proofs.YtajkbcmleihaoaaGreatDoor.Av
