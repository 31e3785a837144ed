/- Joined texts of the walk, made small by a program. -/
import Derived.Test.YtajkbcmleihaoaaGreatDoorWk12
import Derived.Test.YtajkbcmleihaoaaGreatDoorWk9
import Derived.Test.YtajkbcmleihaoaaGreatDoorWk10
import Derived.Test.YtajkbcmleihaoaaGreatDoorWk8
import Derived.Test.YtajkbcmleihaoaaGreatDoorWk5
import Derived.Test.YtajkbcmleihaoaaGreatDoorWk4
import Derived.Test.YtajkbcmleihaoaaGreatDoorRows
import Derived.KernelRfl
set_option linter.unusedSimpArgs false
set_option linter.unusedVariables false
namespace Go.Proofs.YtajkbcmleihaoaaGreatDoor.Av
open Go
variable {x y:aw}{dn tn:List Rdn}{ids W:List Int}{L':List Blk}{bs:List (List UInt8)}{room:Int}
set_option maxHeartbeats 8000000
set_option maxRecDepth 100000
def cr(kd:Int->Int)(x:aw):List AV:=[dnA x.nm,.sl (ay (pth x)) x.nm.length none,atR x.av,.int .i64 (kd x.id)]
structure bc(L:List Blk)(iv mn mi:Nat)(nb bn:Int->Nat)(ck ci:Nat)(rs:List TKy)(suf:List Rdn)(last:Int)(l lk:List aw)(kd:Int->Int):Prop where
 v:L[iv]?=some (.cells [dnA suf,.lmap mn,.lmap mi,.int .i64 last])
 n:L[mn]?=some (.map (l.map (eP nb bn)) ck)
 i:L[mi]?=some (.map (rs.map kyA) ci)
 nd:∀x∈l,L[nb x.id]?=some (.cells (cr kd x))
 inj:∀x∈l,∀y∈l,nb x.id=nb y.id->x.id=y.id
 keys:(rs.map (·.1)).Nodup
 mem:∀k id,(∃b,(k,id,b)∈rs)↔∃x∈lk,aN true x.nm=k/\x.id=id
 bnd:(l.map λx=>bn x.id).Nodup
 blt:∀x∈l,bn x.id<ck
theorem TOk.kidsE{suf:List Rdn}{last:Int}{l:List aw}(h:TOk suf last l)(a:x∈l):iU l x.id=aP (cV l) (NK x.nm):=by unfold iU;rw[h.ent a]
theorem aU.toK{L:List Blk}{iv mn mi:Nat}{nb bn:Int->Nat}{ck ci:Nat}{rs:List TKy}{suf:List Rdn}{last:Int}{l:List aw}(h:aU L iv mn mi nb bn ck ci rs suf last l)(k:TOk suf last l):bc L iv mn mi nb bn ck ci rs suf last l l (λid=>(iU l id:Nat)):=by
 have nd:∀x∈l,L[nb x.id]?=some (.cells (cr (λid=>(iU l id:Nat)) x)):=λx c=>by rw[h.nd x c];unfold kN cr;dsimp only;rw[k.kidsE c]
 refine⟨h.v,h.n,h.i,nd,λx c y j e=>?_,h.keys,h.mem,h.bnd,h.blt⟩;have d:=h.nd x c;have m:=h.nd y j;rw[e,m]at d;have g:kN l y=kN l x:=by injection d with d;injection d
 unfold kN at g;simp only[agP,AV.sl.injEq]at g;have h4:ay (pth y)=ay (pth x):=g.2.1.1;have o:pth y=pth x:=(List.map_inj_right λa b f=>by injection f).1 h4;rw[k.byN j c (RM o)]
theorem bc.toT{L:List Blk}{iv mn mi:Nat}{nb bn:Int->Nat}{ck ci:Nat}{rs:List TKy}{suf:List Rdn}{last:Int}{l:List aw}{kd:Int->Int}(h:bc L iv mn mi nb bn ck ci rs suf last l l kd)(b:∀x∈l,kd x.id=(aP (cV l) (NK x.nm):Nat)):aU L iv mn mi nb bn ck ci rs suf last l :=
 ⟨h.v,h.n,h.i,λx a=>by rw[h.nd x a];unfold cr kN;rw[b x a],h.keys,h.mem,h.bnd,h.blt⟩
theorem bc.app{L:List Blk}{iv mn mi:Nat}{nb bn:Int->Nat}{ck ci:Nat}{rs:List TKy}{suf:List Rdn}{last:Int}{l lk:List aw}{kd:Int->Int}(h:bc L iv mn mi nb bn ck ci rs suf last l lk kd)(X:List Blk):bc (L++X) iv mn mi nb bn ck ci rs suf last l lk kd:=by
 have key:∀{i:Nat}{b:Blk},L[i]?=some b->(L++X)[i]?=some b:=λ{i b} e=>by rw[aem (aei.1 e).1];exact e
 exact⟨key h.v,key h.n,key h.i,λx a=>key (h.nd x a),h.inj,h.keys,h.mem,h.bnd,h.blt⟩
section
variable {L:List Blk}{iv mn mi:Nat}{nb bn:Int->Nat}{ck ci:Nat}{rs:List TKy}{suf:List Rdn}{last:Int}{l lk:List aw}{kd:Int->Int}
def OfT(iv mn mi:Nat)(nb:Int->Nat)(l:List aw)(i:Nat):Prop:=i=iv\/i=mn\/i=mi\/∃x∈l,i=nb x.id
structure aM(B:Nat->Prop)(L L':List Blk):Prop where
 len:L.length<=L'.length
 eq:∀i,i<L.length->¬B i->L'[i]?=L[i]?
theorem aM.refl{B:Nat->Prop}(L:List Blk):aM B L L:=⟨aek _,λ_ _ _=>rfl⟩
theorem aM.app{B:Nat->Prop}(L X:List Blk):aM B L (L++X):=⟨ahe,λi a _=>aem a⟩
theorem aM.trans{B:Nat->Prop}{L L1 L2:List Blk}(h:aM B L L1)(g:aM B L1 L2):aM B L L2:=⟨aeR h.len g.len,λi b a=>by rw[g.eq i (afs b h.len) a,h.eq i b a]⟩
theorem aM.set{B:Nat->Prop}(L:List Blk){j:Nat}(a:B j)(b:Blk):aM B L (L.set j b):=⟨ahe,λi d c=>aeo (λe=>c (by rw[<- e];exact a))⟩
theorem aM.weak{B a:Nat->Prop}{L L':List Blk}(h:aM B L L')(d:∀i,i<L.length->B i->a i):aM a L L':=⟨h.len,λi b c=>h.eq i b λe=>c (d i b e)⟩
theorem aM.trans2{B c:Nat->Prop}{L L1 L2:List Blk}(h:aM B L L1)(g:aM c L1 L2)(d:∀i,i<L.length->c i->B i):aM B L L2:=⟨aeR h.len g.len,λi a b=>by rw[g.eq i (afs a h.len) (λe=>b (d i a e)),h.eq i a b]⟩
theorem aM.get{B:Nat->Prop}{L L':List Blk}(h:aM B L L'){i:Nat}{b:Blk}(a:L[i]?=some b)(c:¬B i):L'[i]?=some b:=by rw[h.eq i (aei.1 a).1 c];exact a
theorem bc.node(h:bc L iv mn mi nb bn ck ci rs suf last l lk kd)(id:Int):
  (DU l id=none/\bF (.int .i64 id) (l.map (eP nb bn)) 0=some none)\/∃x n,DU l id=some x/\x∈l/\x.id=id/\bF (.int .i64 id) (l.map (eP nb bn)) 0=some (some (n,.ptr (nb id) 0))/\L[nb id]?=some (.cells (cr kd x))/\l.getD n default=x:=by
 rw[yh];unfold DU;rcases iy (f:=λx:aw=>decide (x.id=id)) (l:=l)with⟨a,d⟩|⟨n,a,d,b⟩;exact .inl ⟨d,by rw[a];rfl⟩;right;have c:=afK b;have e:(l.getD n default).id=id:=by have:=afL b;simpa using this
 refine⟨_,n,b,c,e,by rw[a];simp,?_,rfl⟩;have:=h.nd _ c;rwa[e]at this
theorem bc.look(h:bc L iv mn mi nb bn ck ci rs suf last l lk kd)(i:TOk suf last lk){d:List Rdn}(hd:OkD d):
  (aO lk d=0/\atE lk d=none/\bF (.str (aN true d)) (rs.map kyA) 0=some none)\/∃j,bF (.str (aN true d)) (rs.map kyA) 0=some (some (j,.int .i64 (aO lk d)))/\j<rs.length/\(rs.getD j default).1=aN true d:=by
 rw[yk];rcases iy (f:=λr:TKy=>decide (r.1=aN true d)) (l:=rs)with⟨m,g⟩|⟨n,m,u,g⟩;left;have a:atE lk d=none:=yy.2 λ_ x c e=>by obtain⟨b,t⟩:=(h.mem (aN true x.nm) x.id).2 ⟨x,c,rfl,rfl⟩;have:=afr.1 g _ t;simp only[decide_eq_true_eq]at this;exact this ((l9 (i.ok x c) hd).2 e)
 exact⟨i.find0.2 a,a,by rw[m];rfl⟩;right;refine⟨n,?_⟩;obtain⟨⟨k,id,b⟩,hr⟩:∃r,rs.getD n default=r:=⟨_,rfl⟩;have o:=afK g;have p:k=aN true d:=by have:=afL g;rw[hr]at this;simpa using this
 rw[hr]at o;obtain⟨x,c,q,s⟩:=(h.mem k id).1 ⟨b,o⟩;have:atE lk d=some x:=i.at c hd ((l9 hd (i.ok x c)).1 (by rw[<- p,q]));rw[m];refine⟨by simp only[aeC,hr,afE,aO,this,s],u,by rw[hr];exact p⟩
theorem abr{d:List Rdn}{cap:Option Nat}(hd:dnB d)(r:TOk suf last lk)(b:bc L iv mn mi nb bn ck ci rs suf last l lk kd){K:aeh}(h:K (.int .i64 (aO lk d)) L):
  aeg 26 [.ptr iv 0,.sl (d.map aH) d.length cap] L K:=by
 replace h:=hid h;obtain⟨⟨s,e⟩,a⟩:∃q,RW d=q:=⟨_,rfl⟩;have kk1:Hid (Ctr Tryz.prog 61 [.sl (d.map aH) d.length cap] (.tup [.str s,.int .i64 e])):=@hid _ (by intro L K q;exact Mh hd.1 hd.2 (by rw[a];exact q));have w:=b.v;have u:=b.i;by_cases p:e=0;subst p;have f:OkD d:=by by_cases c:OkD d;exact c;exact absurd (by rw[a]) (RV c)
 have g:s=aN true d:=by have:=qv f;rw[a]at this;injection this
 rcases b.look r f with⟨m,_,k⟩|⟨j,k,_⟩;rw[<- g]at k;rw[m]at h;have n:aT .str (.str s)=true:=rfl;clear a b g;refine aef bU ?_;exact ag h.o;rw[<- g]at k;have n:aT .str (.str s)=true:=rfl;obtain⟨z,t⟩:=aec (aO lk d);rw[t]at h k;clear a b g t;refine aef bU ?_;exact ag h.o;have m:aO lk d=0:=by refine r.find0.2 (yy.2 λc=>?_);have:=qv c;rw[a]at this;exact absurd (by injection this) p
 rw[m]at h;clear a b;refine aef bU ?_;exact ag h.o
theorem bc.kid(h:bc L iv mn mi nb bn ck ci rs suf last l lk kd){x:aw}(g:x∈l)(c:Int):bc (L.set (nb x.id) (.cells [dnA x.nm,.sl (ay (pth x)) x.nm.length none,atR x.av,.int .i64 (kd x.id+c)])) iv mn mi nb bn ck ci rs suf last l lk (λi=>if i=x.id then kd i+c else kd i):=by
 have a:=h.nd x g;have o:=(aei.1 a).1;have k:nb x.id≠iv:=λe=>by rw[e,h.v]at a;simp[cr]at a
 have p:nb x.id≠mn:=λe=>by rw[e,h.n]at a;simp at a
 have n3:nb x.id≠mi:=λe=>by rw[e,h.i]at a;simp at a
 refine⟨by rw[aeo k];exact h.v,by rw[aeo p];exact h.n,by rw[aeo n3];exact h.i,λy f=>?_,h.inj,h.keys,h.mem,h.bnd,h.blt⟩;by_cases e:nb x.id=nb y.id;have j:=h.inj x g y f e;have b:cr kd x=cr kd y:=by have d:=h.nd y f;rw[<- e,a]at d;injection d with d;injection d
 rw[<- e];simp only[o,aeQ,aej,Blk.cells.injEq];unfold cr at b⊢;simp only[agP]at b;dsimp only;rw[if_pos j.symm,b.1,b.2.1,b.2.2.1,j];rw[aeo e,h.nd y f];unfold cr;dsimp only;rw[if_neg (λm=>e (by rw[m]))]
theorem YT{it:Nat}{d:List Rdn}{cap:Option Nat}{b:Int}(hd:dnB d)(u:d≠[])(G:TOk suf last lk)(g:∀x∈lk,∃y∈l,y.id=x.id)(U:L[it]?=some (.cells [.ptr iv 0]))(w:bc L iv mn mi nb bn ck ci rs suf last l lk kd)(hb : -1<=b/\b<=1)(m:∀i,-10000000<=kd i/\kd i<=10000000){K:aeh}(J:aO lk d.tail=0->K (.tup []) L)(I:∀x∈l,x.id=aO lk d.tail->K (.tup []) (L.set (nb x.id) (.cells [dnA x.nm,.sl (ay (pth x)) x.nm.length none,atR x.av,.int .i64 (kd x.id+b)]))):
  aeg 70 [.ptr it 0,.sl (d.map aH) d.length cap,.int .i64 b] L K:=by
 obtain⟨r,a,rfl⟩:∃r a,d=r::a:=by
  cases d with
  |nil=>exact absurd rfl u
  |cons r a=>exact⟨r,a,rfl⟩
 simp only[List.tail_cons]at J I;have s:dnB a:=⟨by have:=hd.1;simp at this;omega,λr hr=>hd.2 r (by simp[hr])⟩;obtain⟨z,t⟩:=aec (aO lk a);have kk1:Hid (∀{c:Option Nat}{K:aeh},K (.int .i64 z) L->aeg 26 [.ptr iv 0,.sl (List.take a.length (a.map aH)) a.length c] L K):=@hid _ (by intro c K q;rw[aeO ahe];exact abr s G w (by rw[t];exact q))
 have f:(((r::a).length:Nat):Int)=(a.length:Int)+1:=ahe;have g1:(1:Int)<=((r::a).length:Int):=by rw[f];omega
 have S:(r::a).length-1=a.length:=ahe;have g3:List.drop 1 ((r::a).map aH)=a.map aH:=ahe;have X:=w.v;have hn:=w.n;by_cases H:z=0;subst H;replace h:=hid (J t);obtain⟨D,B⟩:=aec ((r::a).map aH);obtain⟨n,e⟩:=aec ((r::a).length);rw[B]at g3⊢;rw[e]at g1 S⊢;clear J I t w m g G hd s u f B e;refine aef lM ?_;exact iF ⟨.inl rfl,True,[],rfl,trivial,ag h.o⟩;obtain⟨y,Q⟩:∃y,atE lk a=some y:=by
  cases M:atE lk a with
  |none=>exact absurd (G.find0.2 M) (by rw[t];exact H)
  |some y=>exact⟨y,rfl⟩
 have C:y.id=z:=by rw[<- t];unfold aO;rw[Q]
 obtain⟨_,p,_⟩:=cc Q;have O:=(G.ids y p).1;obtain⟨V,E,A⟩:=g y p;rcases w.node z with⟨P,_⟩|⟨x,j,P,R,k,Z,N,_⟩;exact absurd (afr.1 P V E) (by simp[A,C]);have h:=I x R (by rw[k,t]);rw[k]at h;replace h:=hid h;unfold cr at N;rw[k]at N;obtain⟨q,M⟩:=aec (kd z);have F:=m z;rw[M]at h N F;have W:IntKind.i64.wrap (q+b)=q+b:=ac ahd ahd;have T:aT .int (.int .i64 z)=true:=rfl;have g4:(0:Int)<z:=ahd;have Y:z>0:=g4;obtain⟨D,B⟩:=aec ((r::a).map aH);obtain⟨n,e⟩:=aec ((r::a).length);rw[B]at g3⊢;rw[e]at g1 S⊢;clear J I t w m g G hd s u f B e Q C p O A E P R k M F;refine aef lM ?_;exact⟨.inl rfl,True,[],rfl,trivial,ag h.o⟩
end
set_option maxHeartbeats 8000000
set_option maxRecDepth 100000
theorem Pa{l:List aw}(h:DU l x.id=some x):scT l x.id 2=(scL l x 2).map (·.id):=by unfold scT;rw[h];exact if_neg ahd
theorem OM{suf:List Rdn}{last:Int}{l:List aw}(f:TOk suf last l)(d:atE l dn=some x):y∈scL l x 2↔y∈l/\gp y.nm dn=true:=by
 obtain⟨hd,b,e⟩:=cc d;unfold scL;rw[List.Perm.mem_iff (afN _ _),ae0];refine and_congr_right λg=>?_
 unfold ig;rw[decide_eq_true (rfl:(2:Int)=2),Bool.true_or,af1,de,de,e];exact⟨λ⟨a,_,c⟩=>⟨a,hd,c⟩,λ⟨a,_,c⟩=>⟨a,f.ok x b,c⟩⟩
theorem RI(l:List aw)(x:aw)(s:Int):(scL l x s).length<=l.length:=by unfold scL;rw[ag4];exact agr _ _
theorem abE{suf:List Rdn}{last:Int}{l:List aw}(c:TOk suf last l)(b:atE l dn=some x):Z0 l dn tn=(scL l x 2).any λy => !decide (OkD (nD y.nm dn.length tn)):=by rw[Bool.eq_iff_iff,Z0,afP,afP];constructor;rintro⟨y,a,h⟩;rw[aeq]at h;exact⟨y,(OM c b).2 ⟨a,h.1⟩,h.2⟩;rintro⟨y,a,h⟩;obtain⟨d,e⟩:=(OM c b).1 a;exact⟨y,d,by rw[aeq];exact⟨e,h⟩⟩
theorem act{suf:List Rdn}{last:Int}{l:List aw}(s:TOk suf last l)(a3:l.length<=1100000){L:List Blk}{iv mn mi:Nat}{nb bn:Int->Nat}{ck ci:Nat}{rs:List TKy}(B:aU L iv mn mi nb bn ck ci rs suf last l){k:Int}{v:AV}(hx:atE l dn=some x)(Y:dnB tn){K:aeh}(h:K (.int .i64 (Tk suf l x.id dn tn)) L):
  aeg 37 [.ptr iv 0,.int .i64 x.id,.agg [.int .i64 k,dnA dn,dnA tn,v]] L K:=by
 obtain⟨hd,a5,a9⟩:=cc hx;have g:=s.sok.m.b;have f:=hd.m.b;have hv:=B.v;have a1:iv<L.length:=(aei.1 hv).1;have av:∀X:List Blk,(L++X)[iv]?=some (.cells [dnA suf,.lmap mn,.lmap mi,.int .i64 last]):=λX=>by rw[aem a1];exact hv
 obtain⟨⟨ps,pe⟩,O⟩:∃q,prS tn=q:=⟨_,rfl⟩;have kk1:Hid (Ctr Tryz.prog 35 [dnA tn] (.tup [.str ps,.int .i64 pe])):=@hid _ (by intro L K q;exact yE Y.1 Y.2 (by rw[O];exact q));have kk2:Hid (∀{v:Nat}{L:List Blk}{K:aeh},K (.bool (Mb dn suf)) L->aeg 36 [.ptr v 0,dnA dn,dnA suf] L K):=@hid _ (by intro v L K q;exact VE f g q);have P:OkD tn↔pe=0:=by unfold OkD;rw[O]
 unfold Tk at h;by_cases c1:Mb dn suf=true;rw[if_pos c1]at h;rw[c1]at kk2;replace h:=hid h;clear B O P f g;refine aef be ?_;exact af rfl h.o;rw[if_neg c1]at h;rw[Bool.eq_false_iff.2 c1]at kk2;by_cases c2:pe=0;rotate_left;rw[if_pos (.inl λc=>c2 (P.1 c))]at h;replace h:=hid h;clear B O P f g;refine aef be ?_;exact af rfl h.o;have N:=P.2 c2;have a7:=N.len;subst c2;by_cases c3:tn=[];rw[if_pos (.inr c3)]at h;replace h:=hid h;subst c3;clear B O P f g;refine aef be ?_;exact af rfl h.o;rw[if_neg (λc=>c.elim (λc=>c N) c3)]at h;have a8:¬(tn.length:Int)=0:=λc=>c3 (ae2.1 ahd)
 have a':(1:Int)<=(tn.length:Int):=ahd;have al:tn.tail.length=tn.length-1:=af9;have A:List.take (tn.length-1) (List.drop 1 (tn.map aH))=tn.tail.map aH:=by rw[List.drop_one,List.map_tail,aeO ahe]
 have ai:=N.tail;have kk3:Hid (∀{c:Option Nat}{L:List Blk}{K:aeh},K (.bool (gp tn.tail dn)) L->aeg 77 [.sl (List.take (tn.length-1) (List.drop 1 (tn.map aH))) (tn.length-1) c,dnA dn] L K):=@hid _ (by intro c L K q;rw[A,<- al];exact VG ai.m.b f q)
 have kf:Hid (∀{c:Option Nat}{L':List Blk}{K:aeh}(d:List Rdn) (X:List Blk),dnB d->K (.int .i64 (aO l d)) (L++X)->aeg 26 [.ptr iv 0,.sl (d.map aH) d.length c] (L++X) K):=@hid _ (by intro c L' K d X a6 q;exact l8 a6 s (B.app X) q)
 have kk4:Hid (∀{c:Option Nat}{X:List Blk}{K:aeh},K (.int .i64 (aO l tn.tail)) (L++X)->aeg 26 [.ptr iv 0,.sl (List.take (tn.length-1) (List.drop 1 (tn.map aH))) (tn.length-1) c] (L++X) K):=@hid _ (by intro c X K q;rw[A,<- al];exact kf.o (L':=L) _ X ai.m.b q)
 by_cases c4:gp tn.tail dn=true;rw[if_pos c4]at h;rw[c4]at kk3;replace h:=hid h;clear B O P f g kf kk4 A;refine aef be ?_;exact af rfl h.o;rw[if_neg c4]at h;rw[Bool.eq_false_iff.2 c4]at kk3;by_cases c5:atE l tn.tail=none;rw[if_pos c5]at h;rw[s.find0.2 c5]at kk4;replace h:=hid h;clear B O P f g kf A;refine aef be ?_;exact af rfl h.o;rw[if_neg c5]at h;have a2:¬aO l tn.tail=0:=λc=>c5 (s.find0.1 c)
 have kk5:Hid (∀{X:List Blk}{K:aeh},K (.int .i64 (aO l tn)) (L++X)->aeg 26 [.ptr iv 0,dnA tn] (L++X) K):=@hid _ (by intro X K q;exact kf.o (L':=L) _ X N.m.b q)
 obtain⟨z,hz⟩:=aec (aO l tn.tail);rw[hz]at kk4 a2;have R:YY l x.id tn=(decide (0<aO l tn)&&decide (aO l tn≠x.id)):=by
  unfold YY aO;cases hq:atE l tn with
  |none=>simp
  | some y =>
    have:=(s.ids y (cc hq).2.1).1;simp only;rw[decide_eq_true (by omega:0<y.id),ae9]
 rw[R]at h;obtain⟨w,hw⟩:=aec (aO l tn);rw[hw]at kk5 h;obtain⟨xi,ab⟩:=aec (x.id);rw[ab]at h⊢;by_cases c6:0<w/\w≠xi;obtain⟨c6,c7⟩:=c6;have bd:w>0:=c6;rw[if_pos (by rw[decide_eq_true c6,decide_eq_true c7];rfl)]at h;replace h:=hid h;clear B O P f g kf A;refine aef be ?_;exact af rfl h.o;rw[if_neg (by intro c;rw[aeq,decide_eq_true_eq,decide_eq_true_eq]at c;exact c6 c)]at h
 have c8:w<=0\/w=xi:=ahd;rw[abE s hx]at h;have ap:scT l xi 2=(scL l x 2).map (·.id):=by rw[<- ab];exact Pa (s.ent a5)
 have kk6:Hid (∀{X:List Blk}{K:aeh},K (.sl (((scL l x 2).map (·.id)).map (AV.int .i64)) (scL l x 2).length none) (L++X)->aeg 32 [.ptr iv 0,.int .i64 xi,.int .i64 2] (L++X) K):=@hid _ (by intro X K q;refine JJ s a3 (B.app X) ?_;rw[ap,aeu];exact q)
 obtain⟨a,S⟩:=aec (scL l x 2);have a0:=RI l x 2;have p:=λy=>(OM (y:=y) s hx).1
 rw[S]at kk6 h a0 p;replace p:=hid p;replace h:=hid h;replace B:=hid B;replace s:=hid s;clear O P f g kf A ap S R hw hz ab;have c9:(¬0<w/\¬w>0)\/(0<w/\w>0/\xi=w):=ahd;clear c8 c6;have bb:=hd.len;rcases c9 with⟨c9,a4⟩|⟨c9,a4,rfl⟩
 all_goals
  refine aef be ?_;refine ao (λm T' L'=>∃j:Nat,m=a.length-j/\j<=a.length/\Hid (∀i,i<j->OkD (nD (a.getD i default).nm dn.length tn))/\T'=[(68,.int .i64 (j:Int)),(67,.int .i64 a.length),(66,.sl ((a.map (·.id)).map (AV.int .i64)) a.length none),(5,.ptr L.length 0),(0,.ptr iv 0)]/\L'=L++[.cells [.int .i64 k,dnA dn,dnA tn,v]]) ahh ⟨0,rfl,aep _,hid (λi hi=>absurd hi (Nat.not_lt_zero _)),rfl,rfl⟩ ?_;rintro _ _ _ ⟨j,rfl,hj,hI,rfl,rfl⟩;by_cases I:j<a.length
  .have g1:(j:Int)<(a.length:Int):=ahd;have g2:=aee j ahd;obtain⟨y,T⟩:=aec (a.getD j default);have Q:y∈a:=(by rw[<- T];simp[I]);obtain⟨E,U⟩:=p.o y Q;have e1:((a.map (·.id)).map (AV.int .i64)).getD j .undef=.int .i64 y.id:=(by rw[<- T];simp[I]);have e2:j<((a.map (·.id)).map (AV.int .i64)).length:=(by simpa using I);rcases(B.o.app [.cells [.int .i64 k,dnA dn,dnA tn,v]]).node y.id with⟨f1,_⟩|⟨x',n,f1,_,_,f2,f3⟩
   .rw[s.o.ent E]at f1;cases f1
   rw[s.o.ent E]at f1;cases f1;unfold kN at f3;have C:=s.o.ok y E;have F:dn.length<=y.nm.length:=by have:=(de.1 U).2.2.length_le;rwa[bv,bv]at this
   have ad:=C.len;have an:=(B.o.app [.cells [.int .i64 k,dnA dn,dnA tn,v]]).n;obtain⟨yi,V⟩:=aec (y.id);obtain⟨yn,G⟩:=aec (y.nm);rw[V]at e1 f2 f3;rw[G]at f3 F ad C;obtain⟨q,hq⟩:=aec (yn.length-dn.length);have w1:IntKind.i64.wrap ((yn.length:Int)-(dn.length:Int))=(q:Int):=(by rw[ac ahd ahd];omega);have w2:(q:Int)<=(yn.length:Int):=ahd;have a_:aT .int (.int .i64 yi)=true:=rfl;obtain⟨Z,hZ⟩:=aec (nD yn dn.length tn);have J:yn.take q++tn=Z:=(by rw[<- hZ,<- hq];rfl);have t:dnB Z:=by rw[<- J];refine⟨by simp;omega,λr hr=>?_⟩;rcases aen.1 hr with hr|hr;exact C.m.b.2 r (agp hr);exact Y.2 r hr
   have kk7:Hid (∀{c:Option Nat}{L:List Blk}{K:aeh},K (dnA Z) L->aeg 50 [dnA tn,.sl (List.take q (yn.map aH)) q c] L K):=@hid _ (by intro c L K u;rw[<- ago];exact Wb J (by rw[afg];omega) rfl t.1 t.2 u)
   obtain⟨⟨zs,ze⟩,M⟩:∃u,prS Z=u:=⟨_,rfl⟩;have kk1:Hid (Ctr Tryz.prog 35 [dnA Z] (.tup [.str zs,.int .i64 ze])):=@hid _ (by intro L K u;exact yE t.1 t.2 (by rw[M];exact u));have pz:OkD Z↔ze=0:=(by unfold OkD;rw[M]);by_cases W:ze=0
   .have hI':=hid (λi (hi:i<j+1)=>show OkD (nD (a.getD i default).nm dn.length tn)from by
     by_cases e:i=j
     .subst e;rw[T,G,hZ];exact pz.2 W
     .exact hI.o i ahd)
    subst W;clear hI T Q E U C F V G hq hZ J t M pz kk2 kk3 kk4 kk5 kk6;refine wk ?_;exact ahi ahd ahg ⟨j+1,rfl,I,hI',rfl,rfl⟩
   .have hbad:(a.any λy => !decide (OkD (nD y.nm dn.length tn)))=true:=afP.2 ⟨y,Q,by rw[G,hZ,decide_eq_false (λc=>W (pz.1 c))];rfl⟩;have H:=h.o;rw[if_pos hbad]at H;replace H:=hid H;clear hI T Q E U C F V G hq hZ J t M pz kk2 kk3 kk4 kk5 kk6 hbad;refine wk ?_;exact af rfl H.o
  .have hje:j=a.length:=ahd;subst hje;have g1:¬(a.length:Int)<(a.length:Int):=ahd;have D:¬(a.any λy => !decide (OkD (nD y.nm dn.length tn)))=true:=λc=>by obtain⟨y,T,hb⟩:=afP.1 c;obtain⟨i,hi,rfl⟩:=agf.1 T;have:=hI.o i hi;rw[show a.getD i default=a[i]by simp[hi]]at this;rw[decide_eq_true this]at hb;cases hb
   have H:=h.o;rw[if_neg D]at H;replace H:=hid H;clear hI D;refine wk ?_;exact af rfl H.o
theorem yB{suf:List Rdn}{last:Int}{l:List aw}(w:TOk suf last l)(Z:l.length<=1100000){L:List Blk}{iv mn mi:Nat}{nb bn:Int->Nat}{ck ci:Nat}{rs:List TKy}(j:aU L iv mn mi nb bn ck ci rs suf last l){k:Int}{v:AV}(g:dnB dn)(ap:dnB tn){K:aeh}(h:K (.int .i64 (dd suf l k dn tn)) L):
  aeg 13 [.ptr iv 0,.agg [.int .i64 k,dnA dn,dnA tn,v]] L K:=by
 have i:=w.sok.m.b;have hv:=j.v;have hn:=j.n;have O:iv<L.length:=(aei.1 hv).1;have R:mn<L.length:=(aei.1 hn).1;have av:∀X:List Blk,(L++X)[iv]?=some (.cells [dnA suf,.lmap mn,.lmap mi,.int .i64 last]):=λX=>by rw[aem O];exact hv
 have an:∀X:List Blk,(L++X)[mn]?=some (.map (l.map (eP nb bn)) ck):=λX=>by rw[aem R];exact hn
 have a4:(l.map (eP nb bn)).length=l.length:=aeu _;obtain⟨⟨ps,pe⟩,t⟩:∃q,prS dn=q:=⟨_,rfl⟩;have kk1:Hid (Ctr Tryz.prog 35 [dnA dn] (.tup [.str ps,.int .i64 pe])):=@hid _ (by intro L K q;exact yE g.1 g.2 (by rw[t];exact q));have kk2:Hid (∀{v:Nat}{L:List Blk}{K:aeh},K (.bool (Mb dn suf)) L->aeg 36 [.ptr v 0,dnA dn,dnA suf] L K):=@hid _ (by intro v L K q;exact VE g i q);have r:OkD dn↔pe=0:=by unfold OkD;rw[t]
 have kk3:Hid (∀{X:List Blk}{K:aeh},K (.int .i64 (aO l dn)) (L++X)->aeg 26 [.ptr iv 0,dnA dn] (L++X) K):=@hid _ (by intro X K q;exact l8 g w (j.app X) q)
 obtain⟨z,p⟩:=aec (aO l dn);have f:=w.find0 (d:=dn);rw[p]at f kk3;unfold dd at h;by_cases u:k<1\/4<k;rw[if_pos u]at h;have d1:¬k=1:=ahd;have d2:¬k=2:=ahd;have d3:¬k=3:=ahd;have d4:¬k=4:=ahd;replace h:=hid h;clear j t r g i f p;refine aef aG ?_;exact af rfl h.o;rw[if_neg u]at h;by_cases T:k=1
 .subst T;rw[if_pos rfl]at h;by_cases S:pe=0;rotate_left;rw[if_pos (λc=>S (r.1 c))]at h;replace h:=hid h;clear j t r g i f p u;refine aef aG ?_;exact af rfl h.o;have E:=r.2 S;subst S;rw[if_neg (λc=>c E)]at h;by_cases H:z=0;rotate_left;rw[if_pos (λc=>H (f.2 c))]at h;have W:0<z:=by
   cases D:atE l dn with
   |none=>exact absurd (f.2 D) H
   | some y =>
     have:=(w.ids y (cc D).2.1).1;rw[<- p];unfold aO;rw[D];simp only;omega
  have a2:z>0:=W;replace h:=hid h;clear j t r g i f p u;refine aef aG ?_;exact af rfl h.o;subst H;rw[if_neg (λc=>c (f.1 rfl))]at h;have a6:=E.len;obtain⟨sm,ai⟩:=aec (Mb dn suf);rw[ai]at h kk2;have a:∀{h4:K (.int .i64 (if 4096<=l.length then 80 else 0)) L},(4096<=l.length/\K (.int .i64 80) L)\/(¬4096<=l.length/\K (.int .i64 0) L):=λ{h4}=>by by_cases c:4096<=l.length;rw[if_pos c]at h4;exact .inl ⟨c,h4⟩;rw[if_neg c]at h4;exact .inr ⟨c,h4⟩
  cases sm with
  | true =>
    rw[if_neg (λc=>by cases c.1)]at h;rcases a (h4:=h)with⟨c,h⟩|⟨c,h⟩
    .have c':(4096:Int)<=(l.length:Int):=ahd;have G:(l.length:Int)≥4096:=c';replace h:=hid h;clear a j t r g i f p u;refine aef aG ?_;exact af rfl h.o
    .have c':¬(4096:Int)<=(l.length:Int):=ahd;have G:¬(l.length:Int)≥4096:=c';replace h:=hid h;clear a j t r g i f p u;refine aef aG ?_;exact af rfl h.o
  | false =>
    by_cases V:dn=[]
    .rw[if_pos ⟨rfl,.inl V⟩]at h;subst V;replace h:=hid h;clear a j t r g i f p u;refine aef aG ?_;exact af rfl h.o
    have a3:¬(dn.length:Int)=0:=λc=>V (ae2.1 ahd)
    have a5:(1:Int)<=(dn.length:Int):=ahd;have a1:dn.tail.length=dn.length-1:=af9;have C:List.take (dn.length-1) (List.drop 1 (dn.map aH))=dn.tail.map aH:=(by rw[List.drop_one,List.map_tail,aeO ahe]);have kk4:Hid (∀{c:Option Nat}{X:List Blk}{K:aeh},K (.int .i64 (aO l dn.tail)) (L++X)->aeg 26 [.ptr iv 0,.sl (List.take (dn.length-1) (List.drop 1 (dn.map aH))) (dn.length-1) c] (L++X) K):=@hid _ (by intro c X K q;rw[C,<- a1];exact l8 E.tail.m.b w (j.app X) q)
    have s:=w.find0 (d:=dn.tail);obtain⟨q,D⟩:=aec (aO l dn.tail);rw[D]at s kk4;by_cases c4:q=0
    .rw[if_pos ⟨rfl,.inr (s.1 c4)⟩]at h;subst c4;replace h:=hid h;clear a j t r g i f p u C s D;refine aef aG ?_;exact af rfl h.o
    rw[if_neg (λc=>c.2.elim V λc=>c4 (s.2 c))]at h;rcases a (h4:=h)with⟨c,h⟩|⟨c,h⟩
    .have c':(4096:Int)<=(l.length:Int):=ahd;have G:(l.length:Int)≥4096:=c';replace h:=hid h;clear a j t r g i f p u C s D;refine aef aG ?_;exact af rfl h.o
    .have c':¬(4096:Int)<=(l.length:Int):=ahd;have G:¬(l.length:Int)≥4096:=c';replace h:=hid h;clear a j t r g i f p u C s D;refine aef aG ?_;exact af rfl h.o
 rw[if_neg T]at h;have F:k=2\/k=3\/k=4:=ahd;cases hx:atE l dn with
 | none =>
   rw[hx]at h;simp only at h;have H:z=0:=f.2 hx;subst H;replace h:=hid h;clear j t r g i f p u T;rcases F with rfl|rfl|rfl
   all_goals
    refine aef aG ?_;exact af rfl h.o
 | some x =>
   rw[hx]at h;simp only at h;obtain⟨hd,B,a0⟩:=cc hx;have al:z=x.id:=(by rw[<- p];unfold aO;rw[hx]);have Y:=(w.ids x B).1;have kk5:Hid (∀{X:List Blk}{K:aeh},K (.int .i64 (Tk suf l x.id dn tn)) (L++X)->aeg 37 [.ptr iv 0,.int .i64 x.id,.agg [.int .i64 k,dnA dn,dnA tn,v]] (L++X) K):=@hid _ (by intro X K q;exact act w Z (j.app X) hx ap q)
   have ab:aT .int (.int .i64 x.id)=true:=rfl;rcases j.node x.id with⟨P,_⟩|⟨x',n,P,_,_,f2,U⟩
   .rw[w.ent B]at P;cases P
   rw[w.ent B]at P;cases P;unfold kN at U;have J:nb x.id<L.length:=(aei.1 U).1;have ad:∀X:List Blk,(L++X)[nb x.id]?=some (.cells [dnA x.nm,.sl (ay (pth x)) x.nm.length none,atR x.av,.int .i64 (aP (cV l) (NK x.nm):Nat)]):=λX=>by rw[aem J];exact U
   subst al;obtain⟨xi,N⟩:=aec (x.id);obtain⟨M,Q⟩:=aec (aP (cV l) (NK x.nm));rw[N]at kk3 kk5 ab f2 ad Y h;rw[Q]at ad h;obtain⟨mv,I⟩:=aec (Tk suf l xi dn tn);rw[I]at kk5 h;have g0:¬xi=0:=ahd;have A:(M≠0/\k=2/\K (.int .i64 66) L)\/(M=0/\k=2/\K (.int .i64 0) L)\/(k=3/\K (.int .i64 0) L)\/(k=4/\K (.int .i64 mv) L):=by
    rcases F with rfl|rfl|rfl
    .by_cases c:M=0
     .rw[if_pos rfl,if_neg (λe=>e c)]at h;exact .inr (.inl ⟨c,rfl,h⟩)
     .rw[if_pos rfl,if_pos c]at h;exact .inl ⟨c,rfl,h⟩
    .rw[if_neg (by decide),if_pos rfl]at h;exact .inr (.inr (.inl ⟨rfl,h⟩))
    .rw[if_neg (by decide),if_neg (by decide)]at h;exact .inr (.inr (.inr ⟨rfl,h⟩))
   clear h j t r g i f p u T F B a0 N Q I hx U;rcases A with⟨c,rfl,h⟩|⟨c,rfl,h⟩|⟨rfl,h⟩|⟨rfl,h⟩
   .have S:(0:Int)<(M:Int):=ahd;have H:(M:Int)>0:=S;replace h:=hid h;refine aef aG ?_;exact af rfl h.o
   .subst c;replace h:=hid h;refine aef aG ?_
    all_goals exact af rfl h.o
   .replace h:=hid h;refine aef aG ?_;exact af rfl h.o
   .replace h:=hid h;refine aef aG ?_;exact af rfl h.o
section
variable {L:List Blk}{iv mn mi it:Nat}{nb bn:Int->Nat}{ck ci:Nat}{rs:List TKy}{suf:List Rdn}{last:Int}{l lk:List aw}{kd:Int->Int}
theorem bc.kds(h:bc L iv mn mi nb bn ck ci rs suf last l lk kd){a:Int->Int}(e:∀x∈l,a x.id=kd x.id):bc L iv mn mi nb bn ck ci rs suf last l lk a :=
 ⟨h.v,h.n,h.i,λx b=>by rw[h.nd x b];unfold cr;rw[e x b],h.inj,h.keys,h.mem,h.bnd,h.blt⟩
theorem bc.noIt(h:bc L iv mn mi nb bn ck ci rs suf last l lk kd)(a:L[it]?=some (.cells [.ptr iv 0])):¬OfT iv mn mi nb l it:=by rintro(e|e|e|⟨x,b,e⟩);rw[e,h.v]at a;simp at a;rw[e,h.n]at a;simp at a;rw[e,h.i]at a;simp at a;rw[e,h.nd x b]at a;simp[cr]at a
theorem GK{d:List Rdn}{cap:Option Nat}{b:Int}(hd:dnB d)(f:d≠[])(o:TOk suf last lk)(a:∀x∈lk,∃y∈l,y.id=x.id)(m:∀x∈l,1<=x.id)(g:L[it]?=some (.cells [.ptr iv 0]))(k:bc L iv mn mi nb bn ck ci rs suf last l lk kd)(n : -1<=b/\b<=1)(c:∀i,-10000000<=kd i/\kd i<=10000000){K:aeh}(h:∀L',bc L' iv mn mi nb bn ck ci rs suf last l lk (λi=>if i=aO lk d.tail then kd i+b else kd i)->aM (OfT iv mn mi nb l) L L'->K (.tup []) L'):
  aeg 70 [.ptr it 0,.sl (d.map aH) d.length cap,.int .i64 b] L K:=by
 refine YT hd f o a g k n c (λp=>?_) (λx j e=>?_);refine h L (k.kds λx j=>?_) (aM.refl L)
 grind
 refine h _ ?_ (aM.set L (.inr (.inr (.inr ⟨x,j,rfl⟩))) _);rw[<- e];exact k.kid j b
theorem aU.added(f:aU L iv mn mi nb bn ck ci rs suf last l)(K:TOk suf last l)(u:mn≠mi)(j:L[it]?=some (.cells [.ptr iv 0])){dn:List Rdn}(C:OkD dn)(J:∀x∈l,NK x.nm≠NK dn)(v:List Atr)(h a0 X:Blk)(A B:List Blk)(w:A=(L.set iv (.cells [dnA suf,.lmap mn,.lmap mi,.int .i64 (last+1)])).set mn (.map ((l.map (eP nb bn))++[(.int .i64 (last+1),.ptr (L.length+1) 0,ck)]) (ck+1)))(hB:B=((A++[h,a0]).set (L.length+1) (.cells [dnA dn,.sl (ay (NK dn).reverse) dn.length none,atR v,.int .i64 0])).set mi (.map ((rs++[(aN true dn,last+1,ci)]).map kyA) (ci+1))++[X]):
  bc B iv mn mi (λi=>if i=last+1 then L.length+1 else nb i) (λi=>if i=last+1 then ck else bn i) (ck+1) (ci+1) (rs++[(aN true dn,last+1,ci)]) suf (last+1) (DX l last dn v) (DX l last dn v) (λi=>if i=last+1 then 0 else(iU l i:Nat))/\aM (OfT iv mn mi nb l) L B /\
  (A++[h,a0])[it]?=some (.cells [.ptr iv 0])/\(A++[h,a0])[iv]?=some (.cells [dnA suf,.lmap mn,.lmap mi,.int .i64 (last+1)])/\(A++[h,a0])[mn]?=some (.map ((l.map (eP nb bn))++[(.int .i64 (last+1),.ptr (L.length+1) 0,ck)]) (ck+1))/\(A++[h,a0])[mi]?=some (.map (rs.map kyA) ci)/\(A++[h,a0])[L.length+1]?=some a0 /\
  bF (.int .i64 (last+1)) ((l.map (eP nb bn))++[(.int .i64 (last+1),.ptr (L.length+1) 0,ck)]) 0=some (some (l.length,.ptr (L.length+1) 0))/\bF (.str (aN true dn)) (rs.map kyA) 0=some none/\bF (.int .i64 (last+1)) (l.map (eP nb bn)) 0=some none:=by
 have S:=f.toK K;have D:=(aei.1 f.v).1;have H:=(aei.1 f.n).1;have h3:=(aei.1 f.i).1;have h4:=(aei.1 j).1;have E:iv≠mn:=λe=>by have:=f.v;rw[e,f.n]at this;simp at this
 have q:iv≠mi:=λe=>by have:=f.v;rw[e,f.i]at this;simp at this
 have W:A.length=L.length:=by rw[w];simp
 have R:∀i,i≠iv->i≠mn->A[i]?=L[i]?:=λi a b=>by rw[w,aeo (Ne.symm b),aeo (Ne.symm a)]
 have O:A[iv]?=some (.cells [dnA suf,.lmap mn,.lmap mi,.int .i64 (last+1)]):=by rw[w,aeo (Ne.symm E)];simp[D]
 have P:A[mn]?=some (.map ((l.map (eP nb bn))++[(.int .i64 (last+1),.ptr (L.length+1) 0,ck)]) (ck+1)):=by rw[w];simp[H]
 have F:∀i,i<L.length->(A++[h,a0])[i]?=A[i]?:=λi Q=>aem ahd
 have I:∀i,i<L.length->i≠mi->B[i]?=A[i]?:=λi Q hm=>by grind
 have G:B[mi]?=some (.map ((rs++[(aN true dn,last+1,ci)]).map kyA) (ci+1)):=by grind
 have z:B[L.length+1]?=some (.cells [dnA dn,.sl (ay (NK dn).reverse) dn.length none,atR v,.int .i64 0]):=by simp[*]
 have d:∀x∈l,x.id≠last+1:=λx c e=>by have:=(K.ids x c).2;omega
 have t:∀x∈l,nb x.id<L.length:=λx c=>(aei.1 (f.nd x c)).1
 have V:∀x∈l,aN true x.nm≠aN true dn:=λx c e=>J x c ((l9 (K.ok x c) C).1 e)
 have ab:∀r∈rs,r.1≠aN true dn:=λr hr e=>by obtain⟨x,c,T,_⟩:=(f.mem r.1 r.2.1).1 ⟨r.2.2,hr⟩;simp_all
 have o:(DX l last dn v).map (eP (λi=>if i=last+1 then L.length+1 else nb i) (λi=>if i=last+1 then ck else bn i))=l.map (eP nb bn)++[(.int .i64 (last+1),.ptr (L.length+1) 0,ck)]:=by
  unfold DX;rw[aeD];congr 1;refine afk λx c=>?_
  simp only[eP,if_neg (d x c)];simp[eP]
 refine⟨⟨by rw[I iv D q];exact O,by rw[I mn H u,P,o],G,λx c=>?_,λx c y s e=>?_,?_,λk id=>?_,?_,λx c=>?_⟩,⟨by rw[hB];simp;omega,λi Q M=>?_⟩,?_,by rw[F iv D];exact O,by rw[F mn H];exact P,by rw[F mi h3,R mi (Ne.symm q) (Ne.symm u)];exact f.i,?_,?_,?_,?_⟩;rcases aen.1 c with c|c;have p:=S.nd x c;have N:=d x c;have Y:nb x.id≠iv:=λe=>by rw[e,f.v]at p;simp[cr]at p
 have m2:nb x.id≠mn:=λe=>by rw[e,f.n]at p;simp at p
 have Z:nb x.id≠mi:=λe=>by rw[e,f.i]at p;simp at p
 simp only[if_neg N];rw[I _ (t x c) Z,R _ Y m2,p];unfold cr;simp[*];rw[aeG.1 c];simp only[if_true];rw[z];simp only[cr,pth,if_true];rcases aen.1 c with c|c<;>rcases aen.1 s with s|s;simp only[if_neg (d x c),if_neg (d y s)]at e;exact S.inj x c y s e
 grind
 grind
 simp_all;rw[aeD,afQ];refine⟨f.keys,ahe,λa U b m e=>?_⟩
 grind
 constructor;rintro⟨b,m⟩;rcases aen.1 m with m|m;obtain⟨x,c,e⟩:=(f.mem k id).1 ⟨b,m⟩;exact⟨x,afp _ c,e⟩;simp only[aeG,aet]at m;exact⟨_,afG _ (aeG.2 rfl),m.1.symm,m.2.1.symm⟩;rintro⟨x,c,T,e2⟩;rcases aen.1 c with c|c;obtain⟨b,m⟩:=(f.mem k id).2 ⟨x,c,T,e2⟩
 grind
 simp_all;unfold DX;rw[aeD,afQ];refine⟨?_,ahe,λa U b m e=>?_⟩;rw[afk (g:=λx=>bn x.id) λx c=>by simp only[if_neg (d x c)]];exact f.bnd;obtain⟨x,c,rfl⟩:=ael.1 U;simp only[aex,afh,aeG,if_true]at m;simp only[if_neg (d x c)]at e;have:=f.blt x c;omega;rcases aen.1 c with c|c;simp only[if_neg (d x c)];have:=f.blt x c;omega;simp_all;have b1:i≠iv:=λe=>M (.inl e)
 have b2:i≠mn:=λe=>M (.inr (.inl e))
 have b3:i≠mi:=λe=>M (.inr (.inr (.inl e)))
 grind
 have b1:it≠iv:=λe=>by rw[e,f.v]at j;simp at j
 have b2:it≠mn:=λe=>by rw[e,f.n]at j;simp at j
 grind
 simp[*];rw[<- o,yh];have:(DX l last dn v).findIdx? (λx=>decide (x.id=last+1))=some l.length:=by
  unfold DX
  grind
 simp[*];rw[yk]
 grind
 rw[yh];simp_all
end
set_option maxHeartbeats 8000000
set_option maxRecDepth 100000
section
variable {L:List Blk}{iv mn mi it:Nat}{nb bn:Int->Nat}{ck ci:Nat}{rs:List TKy}{suf:List Rdn}{last:Int}{l:List aw}
theorem adK(r:TOk suf last l)(an:mn≠mi)(a5:l.length<=1000000)(ad:0<=last)(a4:last<=1000000)(k:L[it]?=some (.cells [.ptr iv 0]))(w:aU L iv mn mi nb bn ck ci rs suf last l){dn tn:List Rdn}{v:List Atr}(O:dnB dn)(ap:dnB tn)(ab:v.length<=1100000)(ai:∀a∈v,a.2.length<=1100000)(ha:dd suf l 1 dn tn=0){K:aeh}(h:∀L' D F C E z,aU L' iv mn mi D F C E z suf (last+1) (DX l last dn v)->L'[it]?=some (.cells [.ptr iv 0])->aM (OfT iv mn mi nb l) L L'->K (.int .i64 0) L'):
  aeg 31 [.ptr it 0,.agg [.int .i64 1,dnA dn,dnA tn,atR v]] L K:=by
 obtain⟨p,_⟩:=r.canA ha;have J:=p.ok;have al:aO l dn=0:=r.find0.2 (yy.2 λ_ x f=>p.no x f);have N:=w.v;have P:=w.n;have m:iv<L.length:=(aei.1 N).1;have I:mn<L.length:=(aei.1 P).1;have H:it<L.length:=(aei.1 k).1;have Z:iv≠mn:=λe=>by have:=w.v;rw[e,w.n]at this;simp at this
 have a0:iv≠it:=λe=>by have:=w.v;rw[e,k]at this;simp at this
 have av:∀X:List Blk,(L++X)[iv]?=some (.cells [dnA suf,.lmap mn,.lmap mi,.int .i64 last]):=λX=>by rw[aem m];exact N
 have bb:∀X:List Blk,(L++X)[it]?=some (.cells [.ptr iv 0]):=λX=>by rw[aem H];exact k
 have sv:∀(X:List Blk) b,(L++X).set iv b=L.set iv b++X:=λX b=>af5 _ _ m
 have a6:∀(X:List Blk) b,(L.set iv b++X)[iv]?=some b:=λX b=>by rw[aem (by simpa using m)];simp[m]
 have a':∀(X:List Blk) b,(L.set iv b++X)[it]?=some (.cells [.ptr iv 0]):=λX b=>by rw[aem (by simpa using H),aeo a0];exact k
 have a9:∀(X:List Blk) b,(L.set iv b++X)[mn]?=some (.map (l.map (eP nb bn)) ck):=λX b=>by rw[aem (by simpa using I),aeo Z];exact P
 have a_:∀(X:List Blk) b c,(L.set iv b++X).set mn c=(L.set iv b).set mn c++X:=λX b c=>af5 _ _ (by simpa using I)
 have bk:∀(X:List Blk) (b c:Blk),(L.set iv b++c::X)[L.length]?=some c:=λX b c=>by rw[aey ahe];simp
 have bd:∀(X:List Blk) (b c d:Blk),((L.set iv b).set mn d++c::X)[L.length]?=some c:=λX b c d=>by rw[aey ahe];simp
 have kk1:Hid (∀{X:List Blk}{K:aeh},K (.int .i64 0) (L++X)->aeg 13 [.ptr iv 0,.agg [.int .i64 1,dnA dn,dnA tn,atR v]] (L++X) K):=@hid _ (by intro X K q;exact yB r ahd (w.app X) O ap (by rw[ha];exact q))
 have kk2:Hid (∀{X:List Blk}{K:aeh},K (.int .i64 0) (L++X)->aeg 26 [.ptr iv 0,dnA dn] (L++X) K):=@hid _ (by intro X K q;exact l8 O r (w.app X) (by rw[al];exact q))
 have kk3:Hid (Ctr Tryz.prog 68 [atR v] (atR v)):=@hid _ (by intro L K q;exact OK ab ai q);have w1:IntKind.i64.wrap (last+1)=last+1:=ac ahd ahd;have a8:aT .int (.int .i64 (last+1))=true:=rfl;have a3:∀b,(L.set iv b).length=L.length:=λb=>List.length_set
 obtain⟨j,U⟩:∃j:Blk,j=.cells [.int .i64 1,dnA dn,dnA tn,atR v]:=⟨_,rfl⟩;obtain⟨A,hA⟩:=aec ((L.set iv (.cells [dnA suf,.lmap mn,.lmap mi,.int .i64 (last+1)])).set mn (.map ((l.map (eP nb bn))++[(.int .i64 (last+1),.ptr (L.length+1) 0,ck)]) (ck+1)));obtain⟨B,V⟩:=aec (((A++[j,.cells [.sl [] 0 (some 0),.sl [] 0 (some 0),atR v,.int .i64 0]]).set (L.length+1) (.cells [dnA dn,.sl (ay (NK dn).reverse) dn.length none,atR v,.int .i64 0])).set mi (.map ((rs++[(aN true dn,last+1,ci)]).map kyA) (ci+1))++[.cells [.sl (ay (NK dn).reverse) dn.length none]]);have M:A.length=L.length:=by rw[<- hA];simp
 have a2:mi<L.length:=(aei.1 w.i).1;obtain⟨t,s,p1,p2,p3,p4,p5,p6,p7,p8⟩:=w.added r an k J p.no v j (.cells [.sl [] 0 (some 0),.sl [] 0 (some 0),atR v,.int .i64 0]) (.cells [.sl (ay (NK dn).reverse) dn.length none]) A B hA.symm V.symm;have pb:B[L.length]?=some j:=by rw[<- V,aem (by simp;omega),aeo ahd,aeo ahd,aey ahd,M];simp
 have a7:(A++[j,.cells [.sl [] 0 (some 0),.sl [] 0 (some 0),atR v,.int .i64 0]])[L.length]?=some j:=by rw[aey ahd,M];simp
 have u:B[it]?=some (.cells [.ptr iv 0]):=s.get k ((w.toK r).noIt k);obtain⟨g,R,Q⟩:=r.add ad p v;have kk4:Hid (∀{K:aeh},K (.tup []) B->aeg 69 [.ptr it 0,.int .i64 (last+1),dnA dn] (A++[j,.cells [.sl [] 0 (some 0),.sl [] 0 (some 0),atR v,.int .i64 0]]) K):=@hid _ (by intro K q;refine Yl J p1 p2 p3 p6 p5 p4 p7 ?_;rw[V];exact q)
 have kk5:Hid (∀{K:aeh},(∀L' D F C E z,aU L' iv mn mi D F C E z suf (last+1) (DX l last dn v)->L'[it]?=some (.cells [.ptr iv 0])->aM (OfT iv mn mi nb l) L L'->K (.tup []) L')->aeg 70 [.ptr it 0,dnA dn,.int .i64 1] B K):=@hid _ (by
  intro K q;have a1:dn≠[]:=λe=>by rcases p.par with T|⟨x,f,T⟩;exact r.inv.sne (by rw[<- T,e];rfl);exact r.inv.ne (fK f) (by rw[T,e];rfl)
  have Y:∀i,(iU l i:Int)<=l.length:=λi=>by
   unfold iU aP;cases DU l i with
   |none=>simp
   |some x=>simp only;exact Int.ofNat_le.2 (aeR (agr _ _) (by simp[cV]))
  refine GK O a1 g (λx f=>⟨x,f,rfl⟩) (λx f=>(g.ids x f).1) u t ahd (λi=>?_) λL' hK hb=>?_
  split;omega;have:=Y i;omega;refine q L' _ _ _ _ _ (hK.toT λx f=>?_) (hb.get u (t.noIt u)) (s.trans2 hb λi hi=>?_);rw[Q (NK x.nm)];have G:(x.id=aO (DX l last dn v) dn.tail)↔(NK dn).tail=NK x.nm:=by
   rw[<- L5];constructor;intro e;unfold aO at e;cases hq:atE (DX l last dn v) dn.tail with
   |none=>rw[hq]at e;have:=(g.ids x f).1;simp only at e;omega
   | some y =>
     rw[hq]at e;obtain⟨_,hy,T⟩:=cc hq;rw[g.byI f hy e,T]
   intro e;unfold aO;rw[g.at f J.tail e]
  have S:(if x.id=last+1 then(0:Int)else(iU l x.id:Nat))=(aP (cV l) (NK x.nm):Nat):=by rcases aen.1 f with f|f;rw[if_neg (by have:=(r.ids x f).2;omega),r.kidsE f];rw[aeG.1 f,if_pos rfl];have:=Q (NK dn);rw[R]at this;simp only;omega
  by_cases W:(NK dn).tail=NK x.nm;rw[if_pos W,if_pos (G.2 W),S];simp;rw[if_neg W,if_neg (λe=>W (G.1 e)),S];simp;rintro(e|e|e|⟨x,f,e⟩);exact .inl e;exact .inr (.inl e);exact .inr (.inr (.inl e));rcases aen.1 f with f|f;exact .inr (.inr (.inr ⟨x,f,by rw[e];exact if_neg (by have:=(r.ids x f).2;omega)⟩));rw[aeG.1 f]at e;simp only[if_true]at e;omega)
 replace h:=hid h;clear V t s p6 p7 g R Q p N P k M;subst U;refine aef em ?_;simp only[aeB,aeY,Nat.reduceAdd,agx,agw,ae6,ae5];refine ahl ?_;intro L' D F C E z q1 q2 q3;replace q1:=hid q1;replace q2:=hid q2;replace q3:=hid q3;refine wk ?_;exact ag (h.o L' _ _ _ _ _ q1.o q2.o q3.o)
end
set_option maxHeartbeats 8000000
set_option maxRecDepth 100000
theorem Mj{β γ:Type}(f:β->γ):∀(l:List β) (n:Nat),(l.eraseIdx n).map f=(l.map f).eraseIdx n
 |[],_=>rfl
 |x::l,0=>rfl
 |x::l,n+1=>by simp only[agB,aex,Mj f l n]
theorem nF{β γ:Type}[DecidableEq γ](f:β->γ):∀(l:List β) (k:γ),(l.map f).Nodup->∀n,l.findIdx? (λx=>decide (f x=k))=some n->l.eraseIdx n=l.filter λx=>decide (f x≠k)
 |[],k,_,n,h=>by simp at h
 | x::l,k,hn,n,h=>by
   rw[aex,aff]at hn;rw[afJ]at h;by_cases c:f x=k
   .rw[decide_eq_true c]at h;simp only[if_true,aej]at h;subst h;rw[List.filter_cons_of_neg (by simpa using c)];exact(List.filter_eq_self.2 λy a=>by simp only[ne_eq,decide_eq_true_eq];intro e;exact hn.1 (ael.2 ⟨y,a,by rw[e,c]⟩)).symm
   .rw[decide_eq_false c]at h;simp only[aeE,if_false,aeK]at h;obtain⟨m,b,rfl⟩:=h;rw[List.filter_cons_of_pos (by simpa using c),agB,nF f l k hn.2 m b]
section
variable {L:List Blk}{iv mn mi it:Nat}{nb bn:Int->Nat}{ck ci:Nat}{rs:List TKy}{suf:List Rdn}{last:Int}{l lk:List aw}{kd:Int->Int}
theorem bc.nemi(h:bc L iv mn mi nb bn ck ci rs suf last l lk kd):iv≠mi:=λe=>by have:=h.v;rw[e,h.i]at this;simp at this
theorem bc.nemn(h:bc L iv mn mi nb bn ck ci rs suf last l lk kd):iv≠mn:=λe=>by have:=h.v;rw[e,h.n]at this;simp at this
theorem bc.nenb(h:bc L iv mn mi nb bn ck ci rs suf last l lk kd){x:aw}(b:x∈l):nb x.id≠iv/\nb x.id≠mn/\nb x.id≠mi:=by have a:=h.nd x b;exact⟨λe=>by rw[e,h.v]at a;simp[cr]at a,λe=>by rw[e,h.n]at a;simp at a,λe=>by rw[e,h.i]at a;simp at a⟩
theorem bc.delk(h:bc L iv mn mi nb bn ck ci rs suf last l lk kd)(q:mn≠mi){y:aw}(A:y∈lk)(G:∀x∈lk,aN true x.nm=aN true y.nm↔x.id=y.id):
  ∃j,bF (.str (aN true y.nm)) (rs.map kyA) 0=some (some (j,.int .i64 y.id))/\bc (L.set mi (.map ((rs.map kyA).eraseIdx j) ci)) iv mn mi nb bn ck ci (rs.eraseIdx j) suf last l (Oo lk y.id) kd:=by
 obtain⟨b,D⟩:=(h.mem (aN true y.nm) y.id).2 ⟨y,A,rfl,rfl⟩;rw[yk];rcases iy (f:=λr:TKy=>decide (r.1=aN true y.nm)) (l:=rs)with⟨g,m⟩|⟨n,g,H,m⟩
 grind
 have B:=afK m;have w:=afL m;simp only[decide_eq_true_eq]at w;have E:rs.getD n default=(aN true y.nm,y.id,b):=bO h.keys B D w;have o:=(aei.1 h.i).1;have s:=nF (λr:TKy=>r.1) rs (aN true y.nm) h.keys n g;refine⟨n,by rw[g];simp only[aeC,E,afE],?_⟩;have u:∀r:TKy,r∈rs.eraseIdx n↔r∈rs/\r.1≠aN true y.nm:=λr=>by rw[s,ae0];simp
 refine⟨by rw[aeo (Ne.symm h.nemi)];exact h.v,by rw[aeo (Ne.symm q)];exact h.n,by rw[aeQ o,Mj],λx a=>by rw[aeo (Ne.symm (h.nenb a).2.2)];exact h.nd x a,h.inj,(List.Sublist.map _ (ag2 ..)).nodup h.keys,λk id=>?_,h.bnd,h.blt⟩;constructor;rintro⟨c,z⟩;obtain⟨p,F⟩:=(u _).1 z;obtain⟨x,a,d,e⟩:=(h.mem k id).1 ⟨c,p⟩;refine⟨x,ae0.2 ⟨a,?_⟩,d,e⟩
 grind
 rintro⟨x,a,d,e⟩;obtain⟨t,C⟩:=ae0.1 a;obtain⟨c,z⟩:=(h.mem k id).2 ⟨x,t,d,e⟩
 grind
theorem bc.deln(h:bc L iv mn mi nb bn ck ci rs suf last l lk kd)(b:mn≠mi)(g:(l.map (·.id)).Nodup){y:aw}(o:y∈l):
  ∃j v,bF (.int .i64 y.id) (l.map (eP nb bn)) 0=some (some (j,v))/\bc (L.set mn (.map ((l.map (eP nb bn)).eraseIdx j) ck)) iv mn mi nb bn ck ci rs suf last (Oo l y.id) lk kd:=by
 rw[yh];rcases iy (f:=λx:aw=>decide (x.id=y.id)) (l:=l)with⟨d,m⟩|⟨n,d,p,m⟩
 grind
 have e:=(aei.1 h.n).1;have c:=nF (λx:aw=>x.id) l y.id g n d;have sub:∀x∈Oo l y.id,x∈l:=λx a=>(ae0.1 a).1
 refine⟨n,_,by rw[d];simp;rfl,?_⟩;refine⟨by rw[aeo (Ne.symm h.nemn)];exact h.v,by rw[aeQ e,<- Mj,c];rfl,by rw[aeo b];exact h.i,λx a=>by rw[aeo (Ne.symm (h.nenb (sub x a)).2.1)];exact h.nd x (sub x a),λx a z k=>h.inj x (sub x a) z (sub z k),h.keys,h.mem,?_,λx a=>h.blt x (sub x a)⟩;exact(List.Sublist.map _ List.filter_sublist).nodup h.bnd
theorem bc.cha(h:bc L iv mn mi nb bn ck ci rs suf last l lk kd){y:aw}(j:y∈l)(v:List Atr):
  bc (L.set (nb y.id) (.cells [dnA y.nm,.sl (ay (pth y)) y.nm.length none,atR v,.int .i64 (kd y.id)])) iv mn mi nb bn ck ci rs suf last (yR l y.id v) (yR lk y.id v) kd:=by
 have r:=h.nd y j;have G:=(aei.1 r).1;obtain⟨u,C,n3⟩:=h.nenb j;have f:(yR l y.id v).map (eP nb bn)=l.map (eP nb bn):=by
  unfold yR;rw[aeH];refine afk λx _=>?_
  simp only[agq];split<;>rfl
 have o:(yR l y.id v).map (λx=>bn x.id)=l.map (λx=>bn x.id):=by
  unfold yR;rw[aeH];refine afk λx _=>?_
  grind
 have back:∀{m:List aw} {x},x∈yR m y.id v->∃z∈m,z.id=x.id/\z.nm=x.nm/\(z.id=y.id->x.av=v)/\(z.id≠y.id->x=z):=λ{m x} d=>by
  obtain⟨z,c,rfl⟩:=ael.1 d
  grind
 have p:∀{m:List aw} {z},z∈m->∃x∈yR m y.id v,x.id=z.id/\x.nm=z.nm:=λ{m z} c=>by refine⟨_,ael.2 ⟨z,c,rfl⟩,?_,?_⟩<;>split<;>rfl
 refine⟨by rw[aeo u];exact h.v,by rw[aeo C,f];exact h.n,by rw[aeo n3];exact h.i,λx d=>?_,λx d z c e=>?_,h.keys,λk id=>?_,by rw[o];exact h.bnd,λx d=>?_⟩;obtain⟨z,c,g,q,I,w⟩:=back d;by_cases e:nb y.id=nb z.id;have F:=h.inj y j z c e;have s:cr kd y=cr kd z:=by have E:=h.nd z c;simp_all
 unfold cr at s⊢;have H:pth x=pth z:=by unfold pth;rw[q]
 simp_all;have t:z.id≠y.id:=λA=>e (by rw[A])
 rw[w t,aeo e];exact h.nd z c;obtain⟨a,B,g,_⟩:=back d;obtain⟨b,D,q,_⟩:=back c;rw[<- g,<- q]at e⊢;exact h.inj a B b D e;rw[h.mem k id]
 grind
 obtain⟨z,c,g,_⟩:=back d;rw[<- g];exact h.blt z c
def nmT(l:List aw)(id:Int)(d:List Rdn):List aw:=l.map λx=>if x.id=id then{x with nm:=d}else x
theorem bc.ren(h:bc L iv mn mi nb bn ck ci rs suf last l lk kd)(u:mn≠mi){y:aw}(p:y∈l){d:List Rdn}(J:∀x∈lk,aN true x.nm≠aN true d)(X:List Blk):
  bF (.str (aN true d)) (rs.map kyA) 0=some none /\
  bc ((L.set (nb y.id) (.cells [dnA d,.sl (ay (NK d).reverse) d.length none,atR y.av,.int .i64 (kd y.id)])).set mi (.map ((rs++[(aN true d,y.id,ci)]).map kyA) (ci+1))++X) iv mn mi nb bn ck (ci+1) (rs++[(aN true d,y.id,ci)]) suf last (nmT l y.id d) (lk++[{y with nm:=d}]) kd:=by
 have B:∀r∈rs,r.1≠aN true d:=λr hr e=>by obtain⟨x,c,g,_⟩:=(h.mem r.1 r.2.1).1 ⟨r.2.2,hr⟩;simp_all
 refine⟨by rw[yk,ag0.2 λr hr=>by simpa using B r hr];rfl,bc.app ?_ X⟩;have q:=h.nd y p;have N:=(aei.1 q).1;have s:=(aei.1 h.i).1;obtain⟨E,G,n3⟩:=h.nenb p;have m:(nmT l y.id d).map (eP nb bn)=l.map (eP nb bn):=by
  unfold nmT;rw[aeH];refine afk λx _=>?_
  simp only[agq];split<;>rfl
 have w:(nmT l y.id d).map (λx=>bn x.id)=l.map (λx=>bn x.id):=by
  unfold nmT;rw[aeH];refine afk λx _=>?_
  grind
 have back:∀{x},x∈nmT l y.id d->∃z∈l,z.id=x.id/\z.av=x.av/\(z.id=y.id->x.nm=d)/\(z.id≠y.id->x=z):=λ{x} c=>by
  obtain⟨z,f,rfl⟩:=ael.1 c
  grind
 refine⟨by rw[aeo (Ne.symm h.nemi),aeo E];exact h.v,by rw[aeo (Ne.symm u),aeo G,m];exact h.n,by rw[aeQ (by simpa using s)],λx c=>?_,λx c z f e=>?_,?_,λk id=>?_,by rw[w];exact h.bnd,λx c=>?_⟩;obtain⟨z,f,g,o,D,F⟩:=back c;rw[<- g,aeo (Ne.symm (h.nenb f).2.2)];by_cases e:nb y.id=nb z.id;have H:=h.inj y p z f e;have t:cr kd y=cr kd z:=by have M:=h.nd z f;simp_all
 unfold cr at t⊢;have K:pth x=(NK d).reverse:=by unfold pth;rw[D H.symm]
 simp_all;have A:z.id≠y.id:=λI=>e (by rw[I])
 rw[F A,aeo e];exact h.nd z f;obtain⟨a,C,g,_⟩:=back c;obtain⟨b,j,o,_⟩:=back f;rw[<- g,<- o]at e⊢;exact h.inj a C b j e;rw[aeD,afQ];refine⟨h.keys,ahe,λa C b j e=>?_⟩
 grind
 constructor;rintro⟨b,j⟩;rcases aen.1 j with j|j;obtain⟨x,c,e⟩:=(h.mem k id).1 ⟨b,j⟩
 grind
 simp_all;rintro⟨x,c,g,o⟩;rcases aen.1 c with c|c;obtain⟨b,j⟩:=(h.mem k id).2 ⟨x,c,g,o⟩
 grind
 simp_all;obtain⟨z,f,g,_⟩:=back c;rw[<- g];exact h.blt z f
end
set_option maxHeartbeats 8000000
set_option maxRecDepth 100000
theorem WE{a b:List Rdn}(h:NK a=NK b):aN true a=aN true b:=by unfold aN;unfold NK at h;rw[h]
theorem PF(l:List aw)(i:Int):(iU l i:Int)<=l.length:=by
 unfold iU aP;cases DU l i with
 |none=>simp
 |some x=>simp only;exact Int.ofNat_le.2 (aeR (agr _ _) (by simp[cV]))
theorem TOk.parI{suf:List Rdn}{last:Int}{l:List aw}(h:TOk suf last l)(a:x∈l){d:List Rdn}(hd:OkD d):x.id=aO l d.tail↔(NK d).tail=NK x.nm:=by
 rw[<- L5];constructor;intro e;unfold aO at e;cases hq:atE l d.tail with
 |none=>rw[hq]at e;have:=(h.ids x a).1;simp only at e;omega
 | some y =>
   rw[hq]at e;obtain⟨_,b,c⟩:=cc hq;rw[h.byI a b e,c]
 intro e;unfold aO;rw[h.at a hd.tail e]
section
variable {L:List Blk}{iv mn mi it:Nat}{nb bn:Int->Nat}{ck ci:Nat}{rs:List TKy}{suf:List Rdn}{last:Int}{l:List aw}
theorem adI(m:TOk suf last l)(Q:mn≠mi)(a7:l.length<=1000000)(k:L[it]?=some (.cells [.ptr iv 0]))(M:aU L iv mn mi nb bn ck ci rs suf last l){dn tn:List Rdn}{v:AV}(p:dnB dn)(a4:dnB tn){x:aw}(T:atE l dn=some x)(I:dd suf l 2 dn tn=0){K:aeh}(h:∀L' y u,aU L' iv mn mi nb bn ck y u suf last (Oo l x.id)->L'[it]?=some (.cells [.ptr iv 0])->aM (OfT iv mn mi nb l) L L'->K (.int .i64 0) L'):
  aeg 31 [.ptr it 0,.agg [.int .i64 2,dnA dn,dnA tn,v]] L K:=by
 obtain⟨F,f,R⟩:=cc T;have S:aP (cV l) (NK x.nm)=0:=by unfold dd at I;rw[if_neg (by decide),if_neg (by decide),T]at I;simp only[if_true]at I;by_cases c:aP (cV l) (NK x.nm)=0;exact c;rw[if_pos c]at I;exact absurd I (by decide)
 obtain⟨w,Y⟩:=m.del f S;have Z:aO l dn=x.id:=by unfold aO;rw[T]
 have W:=M.toK m;have ab:aN true dn=aN true x.nm:=WE R.symm;have hu:∀z∈l,aN true z.nm=aN true x.nm↔z.id=x.id:=λz s=>⟨λe=>by rw[m.byN s f ((l9 (m.ok z s) (m.ok x f)).1 e)],λe=>by rw[m.byI s f e]⟩
 obtain⟨j1,a,an⟩:=W.delk Q f hu;obtain⟨j2,v2,a5,O⟩:=an.deln Q (by have hn:=m.inv.ids;unfold cV at hn;rw[aeH]at hn;exact hn) f
 have t:=M.v;have H:=M.n;have G:=M.i;have C:iv<L.length:=(aei.1 t).1;have D:mn<L.length:=(aei.1 H).1;have E:mi<L.length:=(aei.1 G).1;have r:it<L.length:=(aei.1 k).1;have N:=W.noIt k;have n1:mi≠it:=λe=>N (.inr (.inr (.inl e.symm)))
 have n2:mn≠it:=λe=>N (.inr (.inl e.symm))
 have n3:=W.nemi;have n4:=W.nemn;have av:∀X:List Blk,(L++X)[iv]?=some (.cells [dnA suf,.lmap mn,.lmap mi,.int .i64 last]):=λX=>by rw[aem C];exact t
 have bb:∀X:List Blk,(L++X)[it]?=some (.cells [.ptr iv 0]):=λX=>by rw[aem r];exact k
 have ai:∀X:List Blk,(L++X)[mi]?=some (.map (rs.map kyA) ci):=λX=>by rw[aem E];exact G
 have si:∀(X:List Blk) b,(L++X).set mi b=L.set mi b++X:=λX b=>af5 _ _ E
 have a8:∀(X:List Blk) b,(L.set mi b++X)[iv]?=some (.cells [dnA suf,.lmap mn,.lmap mi,.int .i64 last]):=λX b=>by rw[aem (by simpa using C),aeo (Ne.symm n3)];exact t
 have a':∀(X:List Blk) b,(L.set mi b++X)[it]?=some (.cells [.ptr iv 0]):=λX b=>by rw[aem (by simpa using r),aeo n1];exact k
 have a9:∀(X:List Blk) b,(L.set mi b++X)[mn]?=some (.map (l.map (eP nb bn)) ck):=λX b=>by rw[aem (by simpa using D),aeo (Ne.symm Q)];exact H
 have a_:∀(X:List Blk) b c,(L.set mi b++X).set mn c=(L.set mi b).set mn c++X:=λX b c=>af5 _ _ (by simpa using D)
 have bd:∀(X:List Blk) (b c d:Blk),((L.set mi b).set mn d++c::X)[L.length]?=some c:=λX b c d=>by rw[aey ahe];simp
 have kk1:Hid (∀{X:List Blk}{K:aeh},K (.int .i64 0) (L++X)->aeg 13 [.ptr iv 0,.agg [.int .i64 2,dnA dn,dnA tn,v]] (L++X) K):=@hid _ (by intro X K q;exact yB m ahd (M.app X) p a4 (by rw[I];exact q))
 have kk2:Hid (∀{X:List Blk}{K:aeh},K (.int .i64 x.id) (L++X)->aeg 26 [.ptr iv 0,dnA dn] (L++X) K):=@hid _ (by intro X K q;exact l8 p m (M.app X) (by rw[Z];exact q))
 have kk3:Hid (Ctr Tryz.prog 61 [dnA dn] (.tup [.str (aN true dn),.int .i64 0])):=@hid _ (by intro L K q;exact Mh p.1 p.2 (by rw[qv F];exact q))
 obtain⟨j,al⟩:∃j:Blk,j=.cells [.int .i64 2,dnA dn,dnA tn,v]:=⟨_,rfl⟩;obtain⟨A,hA⟩:=aec ((L.set mi (.map ((rs.map kyA).eraseIdx j1) ci)).set mn (.map ((l.map (eP nb bn)).eraseIdx j2) ck));rw[hA]at O;have ap:A.length=L.length:=by rw[<- hA];simp
 have bk:∀(X:List Blk) (c:Blk),(A++c::X)[L.length]?=some c:=λX c=>by rw[aey ahd,ap];simp
 have J:aM (OfT iv mn mi nb l) L A:=by rw[<- hA];exact(aM.set L (.inr (.inr (.inl rfl))) _).trans (aM.set _ (.inr (.inl rfl)) _)
 have P:=O.app [j];have g:(A++[j])[it]?=some (.cells [.ptr iv 0]):=by have a0:it<A.length:=(by rw[<- hA];simpa using r);rw[aem a0];exact J.get k N
 have kk4:Hid (∀{K:aeh},(∀L' y u,aU L' iv mn mi nb bn ck y u suf last (Oo l x.id)->L'[it]?=some (.cells [.ptr iv 0])->aM (OfT iv mn mi nb l) L L'->K (.tup []) L')->aeg 70 [.ptr it 0,dnA dn,.int .i64 (-1)] (A++[j]) K):=@hid _ (by
  intro K q;have a6:dn≠[]:=λe=>m.inv.ne (fK f) (by rw[R,e];rfl)
  refine GK p a6 w (λx T=>⟨x,T,rfl⟩) (λz s=>(w.ids z s).1) g P ahd (λi=>by have:=PF l i;omega) λL' a1 hb=>?_
  refine q L' _ _ (a1.toT λz s=>?_) (hb.get g (P.noIt g)) (((J.trans (aM.app A [j])).trans2 hb λi hi=>?_));have a3:z∈l:=(ae0.1 s).1;have h1:=Y (NK z.nm);rw[<- m.kidsE a3,R]at h1;have B:=w.parI s F;by_cases hp:(NK dn).tail=NK z.nm;rw[if_pos hp]at h1;rw[if_pos (B.2 hp)];omega;rw[if_neg hp]at h1;rw[if_neg (λe=>hp (B.1 e))];omega;rintro(e|e|e|⟨z,s,e⟩);exact .inl e;exact .inr (.inl e);exact .inr (.inr (.inl e));exact .inr (.inr (.inr ⟨z,(ae0.1 s).1,e⟩)))
 have ad:aT .str (.str (aN true dn))=true:=rfl;have U:aT .int (.int .i64 x.id)=true:=rfl;rw[<- ab]at a;obtain⟨tk,V⟩:=aec (aN true dn);obtain⟨xi,a2⟩:=aec (x.id);rw[V]at a kk3 ad;rw[a2]at a a5 kk2 U h;replace h:=hid h;replace a:=hid a;clear W an O P J g hu ab V t H G k M m w Y S Z F I;have a:=a.o;subst al;refine aef em ?_;intro L' y u q1 q2 q3;replace q1:=hid q1;replace q2:=hid q2;replace q3:=hid q3;refine wk ?_;exact ag (h.o L' _ _ q1.o q2.o q3.o)
theorem adJ(p:TOk suf last l)(ab:l.length<=1000000)(d:L[it]?=some (.cells [.ptr iv 0]))(m:aU L iv mn mi nb bn ck ci rs suf last l){dn tn:List Rdn}{v:List Atr}(A:dnB dn)(N:dnB tn)(J:v.length<=1100000)(M:∀a∈v,a.2.length<=1100000){x:aw}(I:atE l dn=some x){K:aeh}(h:∀L',aU L' iv mn mi nb bn ck ci rs suf last (yR l x.id v)->L'[it]?=some (.cells [.ptr iv 0])->aM (OfT iv mn mi nb l) L L'->K (.int .i64 0) L'):
  aeg 31 [.ptr it 0,.agg [.int .i64 3,dnA dn,dnA tn,atR v]] L K:=by
 obtain⟨G,e,Z⟩:=cc I;have P:dd suf l 3 dn tn=0:=by unfold dd;rw[if_neg (by decide),if_neg (by decide),I];rfl
 have C:aO l dn=x.id:=by unfold aO;rw[I]
 have D:=m.toK p;have u:=D.cha e v;have i:aM (OfT iv mn mi nb l) L (L.set (nb x.id) (.cells [dnA x.nm,.sl (ay (pth x)) x.nm.length none,atR v,.int .i64 (iU l x.id:Nat)])):=aM.set L (.inr (.inr (.inr ⟨x,e,rfl⟩))) _;have F:=D.noIt d;have H:aU (L.set (nb x.id) (.cells [dnA x.nm,.sl (ay (pth x)) x.nm.length none,atR v,.int .i64 (iU l x.id:Nat)])) iv mn mi nb bn ck ci rs suf last (yR l x.id v):=u.toT λz R=>by obtain⟨y,U,rfl⟩:=ael.1 R;rw[Px];have T:(if y.id=x.id then{y with av:=v}else y).id=y.id:=(by split<;>rfl);have V:(if y.id=x.id then{y with av:=v}else y).nm=y.nm:=(by split<;>rfl);rw[T,V,p.kidsE U]
 have c:=h _ (H.app [.cells [.int .i64 3,dnA dn,dnA tn,atR v]]) ((i.trans (aM.app _ _)).get d F) (i.trans (aM.app _ _));have k:=m.v;have j:=m.n;have w:iv<L.length:=(aei.1 k).1;have r:mn<L.length:=(aei.1 j).1;have t:it<L.length:=(aei.1 d).1;have f:=D.nd x e;have g:nb x.id<L.length:=(aei.1 f).1;unfold cr at f;have av:∀X:List Blk,(L++X)[iv]?=some (.cells [dnA suf,.lmap mn,.lmap mi,.int .i64 last]):=λX=>by rw[aem w];exact k
 have Y:∀X:List Blk,(L++X)[it]?=some (.cells [.ptr iv 0]):=λX=>by rw[aem t];exact d
 have an:∀X:List Blk,(L++X)[mn]?=some (.map (l.map (eP nb bn)) ck):=λX=>by rw[aem r];exact j
 have O:∀X:List Blk,(L++X)[nb x.id]?=some (.cells [dnA x.nm,.sl (ay (pth x)) x.nm.length none,atR x.av,.int .i64 (iU l x.id:Nat)]):=λX=>by rw[aem g];exact f
 have S:∀(X:List Blk) b,(L++X).set (nb x.id) b=L.set (nb x.id) b++X:=λX b=>af5 _ _ g
 have kk1:Hid (∀{X:List Blk}{K:aeh},K (.int .i64 0) (L++X)->aeg 13 [.ptr iv 0,.agg [.int .i64 3,dnA dn,dnA tn,atR v]] (L++X) K):=@hid _ (by intro X K q;exact yB p ahd (m.app X) A N (by rw[P];exact q))
 have kk2:Hid (∀{X:List Blk}{K:aeh},K (.int .i64 x.id) (L++X)->aeg 26 [.ptr iv 0,dnA dn] (L++X) K):=@hid _ (by intro X K q;exact l8 A p (m.app X) (by rw[C];exact q))
 have kk3:Hid (Ctr Tryz.prog 68 [atR v] (atR v)):=@hid _ (by intro L K q;exact OK J M q);have B:aT .int (.int .i64 x.id)=true:=rfl;rcases m.node x.id with⟨E,_⟩|⟨x',n,E,_,_,W,_⟩;rw[p.ent e]at E;cases E;obtain⟨q,Q⟩:∃q:Int,(iU l x.id:Nat)=q:=⟨_,rfl⟩;rw[Q]at O c;obtain⟨xi,s⟩:=aec (x.id);rw[s]at B W kk2 O S c;replace h:=hid c;clear c D u i k j d m p C G P s Q e E f;unfold atR at kk1 kk3 h⊢;refine aef em ?_;exact ag h.o
end
set_option maxHeartbeats 8000000
set_option maxRecDepth 100000
def Jk(l:List aw)(dn:List Rdn):List aw:=l.filter λz => !gp z.nm dn
theorem me{l:List aw}{z:aw}:z∈Jk l dn↔z∈l/\gp z.nm dn=false:=by unfold Jk;rw[ae0];simp
theorem TOk.cut{suf:List Rdn}{last:Int}{l:List aw}(h:TOk suf last l)(hd:OkD dn):TOk suf last (Jk l dn):=by
 have sub:∀z∈Jk l dn,z∈l:=λz a=>(me.1 a).1
 have d:(cV (Jk l dn)).Sublist (cV l):=List.filter_sublist.map _;refine⟨h.sok,λz a=>h.ok z (sub z a),⟨h.inv.sne,(d.map _).nodup h.inv.nd,(d.map _).nodup h.inv.ids,λm c=>h.inv.un m (d.subset c),λm c=>?_⟩,λz a=>h.ids z (sub z a)⟩;obtain⟨z,a,rfl⟩:=ael.1 c;obtain⟨b,i⟩:=me.1 a;rcases h.inv.par _ (fK b)with e|⟨k,g,e⟩;simp_all;obtain⟨w,j,rfl⟩:=ael.1 g;refine .inr ⟨_,fK (me.2 ⟨j,?_⟩),e⟩;cases hu:gp w.nm dn with
 |false=>rfl
 | true =>
   have f:=(de.1 hu).2.2;simp only at e;rw[e]at f;have:gp z.nm dn=true:=de.2 ⟨h.ok z b,hd,f.trans (af8 _)⟩;simp_all
def PA(l:List aw)(dn tn:List Rdn)(ids:List Int):List aw:=l.map λz=>if z.id∈ids then{z with nm:=nD z.nm dn.length tn}else z
theorem aa7(l:List aw)(dn tn:List Rdn):PA l dn tn []=l:=by unfold PA;simp
theorem Y7{suf:List Rdn}{last:Int}{l:List aw}(h:TOk suf last l)(dn tn:List Rdn)(a:y∈l)(c:y.id∉ids):nmT (PA l dn tn ids) y.id (nD y.nm dn.length tn)=PA l dn tn (ids++[y.id]):=by
 unfold nmT PA;rw[aeH];refine afk λz b=>?_
 by_cases e:z.id=y.id;have:=h.byI b a e;simp[*]
 grind
theorem acL{l:List aw}(dn tn:List Rdn)(b:y∈l)(a:y.id∉ids):y∈PA l dn tn ids:=ael.2 ⟨y,b,if_neg a⟩
theorem aa8{l:List aw}(dn tn:List Rdn)(h:∀z∈l,z.id∈ids↔gp z.nm dn=true):PA l dn tn ids=qu l dn tn:=by unfold PA qu;simp_all
theorem Pc{l:List aw}{z:aw}(h:z∈qu l dn tn):∃y∈l,y.id=z.id/\z=(if gp y.nm dn=true then{y with nm:=nD y.nm dn.length tn}else y):=by
 obtain⟨y,a,rfl⟩:=ael.1 h
 grind
theorem YI{suf:List Rdn}{last:Int}{l:List aw}(h:TOk suf last l){dn tn:List Rdn}(hd:OkD dn){y:aw}(a:y∈l):NK (if gp y.nm dn=true then{y with nm:=nD y.nm dn.length tn}else y).nm=ren (NK dn) (NK tn) (NK y.nm):=by by_cases c:gp y.nm dn=true;rw[if_pos c,V5 c];rw[if_neg c,fu λb=>c (de.2 ⟨h.ok y a,hd,b⟩)]
theorem TOk.movK{suf:List Rdn}{last:Int}{l:List aw}(h:TOk suf last l)(a:adl suf l x dn tn)(b:y∈l):
  (aP (cV (qu l dn tn)) (NK (if gp y.nm dn=true then{y with nm:=nD y.nm dn.length tn}else y).nm):Int)=(if y.id=aO (qu l dn tn) tn.tail then(if y.id=aO (Jk l dn) dn.tail then(iU l y.id:Int) + -1 else iU l y.id)+1 else(if y.id=aO (Jk l dn) dn.tail then(iU l y.id:Int) + -1 else iU l y.id)):=by
 obtain⟨f,j⟩:=h.mov a;have d:=h.cut a.ok;rw[YI h a.ok b,j y b,h.kidsE b];have q:y.id=aO (Jk l dn) dn.tail↔NK y.nm=(NK dn).tail:=by
  cases hu:gp y.nm dn with
  |false=>rw[d.parI (me.2 ⟨b,hu⟩) a.ok];exact eq_comm
  | true =>
    constructor
    .intro e;unfold aO at e;cases hq:atE (Jk l dn) dn.tail with
     |none=>rw[hq]at e;have:=(h.ids y b).1;simp only at e;omega
     | some w =>
       rw[hq]at e;obtain⟨o,n⟩:=me.1 (cc hq).2.1;have:=h.byI b o e;simp_all
    .intro e;have c:=(de.1 hu).2.2.length_le;rw[e,af9]at c;have:NK dn≠[]:=λg=>h.inv.ne (fK a.mem) (by rw[a.nk,g])
     have:=afa.2 this;omega
 have p:y.id=aO (qu l dn tn) tn.tail↔NK y.nm=(NK tn).tail:=by have m:(if gp y.nm dn=true then{y with nm:=nD y.nm dn.length tn}else y)∈qu l dn tn:=ael.2 ⟨y,b,rfl⟩;have c:=f.parI m a.tok;rw[YI h a.ok b]at c;rw[show(if gp y.nm dn=true then{y with nm:=nD y.nm dn.length tn}else y).id=y.id by split<;>rfl]at c;rw[c];constructor;intro e;by_cases i:NK dn <:+ NK y.nm;obtain⟨w,k⟩:=i;rw[<- k,gf]at e;have:=congrArg List.length e;rw[af9,aez]at this;have:=afa.2 (λg=>a.tne (Vx.1 g));omega;rw[fu i]at e;exact e.symm;intro e;rw[e,fu a.nun]
 grind
section
variable {L:List Blk}{iv mn mi it:Nat}{nb bn:Int->Nat}{ck ci:Nat}{rs:List TKy}{suf:List Rdn}{last:Int}{l lk:List aw}{kd:Int->Int}
theorem bc.lkE(h:bc L iv mn mi nb bn ck ci rs suf last l lk kd){lk':List aw}(e:∀z,z∈lk↔z∈lk'):bc L iv mn mi nb bn ck ci rs suf last l lk' kd :=
 ⟨h.v,h.n,h.i,h.nd,h.inj,h.keys,λk id=>by rw[h.mem k id];exact⟨λ⟨x,b,a⟩=>⟨x,(e x).1 b,a⟩,λ⟨x,b,a⟩=>⟨x,(e x).2 b,a⟩⟩,h.bnd,h.blt⟩
def lkD(l:List aw)(ys:List aw):List aw:=l.filter λz => !ys.any λy=>decide (y.id=z.id)
theorem GR{l a:List aw}{z:aw}:z∈lkD l a↔z∈l/\∀y∈a,y.id≠z.id:=by unfold lkD;simp
theorem Y9(l a:List aw)(y:aw):∀z,z∈Oo (lkD l a) y.id↔z∈lkD l (a++[y]):=λz=>by
 unfold Oo;rw[ae0,GR,GR]
 grind
end
set_option maxHeartbeats 8000000
set_option maxRecDepth 100000
theorem OfT.lt{L:List Blk}{iv mn mi:Nat}{nb bn:Int->Nat}{ck ci:Nat}{rs:List TKy}{suf:List Rdn}{last:Int}{l lk:List aw}{kd:Int->Int}(h:bc L iv mn mi nb bn ck ci rs suf last l lk kd){i:Nat}(a:OfT iv mn mi nb l i):i<L.length:=by rcases a with rfl|rfl|rfl|⟨x,b,rfl⟩;exact(aei.1 h.v).1;exact(aei.1 h.n).1;exact(aei.1 h.i).1;exact(aei.1 (h.nd x b)).1
theorem Yx{suf:List Rdn}{last:Int}{l:List aw}(b:TOk suf last l)(x:aw)(s:Int):((scL l x s).map (·.id)).Nodup:=by have a:=b.inv.ids;unfold cV at a;rw[aeH]at a;have:((l.filter (ig x s)).map (·.id)).Nodup:=(List.filter_sublist.map _).nodup a;exact((afN _ _).map _).nodup_iff.2 this
section
variable {L:List Blk}{iv mn mi it:Nat}{nb bn:Int->Nat}{ck ci:Nat}{rs:List TKy}{suf:List Rdn}{last:Int}{l:List aw}
theorem adG(r:TOk suf last l)(dt:mn≠mi)(eL:l.length<=1000000)(a9:L[it]?=some (.cells [.ptr iv 0]))(hc:aU L iv mn mi nb bn ck ci rs suf last l){dn tn:List Rdn}{v:List Atr}(cq:dnB dn)(d1:dnB tn)(en:v.length<=1100000)(eq:∀a∈v,a.2.length<=1100000){x:aw}(hx:atE l dn=some x)(cn:Tk suf l x.id dn tn=0){K:aeh}(h:∀L' cl C,aU L' iv mn mi nb bn ck cl C suf last (yR (qu l dn tn) x.id v)->L'[it]?=some (.cells [.ptr iv 0])->aM (OfT iv mn mi nb l) L L'->K (.int .i64 0) L'):
  aeg 31 [.ptr it 0,.agg [.int .i64 4,dnA dn,dnA tn,atR v]] L K:=by
 obtain⟨co,ap,d2⟩:=cc hx;have ai:=r.canM hx cn;have ha:dd suf l 4 dn tn=0:=by unfold dd;rw[if_neg (by decide),if_neg (by decide),hx];exact cn
 have dp:aO l dn=x.id:=by unfold aO;rw[hx]
 have s:=hc.toK r;have c1:=s.noIt a9;have I:=hc.v;have d8:iv<L.length:=(aei.1 I).1;have ex:mi<L.length:=(aei.1 hc.i).1;have ca:it<L.length:=(aei.1 a9).1;have b7:¬OfT iv mn mi nb l L.length:=λe=>Nat.lt_irrefl _ (OfT.lt s e)
 have av:∀X:List Blk,(L++X)[iv]?=some (.cells [dnA suf,.lmap mn,.lmap mi,.int .i64 last]):=λX=>by rw[aem d8];exact I
 have ep:∀X:List Blk,(L++X)[it]?=some (.cells [.ptr iv 0]):=λX=>by rw[aem ca];exact a9
 have kk1:Hid (∀{X:List Blk}{K:aeh},K (.int .i64 0) (L++X)->aeg 13 [.ptr iv 0,.agg [.int .i64 4,dnA dn,dnA tn,.sl (bh v) v.length none]] (L++X) K):=@hid _ (by intro X K q;exact yB r ahd (hc.app X) cq d1 (by rw[ha];exact q))
 have kk2:Hid (∀{X:List Blk}{K:aeh},K (.int .i64 x.id) (L++X)->aeg 26 [.ptr iv 0,dnA dn] (L++X) K):=@hid _ (by intro X K q;exact l8 cq r (hc.app X) (by rw[dp];exact q))
 obtain⟨d,bl⟩:=aec (scL l x 2);have kk3:Hid (∀{X:List Blk}{K:aeh},K (.sl ((d.map (·.id)).map (AV.int .i64)) d.length none) (L++X)->aeg 32 [.ptr iv 0,.int .i64 x.id,.int .i64 2] (L++X) K):=@hid _ (by intro X K q;refine JJ r ahd (hc.app X) ?_;rw[Pa (r.ent ap),bl,aeu];exact q)
 have d3:=RI l x 2;have k:=λy=>OM (y:=y) r hx
 have bb:=Yx r x 2;rw[bl]at d3 k bb;have Y:∀(j:Nat) (y:aw),d[j]?=some y->(((d.map (·.id)).map (AV.int .i64)).getD j .undef=.int .i64 y.id)/\y∈l/\gp y.nm dn=true/\(∀z∈d.take j,z.id≠y.id)/\d.take (j+1)=d.take j++[y]:=λj y hj=>by obtain⟨c',e⟩:=aei.1 hj;have hm:=afi hj;obtain⟨J,S⟩:=(k y).1 hm;refine⟨by simp[hj],J,S,λz f e2=>?_,by rw[aeM c',e]⟩;obtain⟨i,R,e3⟩:=agf.1 f;rw[List.getElem_take]at e3;rw[afg]at R;have ei:i<j:=ahd;have:=List.pairwise_iff_getElem.1 bb i j (by simp;omega) (by simpa using c') ei;exact this (by simp[e3,e,e2])
 have e0:=co.len;obtain⟨M,eg⟩:∃M:Blk,M=.cells [.int .i64 4,dnA dn,dnA tn,.sl (bh v) v.length none]:=⟨_,rfl⟩;have hu:∀y∈l,∀z∈l,aN true z.nm=aN true y.nm↔z.id=y.id:=λy hy z f=>⟨λe=>by rw[r.byN f hy ((l9 (r.ok z f) (r.ok y hy)).1 e)],λe=>by rw[r.byI f hy e]⟩
 have cx:bc (L++[M]) iv mn mi nb bn ck ci rs suf last l (lkD l (d.take 0)) (λid=>(iU l id:Nat)):=(s.app [M]).lkE λz=>by rw[GR];simp
 have cp:aM (OfT iv mn mi nb l) L (L++[M]):=aM.app L [M];have c5:(L++[M])[L.length]?=some M:=ahe;obtain⟨xi,a3⟩:=aec (x.id);have c8:=a9;unfold atR;rw[a3]at kk2 kk3;replace h:=hid h;replace r:=hid r;replace ai:=hid ai;replace Y:=hid Y;replace hu:=hid hu;replace k:=hid k;replace cx:=hid cx;replace cp:=hid cp;replace c5:=hid c5;clear hc s I dp ha cn bl bb a9;subst eg;refine aef em ?_;have cy:∀{L':List Blk}{C:List TKy}{lk:List aw}{cl:Nat}{l':List aw}{kd:Int->Int},bc L' iv mn mi nb bn ck cl C suf last l' lk kd->L'[it]?=some (.cells [.ptr iv 0])->L'[L.length]?=some (.cells [.int .i64 4,dnA dn,dnA tn,.sl (bh v) v.length none])->∀b,(L'.set mi b)[it]?=some (.cells [.ptr iv 0])/\(L'.set mi b)[L.length]?=some (.cells [.int .i64 4,dnA dn,dnA tn,.sl (bh v) v.length none]):=λs J S b=>⟨by rw[aeo (λe=>s.noIt J (.inr (.inr (.inl e.symm))))];exact J,by rw[aeo ahd];exact S⟩
 replace cy:=@hid _ @cy;refine ao (λn T' L'=>∃j:Nat,n=d.length-j/\j<=d.length/\Hid (∃C,bc L' iv mn mi nb bn ck ci C suf last l (lkD l (d.take j)) (λid=>(iU l id:Nat)))/\Hid (aM (OfT iv mn mi nb l) L L')/\L'[L.length]?=some (.cells [.int .i64 4,dnA dn,dnA tn,.sl (bh v) v.length none])/\L'[it]?=some (.cells [.ptr iv 0])/\T'=[(137,.int .i64 (j:Int)),(136,.int .i64 d.length),(135,.sl ((d.map (·.id)).map (AV.int .i64)) d.length none),(9,.sl ((d.map (·.id)).map (AV.int .i64)) d.length none),(6,.int .i64 xi),(3,.ptr L.length 0),(0,.ptr it 0)]) ahh ⟨0,rfl,aep _,hid ⟨rs,cx.o⟩,hid cp.o,c5.o,by rw[aem ca];exact c8,rfl⟩ ?_;rintro _ _ L' ⟨j,rfl,hj,hI,hB,hb,R,rfl⟩;obtain⟨C,s⟩:=hI.o;have b5:L.length+1<=L'.length:=(aei.1 hb).1;have I:=s.v;have bk:=s.n;have b6:=s.i;by_cases P:j<d.length;have g1:(j:Int)<(d.length:Int):=ahd;have g2:=aee j ahd;have T:d[j]?=some d[j]:=aeF P;obtain⟨y,hy⟩:=aec (d[j]);rw[hy]at T;obtain⟨e1,p,ad,a0,a8⟩:=Y.o j y T;have e2:j<((d.map (·.id)).map (AV.int .i64)).length:=by simpa using P
 obtain⟨j1,c9,a4⟩:=s.delk dt (y:=y) (GR.2 ⟨p,a0⟩) (λz f=>hu.o y p z (GR.1 f).1);have t:=a4.lkE (Y9 l (d.take j) y);rw[<- a8]at t;obtain⟨b1,b2⟩:=cy.o s R hb (.map ((C.map kyA).eraseIdx j1) ci);have D:=hB.o.trans (aM.set L' (B:=OfT iv mn mi nb l) (.inr (.inr (.inl rfl))) (.map ((C.map kyA).eraseIdx j1) ci));rcases s.node y.id with⟨f1,_⟩|⟨y',n,f1,_,_,f2,f3,_⟩;rw[r.o.ent p]at f1;cases f1;rw[r.o.ent p]at f1;cases f1;unfold cr at f3;have b4:=r.o.ok y p;have kk4:Hid (Ctr Tryz.prog 61 [dnA y.nm] (.tup [.str (aN true y.nm),.int .i64 0])):=@hid _ (by intro L K q;exact Mh b4.m.b.1 b4.m.b.2 (by rw[qv b4];exact q))
 have ec:aT .str (.str (aN true y.nm))=true:=rfl;have d6:aT .int (.int .i64 y.id)=true:=rfl;obtain⟨tk,cg⟩:=aec (aN true y.nm);obtain⟨yi,a6⟩:=aec (y.id);rw[cg]at c9 kk4 ec;rw[a6]at e1 f2 f3 d6 c9;have d':=hid b5;replace b1:=hid b1;replace b2:=hid b2;replace t:=hid t;replace D:=hid D;clear s a4 hI hB b4 cg a6 p ad a0 a8 T hy kk1 kk2 kk3 av ep b7;refine wk ?_;exact ahi ahd (CutL (b:=by have:=d'.o;simp;omega)) ⟨j+1,rfl,P,hid ⟨_,t.o⟩,hid D.o,b2.o,b1.o,rfl⟩;have ct:j=d.length:=ahd;subst ct;have g1:¬(d.length:Int)<(d.length:Int):=ahd;rw[aeI]at s;have c2:=s.lkE (lk':=Jk l dn) λz=>by
  rw[GR,me];refine and_congr_right λf=>?_
  constructor;intro e;cases c4:gp z.nm dn with
  |false=>rfl
  |true=>exact absurd rfl (e z ((k.o z).2 ⟨f,c4⟩))
  intro e y hy e2;obtain⟨y1,y2⟩:=(k.o y).1 hy;rw[r.o.byI y1 f e2,e]at y2;cases y2
 have ej:=r.o.cut co;have es:dn≠[]:=λe=>r.o.inv.ne (fK ap) (by rw[d2,e];rfl)
 obtain⟨G,V⟩:∃G:Int->Int,G=λi=>if i=aO (Jk l dn) dn.tail then(iU l i:Int) + -1 else iU l i:=⟨_,rfl⟩
 have ew:∀i,-10000000<=G i/\G i<=10000000:=λi=>by have:=PF l i;rw[V];dsimp only;split<;>omega
 have kk4:Hid (∀{K:aeh},(∀L2,Hid (bc L2 iv mn mi nb bn ck ci C suf last l (Jk l dn) G)->Hid (aM (OfT iv mn mi nb l) L L2)->L2[it]?=some (.cells [.ptr iv 0])->L2[L.length]?=some (.cells [.int .i64 4,dnA dn,dnA tn,.sl (bh v) v.length none])->K (.tup []) L2)->aeg 70 [.ptr it 0,dnA dn,.int .i64 (-1)] L' K):=@hid _ (by
  intro K q;refine GK cq es ej (λz f=>⟨z,(me.1 f).1,rfl⟩) (λz f=>(r.o.ids z f).1) R c2 ahd (λi=>by have:=PF l i;omega) λL2 t D=>?_
  refine q L2 (hid (by rw[V];exact t)) (hid (hB.o.trans D)) (D.get R (c2.noIt R)) (D.get hb b7))
 clear c2 s hI hB;have et:=hid V;clear V;refine wk ?_;intro L2 t D d4 ch;clear kk4;clear I bk b6 hb R b5;have b5:L.length+1<=L2.length:=(aei.1 ch).1;refine wk ?_;obtain⟨A,g⟩:∃A:aw->aw,A=λy=>{y with nm:=nD y.nm dn.length tn}:=⟨_,rfl⟩
 replace g:=hid g;refine ao (λn T' L3=>∃j:Nat,n=d.length-j/\j<=d.length/\Hid (L2.length<=L3.length)/\Hid (∃N a1,bc L3 iv mn mi nb bn ck N a1 suf last (PA l dn tn ((d.take j).map (·.id))) (Jk l dn++(d.take j).map A) G)/\Hid (aM (OfT iv mn mi nb l) L L3)/\L3[L.length]?=some (.cells [.int .i64 4,dnA dn,dnA tn,.sl (bh v) v.length none])/\L3[it]?=some (.cells [.ptr iv 0])/\T'=[(172,.int .i64 (j:Int)),(171,.int .i64 d.length),(170,.sl ((d.map (·.id)).map (AV.int .i64)) d.length none),(6,.int .i64 xi),(3,.ptr L.length 0),(0,.ptr it 0)]) (CutS (b:=aek _)) ⟨0,rfl,aep _,hid (aek _),hid ⟨ci,C,by rw[afV,afh,aa7,afh,aeL];exact t.o⟩,D,ch,d4,rfl⟩ ?_;rintro _ _ L3 ⟨j,rfl,hj,d5,hI,hB,hb,R,rfl⟩;obtain⟨N,a1,s⟩:=hI.o;have cd:L.length+1<=L3.length:=(aei.1 hb).1;have I:=s.v;have bk:=s.n;have b6:=s.i;clear t D d4 ch b5;by_cases P:j<d.length;have g1:(j:Int)<(d.length:Int):=ahd;have g2:=aee j ahd;have T:d[j]?=some d[j]:=aeF P;obtain⟨y,hy⟩:=aec (d[j]);rw[hy]at T;obtain⟨e1,p,ad,a0,a8⟩:=Y.o j y T;have e2:j<((d.map (·.id)).map (AV.int .i64)).length:=by simpa using P
 have W:y.id∉(d.take j).map (·.id):=λhm=>by obtain⟨z,f,e⟩:=ael.1 hm;exact a0 z f e
 have c6:=acL dn tn p W;have F:=(r.o.mov ai.o).1;have hZ:A y∈qu l dn tn:=ael.2 ⟨y,p,by rw[if_pos ad,g.o]⟩;have eb:(A y).id=y.id:=by rw[g.o]
 have cm:∀z∈Jk l dn++(d.take j).map A,aN true z.nm≠aN true (nD y.nm dn.length tn):=λz f e=>by
  have c3:z∈qu l dn tn/\z.id≠y.id:=by rcases aen.1 f with f|f;obtain⟨J,S⟩:=me.1 f;refine⟨ael.2 ⟨z,J,by rw[if_neg (by rw[S];decide)]⟩,λe3=>?_⟩;rw[r.o.byI J p e3,ad]at S;cases S;obtain⟨w,Q,rfl⟩:=ael.1 f;obtain⟨J,S⟩:=(k.o w).1 (agp Q);refine⟨ael.2 ⟨w,J,by rw[if_pos S,g.o]⟩,λe3=>?_⟩;rw[show(A w).id=w.id by rw[g.o]]at e3;exact a0 w Q e3
  have e4:NK z.nm=NK (A y).nm:=by rw[show(A y).nm=nD y.nm dn.length tn by rw[g.o]];exact(l9 (F.ok z c3.1) (by have:=F.ok _ hZ;rw[g.o]at this;exact this)).1 e
  have:=F.byN c3.1 hZ e4;exact c3.2 (by rw[this,eb])
 have a5:OkD (nD y.nm dn.length tn):=by have:=F.ok _ hZ;rw[g.o]at this;exact this
 obtain⟨Z,a2⟩:=aec (nD y.nm dn.length tn);rw[a2]at cm a5;obtain⟨L4,b'⟩:=aec ((L3.set (nb y.id) (.cells [dnA Z,.sl (ay (NK Z).reverse) Z.length none,atR y.av,.int .i64 (G y.id)])).set mi (.map ((a1++[(aN true Z,y.id,N)]).map kyA) (N+1))++[.cells [.sl (ay (NK Z).reverse) Z.length none]]);obtain⟨dk,a4⟩:=s.ren dt c6 cm [.cells [.sl (ay (NK Z).reverse) Z.length none]];rw[b',<- a2,Y7 r.o dn tn p W,a2]at a4;have t:bc L4 iv mn mi nb bn ck (N+1) (a1++[(aN true Z,y.id,N)]) suf last (PA l dn tn ((d.take (j+1)).map (·.id))) (Jk l dn++(d.take (j+1)).map A) G:=by rw[a8,aeD,aeD,<- aew];rw[show[y].map A=[{y with nm:=Z}]by rw[g.o,<- a2];rfl];exact a4
 have a_:aM (OfT iv mn mi nb l) L3 L4:=by rw[<- b'];exact((aM.set L3 (B:=OfT iv mn mi nb l) (.inr (.inr (.inr ⟨y,p,rfl⟩))) _).trans (aM.set _ (.inr (.inr (.inl rfl))) _)).trans (aM.app _ _)
 have a7:=hid (aeR d5.o a_.len);have bs:=a_.get R c1;have b3:=a_.get hb b7;have E:=hB.o.trans a_;rcases s.node y.id with⟨f1,_⟩|⟨y',n,f1,f4,f5,f2,f3,_⟩;exact absurd (afr.1 f1 y c6) ahe;have b0:y'=y:=by obtain⟨w,Q,e⟩:=ael.1 f4;have er:w.id=y.id:=(by rw[<- f5,<- e];split<;>rfl);have:=r.o.byI Q p er;subst this;rw[if_neg W]at e;exact e.symm
 rw[b0]at f3;unfold cr at f3;have d7:dn.length<=y.nm.length:=by have:=(de.1 ad).2.2.length_le;rwa[bv,bv]at this
 have ea:=(r.o.ok y p).len;have kk5:Hid (∀{K:aeh},K (.tup []) L4->aeg 69 [.ptr it 0,.int .i64 y.id,dnA Z] L3 K):=@hid _ (by intro K q;refine Yl a5 R I bk f2 f3 b6 dk ?_;rw[b'];exact q)
 obtain⟨q,hq⟩:=aec (y.nm.length-dn.length);have w1:IntKind.i64.wrap ((y.nm.length:Int)-(dn.length:Int))=(q:Int):=by rw[ac ahd ahd];omega
 have w2:(q:Int)<=(y.nm.length:Int):=ahd;have cb:aT .int (.int .i64 y.id)=true:=rfl;have d_:y.nm.take q++tn=Z:=by rw[<- a2,<- hq];rfl
 have kk6:Hid (∀{c:Option Nat}{L:List Blk}{K:aeh},K (dnA Z) L->aeg 50 [dnA tn,.sl (List.take q (y.nm.map aH)) q c] L K):=@hid _ (by intro c L K u;rw[<- ago];exact Wb d_ (by rw[afg];omega) rfl a5.m.b.1 a5.m.b.2 u)
 obtain⟨yi,a6⟩:=aec (y.id);obtain⟨yn,H⟩:=aec (y.nm);obtain⟨ya,a'⟩:=aec (atR y.av);obtain⟨yp,al⟩:=aec (ay (pth y));rw[a6]at e1 f2 f3 kk5 cb;rw[H]at f3 kk6 w1 w2;rw[a',al]at f3;have ey:=hid cd;replace t:=hid t;replace E:=hid E;replace bs:=hid bs;replace b3:=hid b3;clear s a4 hI hB a_ b' cm a5 hZ eb F c6 W p ad a0 a8 T hy f1 f4 f5 b0 d7 ea hq d_ a2 a6 H a' al dk;refine wk ?_;exact ahi ahd (CutL (b:=a7.o)) ⟨j+1,rfl,P,a7,hid ⟨_,_,t.o⟩,hid E.o,b3.o,bs.o,rfl⟩;have ct:j=d.length:=ahd;subst ct;have g1:¬(d.length:Int)<(d.length:Int):=ahd;rw[aeI]at s;have c_:PA l dn tn (d.map (·.id))=qu l dn tn:=aa8 dn tn λz f=>by constructor;intro hm;obtain⟨w,Q,e⟩:=ael.1 hm;obtain⟨J,S⟩:=(k.o w).1 Q;rw[<- r.o.byI J f e];exact S;intro an;exact ael.2 ⟨z,(k.o z).2 ⟨f,an⟩,rfl⟩
 rw[c_]at s;have d0:=s.lkE (lk':=qu l dn tn) λz=>by rw[aen];constructor;rintro(f|f);obtain⟨J,S⟩:=me.1 f;exact ael.2 ⟨z,J,by rw[if_neg (by rw[S];decide)]⟩;obtain⟨w,Q,rfl⟩:=ael.1 f;obtain⟨J,S⟩:=(k.o w).1 Q;exact ael.2 ⟨w,J,by rw[if_pos S,g.o]⟩;intro f;obtain⟨w,Q,_,e⟩:=Pc f;by_cases an:gp w.nm dn=true;rw[if_pos an]at e;exact .inr (ael.2 ⟨w,(k.o w).2 ⟨Q,an⟩,by rw[e,g.o]⟩);rw[if_neg an]at e;rw[e];exact .inl (me.2 ⟨Q,by simpa using an⟩)
 have F:=(r.o.mov ai.o).1;obtain⟨bo,bd⟩:∃bo:Int->Int,bo=λi=>if i=aO (qu l dn tn) tn.tail then G i+1 else G i:=⟨_,rfl⟩
 have bx:∀i,OfT iv mn mi nb (qu l dn tn) i->OfT iv mn mi nb l i:=λi R=>by rcases R with e|e|e|⟨z,f,e⟩;exact .inl e;exact .inr (.inl e);exact .inr (.inr (.inl e));obtain⟨w,Q,e2,_⟩:=Pc f;exact .inr (.inr (.inr ⟨w,Q,by rw[e,e2]⟩))
 obtain⟨x2,cs⟩:∃x2,x2={x with nm:=nD x.nm dn.length tn}:=⟨_,rfl⟩;have c7:gp x.nm dn=true:=de.2 ⟨r.o.ok x ap,co,by rw[d2];exact List.suffix_refl _⟩;have ab:x2∈qu l dn tn:=ael.2 ⟨x,ap,by rw[if_pos c7,cs]⟩;have O:x2.id=xi:=by rw[cs];exact a3
 have kk4:Hid (∀{K:aeh},(∀L4,Hid (bc L4 iv mn mi nb bn ck N a1 suf last (qu l dn tn) (qu l dn tn) bo)->Hid (aM (OfT iv mn mi nb l) L L4)->L4[it]?=some (.cells [.ptr iv 0])->L4[L.length]?=some (.cells [.int .i64 4,dnA dn,dnA tn,.sl (bh v) v.length none])->K (.tup []) L4)->aeg 70 [.ptr it 0,dnA tn,.int .i64 1] L3 K):=@hid _ (by
  intro K q;refine GK d1 ai.o.tne F (λz f=>⟨z,f,rfl⟩) (λz f=>(F.ids z f).1) R d0 ahd ew λL4 U E=>?_
  refine q L4 (hid (by rw[bd];exact U)) (hid (hB.o.trans2 E λi _=>bx i)) (E.get R λe=>c1 (bx _ e)) (E.get hb λe=>b7 (bx _ e)))
 have ds:=hid bd;clear bd s d0 hI hB;refine wk ?_;intro L4 U E bs b3;clear kk4 I bk b6 hb R cd;have I:=U.o.v;have bk:=U.o.n;have kk5:Hid (Ctr Tryz.prog 68 [.sl (bh v) v.length none] (.sl (bh v) v.length none)):=@hid _ (by intro L K q;exact OK en eq q);rcases U.o.node xi with⟨f1,_⟩|⟨y',n,f1,f4,f5,f2,f3,_⟩;exact absurd (afr.1 f1 x2 ab) (by simp[O]);have b0:y'=x2:=F.byI f4 ab (by rw[f5,O]);subst b0;unfold cr at f3;rw[O]at f3;have cb:aT .int (.int .i64 xi)=true:=rfl;have b_:=U.o.cha ab v;rw[O]at b_;have cf:=h.o (L4.set (nb xi) (.cells [dnA y'.nm,.sl (ay (pth y')) y'.nm.length none,atR v,.int .i64 (bo xi)])) N a1 (by
  rw[<- a3]at b_⊢;refine b_.toT λz f=>?_
  obtain⟨w,Q,rfl⟩:=ael.1 f;obtain⟨u,c4,e2,e3⟩:=Pc Q;have J:=r.o.movK ai.o c4;rw[Px];have e4:(if w.id=x.id then{w with av:=v}else w).id=w.id:=(by split<;>rfl);have e5:(if w.id=x.id then{w with av:=v}else w).nm=w.nm:=(by split<;>rfl);rw[e4,e5,ds.o,et.o];dsimp only;rw[<- e3]at J;rw[<- e2];exact J.symm) (by rw[aeo (λe=>c1 (.inr (.inr (.inr ⟨x,ap,by rw[a3];exact e.symm⟩))))];exact bs) (E.o.trans (aM.set _ (.inr (.inr (.inr ⟨x,ap,by rw[a3]⟩))) _))
 replace h:=hid cf;unfold atR at h;obtain⟨ya,a'⟩:=aec (atR y'.av);obtain⟨yp,al⟩:=aec (ay (pth y'));obtain⟨yn,H⟩:=aec (y'.nm);obtain⟨kq,c0⟩:=aec (bo xi);rw[a',al,H,c0]at f3;rw[al,H,c0]at h;clear cf b_ al a' H c0 f1 f4 f5 U E F bx ab O c7 cs c_ a3;refine wk ?_;exact ag h.o
end
set_option maxHeartbeats 8000000
set_option maxRecDepth 100000
section
variable {L:List Blk}{iv mn mi it:Nat}{nb bn:Int->Nat}{ck ci:Nat}{rs:List TKy}{suf:List Rdn}{last:Int}{l:List aw}
theorem adH(f:TOk suf last l)(m:l.length<=1000000)(a:L[it]?=some (.cells [.ptr iv 0]))(g:aU L iv mn mi nb bn ck ci rs suf last l){k:Int}{dn tn:List Rdn}{v:AV}(c:dnB dn)(d:dnB tn)(i:dd suf l k dn tn≠0){K:aeh}(h:K (.int .i64 (dd suf l k dn tn)) L):
  aeg 31 [.ptr it 0,.agg [.int .i64 k,dnA dn,dnA tn,v]] L K:=by
 have b:it<L.length:=(aei.1 a).1;have j:∀X:List Blk,(L++X)[it]?=some (.cells [.ptr iv 0]):=λX=>by rw[aem b];exact a
 obtain⟨z,e⟩:=aec (dd suf l k dn tn);have kk1:Hid (∀{X:List Blk}{K:aeh},K (.int .i64 z) (L++X)->aeg 13 [.ptr iv 0,.agg [.int .i64 k,dnA dn,dnA tn,v]] (L++X) K):=@hid _ (by intro X K q;exact yB f ahd (g.app X) c d (by rw[e];exact q))
 rw[e]at i h;replace h:=hid h;clear e g f a;refine aef em ?_;exact af rfl h.o
theorem ab0(r:TOk suf last l)(n:mn≠mi)(g:l.length<=1000000)(t:0<=last)(u:last<=1000000)(c:L[it]?=some (.cells [.ptr iv 0]))(q:aU L iv mn mi nb bn ck ci rs suf last l){k:Int}{dn tn:List Rdn}{v:List Atr}(d:dnB dn)(f:dnB tn)(p:v.length<=1100000)(o:∀a∈v,a.2.length<=1100000){K:aeh}(h:∀L' w s y i m,aU L' iv mn mi w s y i m suf (doT suf l last k dn tn v).2 (doT suf l last k dn tn v).1->L'[it]?=some (.cells [.ptr iv 0])->aM (OfT iv mn mi nb l) L L'->K (.int .i64 (dd suf l k dn tn)) L'):
  aeg 31 [.ptr it 0,.agg [.int .i64 k,dnA dn,dnA tn,atR v]] L K:=by
 by_cases j:dd suf l k dn tn=0;rotate_left;unfold doT at h;rw[if_pos j]at h;exact adH r g c q d f j (h L _ _ _ _ _ q c (aM.refl L));unfold doT at h;rw[if_neg (λe=>e j)]at h;rw[j]at h;by_cases z:k=1;subst z;rw[if_pos rfl]at h;exact adK r n g t u c q d f p o j h;rw[if_neg z]at h;have b:=j;unfold dd at b;by_cases B:k<1\/4<k;rw[if_pos B]at b;exact absurd b (by decide);rw[if_neg B,if_neg z]at b;cases hx:atE l dn with
 |none=>rw[hx]at b;simp at b
 | some x =>
   rw[hx]at b;simp only at b;have D:aO l dn=x.id:=(by unfold aO;rw[hx]);rw[D]at h;by_cases A:k=2
   .subst A;rw[if_pos rfl]at h;exact adI r n g c q d f hx j λL' i m=>h L' _ _ _ _ _
   rw[if_neg A]at h b;by_cases C:k=3
   .subst C;rw[if_pos rfl]at h;exact adJ r g c q d f p o hx λL'=>h L' _ _ _ _ _
   rw[if_neg C]at h b;have E:k=4:=ahd;subst E;exact adG r n g c q d f p o hx b λL' i m=>h L' _ _ _ _ _
end
variable {L:List Blk}{K:aeh}
set_option maxHeartbeats 8000000
set_option maxRecDepth 100000
theorem Sw{P:Program}{f:FuncId}{b:Bool}(h:ae P f [] [] λv _=>v=.bool b)(m:K (.bool b) L):ae P f [] L K:=λw0 S0 E w vs g s=>by
 have i:Rel w ⟨λ_=>False,0⟩ {mem:=E.mem,loc:=λ_=>none,tok:=λ_=>none} [] w:=by
  refine⟨g.mem,?_,λ_ _=>rfl,?_,?_,λ_ _=>rfl,?_,?_,?_,λ_ _ _=>rfl,aek _,rfl,rfl,rfl,g.glob,g.gsz⟩
  all_goals intros;simp_all
 have key:∀{E':Env}{L':List Blk}{w':World},Rel w ⟨λ_=>False,0⟩ E' L' w'->Qy w w':=λk=>⟨λb o=>k.frame b o (λx=>x),k.size,k.os,k.tape,k.output⟩
 have l:VRL {mem:=E.mem,loc:=λ_=>none,tok:=λ_=>none} [] vs:=by simpa only[VRL]using s
 rcases h w _ _ w vs i l with⟨j,n⟩|⟨E',v,av,L',w',j,n,p,h4,q⟩;refine .inl ⟨j,n.mono λe w' ⟨E',v,av,L',a,b,c,d,r⟩=>⟨E,v,_,L,a,.refl E,m,?_,g.grown (key r)⟩⟩;subst c;simpa only[VR]using d;refine .inr ⟨E,v,_,L,w',j,.refl E,m,?_,g.grown (key q)⟩;subst p;simpa only[VR]using h4
theorem aU.start(L:List Blk)(d:List Rdn):aU (L++[.map [] 0,.map [] 0,.cells [dnA d,.lmap L.length,.lmap (L.length+1),.int .i64 0],.cells [.ptr (L.length+2) 0]]) (L.length+2) L.length (L.length+1) (λ_=>0) (λ_=>0) 0 0 [] d 0 []:=by refine⟨?_,?_,?_,?_,?_,?_,?_,?_⟩;rw[aey ahd];simp;rw[aey ahd];simp;rw[aey ahd];simp;simp;simp;simp;simp;simp
def Ss(P:Program)(o:aj)(T:Tm)(L:List Blk)(v:AV)(M:List Blk->Prop):Prop :=
 match o.op with
 | .call f xs=>match iz T xs with
   |some args=>ae P f args L λav L'=>av=v/\M L'
   |none=>False
 |_=>False
def EQS(P:Program)(o:aj)(T:Tm)(L:List Blk)(v:AV)(M:List Blk->Prop):Prop :=
 match o.guard with
 |none=>Ss P o T L v M
 | some (t,b)=>match ar T t with
   |some (.bool x)=>if x=b then Ss P o T L v M else v=.tup []/\M L
   |some (.tup [])=>v=.tup []/\M L
   |_=>False
theorem Ss.congr{P:Program}{o:aj}{T T':Tm}{L:List Blk}{v:AV}{M:List Blk->Prop}(b:∀t∈o.op.tmps,ar T t=ar T' t)(a:Ss P o T L v M):Ss P o T' L v M:=by unfold Ss at a⊢;split at a;rename_i f xs e;rw[e]at b;rw[<- jA (l:=xs) b];exact a;omega
theorem EQS.congr{P:Program}{o:aj}{T T':Tm}{L:List Blk}{v:AV}{M:List Blk->Prop}(h:∀t∈o.reads,ar T t=ar T' t)(a:EQS P o T L v M):EQS P o T' L v M:=by
 have c:∀t∈o.op.tmps,ar T t=ar T' t:=λt f=>h t (by simp[aj.reads,f])
 unfold EQS at a⊢;split at a;exact a.congr c;rename_i t b d;rw[<- h t (by simp[aj.reads,d])];split at a;split at a;rename_i e;rw[if_pos e];exact a.congr c;simp[*];omega;omega
theorem Ss.aop{P:Program}{o:aj}{T:Tm}{L:List Blk}{v:AV}{M:List Blk->Prop}(a:Ss P o T L v M):AOp P o (λT' L'=>T'=bz o.dst v T/\M L') T L:=by
 unfold Ss at a;unfold AOp;split at a;rename_i f xs e;simp only[e];split at a;rename_i args d;rw[d];exact ae.mono a λav L' ⟨b,c⟩=>⟨by rw[b],c⟩
 simp_all;simp_all
theorem EQS.aops{P:Program}{o:aj}{T:Tm}{L:List Blk}{v:AV}{M:List Blk->Prop}(a:EQS P o T L v M):l7 P (λT' L'=>T'=bz o.dst v T/\M L') [o] T L:=by unfold EQS at a;simp only[l7];split at a;rename_i d;simp only[d];exact a.aop;rename_i t b d;simp only[d];split at a;rename_i x c;rw[c,yz];split at a;rename_i e;rw[if_pos e];exact a.aop;simp[*];rename_i c;rw[c,Sr];exact⟨by rw[a.1],a.2⟩;simp_all
section
variable {P:Program}{r:Option Nat}{w0:World}{S0:SB}{N:Nat}{own:Nat->Nat}{ops:Array Oper}{L:List Blk}
end
section
variable {P:Program}{w0:World}{S0:SB}{N:Nat}{own:Nat->Nat->Nat}{Q:Exit->Tm->List Blk->Prop}{T:Tm}{L:List Blk}
end
section
variable {P:Program}{K:Tm->List Blk->Prop}{T:Tm}{d:Option Nat}{op:LOp}{t:Nat}{b:Bool}{r:List (aj×Kd)}{M:List Blk->Prop}{Ms:List (List Blk->Prop)}{v:AV}{c:Prop}
end
set_option maxHeartbeats 8000000
set_option maxRecDepth 100000
def XQ(v:List Atr):Prop:=v.length<=1100000/\∀a∈v,a.2.length<=1100000
structure aeb(L:List Blk)(it iv mn mi rt:Nat)(nb bn:Int->Nat)(ck ci:Nat)(rs:List TKy)(c:Option Nat)(suf:List Rdn)(last:Int)(l:List aw):Prop where
 ok:TOk suf last l
 code:aU L iv mn mi nb bn ck ci rs suf last l
 it:L[it]?=some (.cells [.ptr iv 0])
 rt:L[rt]?=some (.cells [dnA suf,.sl (dN l) l.length c,.int .i64 last])
 ne:mn≠mi
 l0:0<=last
 l1:last<=100
 len:l.length<=100
 av:∀x∈l,XQ x.av
theorem aU.noOf{L:List Blk}{iv mn mi:Nat}{nb bn:Int->Nat}{ck ci:Nat}{rs:List TKy}{suf:List Rdn}{last:Int}{l:List aw}(h:aU L iv mn mi nb bn ck ci rs suf last l){j:Nat}{c:List AV}(a:L[j]?=some (.cells c))(b:c.length≠4\/∃k z r,c=.int k z::r):¬OfT iv mn mi nb l j:=by rintro(e|e|e|⟨x,d,e⟩);rw[e,h.v]at a;simp only[aej,Blk.cells.injEq]at a;rcases b with b|⟨k,z,r,b⟩;exact b (by rw[<- a];rfl);rw[<- a]at b;simp[dnA]at b;rw[e,h.n]at a;simp at a;rw[e,h.i]at a;simp at a;rw[e,h.nd x d]at a;simp only[aej,Blk.cells.injEq]at a;rcases b with b|⟨k,z,r,b⟩;exact b (by rw[<- a];rfl);rw[<- a]at b;simp[kN,dnA]at b
theorem aU.keep{L:List Blk}{iv mn mi:Nat}{nb bn:Int->Nat}{ck ci:Nat}{rs:List TKy}{suf:List Rdn}{last:Int}{l:List aw}(h:aU L iv mn mi nb bn ck ci rs suf last l){rt:Nat}{c:List AV}(hr:L[rt]?=some (.cells c))(j:c.length=3)(f:aM (λi=>i=rt) L L'):aU L' iv mn mi nb bn ck ci rs suf last l:=by
 have no:¬OfT iv mn mi nb l rt:=h.noOf hr (.inl ahd);have key:∀{i:Nat}{b:Blk},OfT iv mn mi nb l i->L[i]?=some b->L'[i]?=some b:=λ{i b} g e=>f.get e λd=>no (by rw[<- d];exact g)
 exact⟨key (.inl rfl) h.v,key (.inr (.inl rfl)) h.n,key (.inr (.inr (.inl rfl))) h.i,λx a=>key (.inr (.inr (.inr ⟨x,a,rfl⟩))) (h.nd x a),h.keys,h.mem,h.bnd,h.blt⟩
def DS(L L':List Blk):Prop:=L.length<=L'.length/\∀(j:Nat) (c:List AV),L[j]?=some (Blk.cells c)->c.length=2->L'[j]?=some (Blk.cells c)
theorem DS.refl(L:List Blk):DS L L:=⟨aek _,λ_ _ h _=>h⟩
theorem DS.app{L:List Blk}(h:DS L L')(X:List Blk):DS L (L'++X):=⟨by have:=h.1;simp;omega,λj c a b=>by have:=h.2 j c a b;rw[aem (aei.1 this).1];exact this⟩
theorem DS.trans{A B C:List Blk}(h:DS A B)(g:DS B C):DS A C:=⟨aeR h.1 g.1,λj c b a=>g.2 j c (h.2 j c b a) a⟩
theorem DS.row{A L:List Blk}{rt:Nat}{d:List AV}(h:DS A L)(hr:L[rt]?=some (.cells d))(g:d.length=3)(b:aM (λi=>i=rt) L L'):DS A L':=h.trans ⟨b.len,λj c a f=>b.get a λe=>by subst e;rw[hr]at a;cases a;omega⟩
structure XT(u:Upd):Prop where
 dn:Xd u.dn/\∀r∈u.dn,∀a∈r,(a.1.length:Int)<=140737488351232
 tw:Xd u.tw/\∀r∈u.tw,∀a∈r,(a.1.length:Int)<=140737488351232
 attrs:(u.attrs.length:Int)<=9223372036854775807
 names:∀a∈u.attrs,(a.1.length:Int)<=140737488351232/\(a.2.length:Int)<=9223372036854775807
theorem ab7{d:List Rdn}(h:smD d=true)(c:∀r∈d,∀a∈r,(a.1.length:Int)<=140737488351232):dnM d:=by simp only[smD,aeq,decide_eq_true_eq,aev]at h;refine⟨ahd,λr b=>⟨?_,c r b⟩⟩;have:=h.2 r b;rcases r with _|⟨a,t⟩;simp;simp only[smR,afl,aeq,smA,decide_eq_true_eq]at this;have:=this.1.1;simp only[aeB]at this⊢;omega
theorem adu{u:Upd}(b:XT u)(h:smU u=true):dnM u.dn/\dnM u.tw/\XQ u.attrs:=by simp only[smU,aeq]at h;obtain⟨d,e,g⟩:=h;obtain⟨i,f⟩:=Wh g;exact⟨ab7 d b.dn.2,ab7 e b.tw.2,ahd,λa c=>by have:=(f a c).1;omega⟩
theorem WC(us:List Upd):(us.flatMap bV).length=us.length*4:=by
 induction us with
 |nil=>rfl
 |cons u us ih=>rw[afe,aez,ih,aeB];simp only[aeB,aeY];omega
theorem SF:∀{us:List Upd}{k:Nat},k<us.length->((us.flatMap bV).drop (k*4)).take 4=bV (us.getD k NZ)
 |u::us,0,_=>by rw[afe];rfl
 |u::us,k+1,h=>by have a:=SF (us:=us) (k:=k) (by simpa using h);rw[afe,Nat.succ_mul];show((us.flatMap bV).drop (k*4)).take 4=_;rw[a];rfl
abbrev abS:=Int×Int×Nat
structure Su(rs:List abS)(W:List Int):Prop where
 nd:(rs.map (·.1)).Nodup
 val:∀r∈rs,r.2.1=(W.count r.1:Int)/\r.1∈W
 all:∀id∈W,id∈rs.map (·.1)
theorem Su.nil:Su [] []:=⟨agd,ahe,ahe⟩
theorem Su.get{rs:List abS}(h:Su rs W)(id:Int):(rs.findIdx? (λr=>decide (r.1=id))=none/\id∉W)\/∃n,n<rs.length/\rs.findIdx? (λr=>decide (r.1=id))=some n/\(rs.getD n (0,0,0)).1=id/\(rs.getD n (0,0,0)).2.1=(W.count id:Int):=by
 rcases hf:rs.findIdx? (λr=>decide (r.1=id))with _|n;refine .inl ⟨hf,λf=>?_⟩;obtain⟨r,hr,e⟩:=ael.1 (h.all id f);have a:=hf;rw[ag0]at a;have:=a r hr;simp[e]at this;have a:=hf;rw[agA]at a;obtain⟨b,c,_⟩:=a;rw[decide_eq_true_eq]at c;have d:rs.getD n (0,0,0)=rs[n]:=by simp[b]
 refine .inr ⟨n,b,hf,by rw[d];exact c,?_⟩;rw[d,(h.val rs[n] (afx b)).1,c]
theorem Su.new{rs:List abS}(h:Su rs W){id:Int}(d:id∉W)(a ck:Nat)(n:0<a):Su (rs++[(id,(a:Int),ck)]) (W++List.replicate a id):=by
 have c:id∉rs.map (·.1):=λl=>by obtain⟨r,hr,e⟩:=ael.1 l;exact d (e▸(h.val r hr).2)
 refine⟨?_,λr hr=>?_,λk b=>?_⟩;rw[aeD,afQ];refine⟨h.nd,ahe,λx j y g=>?_⟩;simp only[aex,afh,aeG]at g;rw[g];exact λe=>c (e▸j)
 rcases aen.1 hr with hr|hr;obtain⟨m,i⟩:=h.val r hr;have f:¬id=r.1:=λe=>d (e▸i)
 refine⟨?_,afp _ i⟩;rw[m,List.count_append,agJ];simp[f];rw[aeG.1 hr];refine⟨?_,afG _ (by simp;omega)⟩;simp only;rw[List.count_append,agJ,List.count_eq_zero.2 d];simp;rw[aeD];rcases aen.1 b with b|b;exact afp _ (h.all k b);rw[ag5 b];simp
theorem Su.len{rs:List abS}(h:Su rs W)(d:ids.Nodup)(b:∀x,x∈W↔x∈ids):rs.length=ids.length:=by
 have a:(rs.map (·.1)).Perm ids:=(List.perm_ext_iff_of_nodup h.nd d).2 λx=>by rw[<- b x];constructor;intro c;obtain⟨r,hr,e⟩:=ael.1 c;exact e▸(h.val r hr).2;exact h.all x
 have:=a.length_eq;rwa[aeu]at this
open Go Go.ChangeShapes
theorem aa0:RdZ Tryz.prog 72 Gx (λa=>a.1.length<=reachBytes):=
 (Ja Tryz.underlying72 (N:=2) ahf (jK (sz:=1) rfl ahf (ON Tryz.underlying9) (jK (sz:=1) rfl ahf (ON Tryz.underlying9) (Pe rfl)))).map
  λy b=>⟨(y.1,y.2.1),b.1,rfl⟩
theorem aaZ:RdZ Tryz.prog 74 (λr:Rdn=>[aH r]) (λr=>r.length<=maxLen/\∀a∈r,a.1.length<=reachBytes):=
 (vY Tryz.underlying74 aa0 ahf).map λl b=>⟨l,b,rfl⟩
theorem YK:RdZ Tryz.prog 24 (λd:List Rdn=>[dnA d]) (λd=>Xd d/\∀r∈d,∀a∈r,(a.1.length:Int)<=140737488351232):=
 (vY Tryz.underlying24 aaZ ahf).map fun l hl=>⟨l,⟨⟨by have:=hl.1;simp only [maxLen] at this;omega,fun r hr=>by have:=(hl.2 r hr).1;simp only [maxLen] at this;omega⟩,fun r hr a ha=>by have:=(hl.2 r hr).2 a ha;simp only [reachBytes] at this;omega⟩,by
  have e:∀l:List Rdn,l.map aH=l.flatMap λr=>[aH r]:=λl=>by
   induction l with
   |nil=>rfl
   |cons a l ih=>rw[aex,afe,ih];rfl
  simp only[dnA,e l]⟩
theorem YJ:RdZ Tryz.prog 56 (λl:List (List UInt8)=>[aaW l]) (λl=>l.length<=maxLen):=
 (vY Tryz.underlying56 (ON Tryz.underlying9) ahf).map fun l hl=>⟨l,hl.1,by
  have e:∀l:List (List UInt8),l.map AV.str=l.flatMap λr=>[AV.str r]:=λl=>by
   induction l with
   |nil=>rfl
   |cons a l ih=>rw[aex,afe,ih];rfl
  simp only[aaW,e l]⟩
theorem aa1:RdZ Tryz.prog 106 atA (λa=>a.1.length<=reachBytes/\a.2.length<=maxLen):=
 (Ja Tryz.underlying106 (N:=2) ahf (jK (sz:=1) rfl ahf (ON Tryz.underlying9) (jK (sz:=1) rfl ahf YJ (Pe rfl)))).map
  λy b=>⟨(y.1,y.2.1),⟨b.1,b.2.1⟩,rfl⟩
theorem SY:RdZ Tryz.prog 27 bV XT :=
 (Ja Tryz.underlying27 (N:=4) ahf (jK (sz:=1) rfl ahf (Rd.z (YO Tryz.underlying3)) (jK (sz:=1) rfl ahf YK (jK (sz:=1) rfl ahf YK (jK (sz:=1) rfl ahf (vY Tryz.underlying25 aa1 ahf) (Pe rfl)))))).map
  λy b=>⟨⟨y.1,y.2.1,y.2.2.1,y.2.2.2.1⟩,⟨b.2.1,b.2.2.1,by have:=b.2.2.2.1.1;simp only[maxLen]at this⊢;omega,λa c=>by obtain⟨d,e⟩:=b.2.2.2.1.2 a c;simp only[maxLen]at e;simp only[reachBytes]at d;omega⟩,rfl⟩
theorem WY:RdZ Tryz.prog 22 (λl:List Upd=>[.sl (l.flatMap bV) l.length none]) (λl=>(l.length:Int)<=9223372036854775807/\∀u∈l,XT u):=
 (vY Tryz.underlying22 SY ahf).map λl a=>⟨l,⟨by have:=a.1;simp only[maxLen]at this;omega,a.2⟩,rfl⟩
def sO(suf:List Rdn)(l:List aw):List aw:=match atE l suf with|some r=>scL l r 2|none=>[]
theorem Wq{suf:List Rdn}{last:Int}{l:List aw}(a:TOk suf last l):scT l (aO l suf) 2=(sO suf l).map (·.id):=by
 unfold sO aO;rcases h:atE l suf with _|r;have:DU l 0=none:=by rcases he:DU l 0 with _|y;rfl;obtain⟨b,c⟩:=XF he;have:=(a.ids y b).1;omega
 unfold scT;simp only[this];rfl;exact Pa (a.ent (cc h).2.1)
theorem Qt{suf:List Rdn}{l:List aw}(h:x∈sO suf l):x∈l:=by unfold sO at h;split at h;exact(ae0.1 ((afN _ _).mem_iff.1 h)).1;cases h
theorem LX(suf:List Rdn)(l:List aw):(sO suf l).length<=l.length:=by unfold sO;split;exact RI _ _ _;simp
def P0(x:aw):Upd:=⟨1,x.nm,[],x.av⟩
def On(ws:List aw):List (List UInt8):=ws.map λx=>(wrU (P0 x)).1
theorem acW{L:List Blk}{iv mn mi:Nat}{nb bn:Int->Nat}{ck ci:Nat}{rs:List TKy}{suf:List Rdn}{last:Int}{l:List aw}(r:TOk suf last l)(W:l.length<=1000000)(B:∀x∈l,XQ x.av)(E:∀x∈l,qF (P0 x))(F:aU L iv mn mi nb bn ck ci rs suf last l){K:aeh}(h:K (.sl ((On (sO suf l)).map AV.str) (sO suf l).length none) L):
  aeg 30 [.ptr iv 0] L K:=by
 have v:=r.sok.m.b;obtain⟨s,G⟩:=aec (aO l suf);obtain⟨ws,d⟩:=aec (sO suf l);have t:=Wq r;rw[G,d]at t;have V:ws.length<=l.length:=by rw[<- d];exact LX _ _
 have a:∀x∈ws,x∈l:=λx f=>Qt (by rw[d];exact f)
 rw[d]at h;have kk1:Hid (∀{K:aeh},K (dnA suf) L->aeg 33 [.ptr iv 0] L K):=@hid _ (by intro K q;exact Yb v F q);have kk2:Hid (∀{K:aeh},K (.int .i64 s) L->aeg 26 [.ptr iv 0,dnA suf] L K):=@hid _ (by intro K q;exact l8 v r F (by rw[G];exact q))
 obtain⟨A,p⟩:=aec ((ws.map (·.id)).map (AV.int .i64));have kk3:Hid (∀{K:aeh},K (.sl A ws.length none) L->aeg 32 [.ptr iv 0,.int .i64 s,.int .i64 2] L K):=@hid _ (by intro K q;exact JJ r ahd F (by rw[t,aeu,p];exact q))
 have M:A.length=ws.length:=by rw[<- p];simp
 have H:Hid (∀i,i<ws.length->A.getD i .undef=.int .i64 (ws.getD i default).id):=hid (λi T=>by rw[<- p,aeA,aeA];simp[T])
 have S:Hid (∀x∈ws,∀{X:List Blk}{K:aeh},K (.tup [dnA x.nm,.sl (bh x.av) x.av.length none]) (L++X)->aeg 34 [.ptr iv 0,.int .i64 x.id] (L++X) K):=hid (λx f {X K} q=>by refine SC r B (F.app X) (λe=>?_) (λy e=>?_);rw[r.ent (a x f)]at e;cases e;rw[r.ent (a x f)]at e;cases e;exact q)
 have Q:Hid (∀x∈ws,∀{c:Option Nat}{L:List Blk}{K:aeh},K (.tup [.str (wrU (P0 x)).1,.int .i64 (wrU (P0 x)).2]) L->aeg 14 [.agg [.int .i64 1,dnA x.nm,.sl [] 0 c,.sl (bh x.av) x.av.length none]] L K):=hid (λx f {c L K} q=>by
  refine dT ?_;have e:AV.frzL [.agg [.int .i64 1,dnA x.nm,.sl [] 0 c,.sl (bh x.av) x.av.length none]]=[AV.agg (bV (P0 x))]:=by simp only[AV.frzL,AV.frz,dnA,b9,nB,bV,P0];rfl
  rw[e];exact OG (u:=P0 x) (r.ok x (a x f)).m.b ⟨by simp[P0],by simp[P0]⟩ (E x (a x f)) q)
 replace h:=hid h;clear B E F r v G d t p a;refine aef My ?_;clear kk1 kk2 kk3;refine cB (l:=[]) (n:=0) 3 1 rfl (aeW 1).symm ?_;refine ao (λm T' L'=>∃(j:Nat) (C:List AV) (X:List Blk),m=ws.length-j/\j<=ws.length/\Hid (C=(On (ws.take j)).map AV.str)/\T'=[(17,.int .i64 (j:Int)),(16,.int .i64 ws.length),(15,.sl A ws.length none),(3,.gsl C j L.length 1),(0,.ptr iv 0)]/\L'=L++(.spare j 1::X)) ahh ⟨0,[],[],rfl,aep _,hid rfl,rfl,ahe⟩ ?_;rintro _ _ _ ⟨j,C,X,rfl,hj,z,rfl,rfl⟩;by_cases g:j<ws.length;have O:(j:Int)<(ws.length:Int):=ahd;have Y:=aee j ahd;have R:=H.o j g;have P:j<A.length:=ahd;have k:ws.getD j default∈ws:=by simp[g]
 obtain⟨x,f⟩:=aec (ws.getD j default);rw[f]at R k;have kk1:=@hid _ (λ{X:List Blk}{K:aeh}=>S.o x k (X:=X) (K:=K));have kk2:=@hid _ (λ{c:Option Nat}{L:List Blk}{K:aeh}=>Q.o x k (c:=c) (L:=L) (K:=K));have D:Hid (C++[.str (wrU (P0 x)).1]=(On (ws.take (j+1))).map AV.str):=hid (by have:ws[j]=x:=(by rw[<- f];simp[g]);rw[aeM g,this];unfold On at z⊢;rw[aeD,aeD,<- z.o];rfl)
 obtain⟨⟨w,Z⟩,N⟩:∃q,wrU (P0 x)=q:=⟨_,rfl⟩;rw[N]at kk2 D;clear f k z N;refine wk ?_;exact ahi ahd ahg ⟨j+1,_,_,rfl,g,D,rfl,rfl⟩;have I:j=ws.length:=ahd;subst I;have O:¬(ws.length:Int)<(ws.length:Int):=ahd;have U:=ji (On ws);rw[aeI]at z;have J:=z.o;subst J;clear z;refine wk ?_;refine aB ?_;simp only[AV.frz,U];refine af ?_ h.o;simp only[AV.refs,jI]
set_option maxHeartbeats 1000000
abbrev bZ(n:Nat)(lim:Int):Int:=if(n:Int)<lim then(n:Int)else lim
structure JF(L:List Blk)(dp lp wp:Nat)(lim:Int)(S:List Sec):Prop where
 d:∃cp x y z,L[dp]?=some (.cells (fy lp wp S.length cp lim false 0 x y z))
 l:L[lp]?=some (.cells (S.map AV.str))
 w:∃ck,L[wp]?=some (.map [] ck)
 n4:4<=S.length
 n8:S.length<=8192
 all:∀s∈S,s.length=128
 lm:0<=lim/\lim<=9000
theorem JF.ne{L:List Blk}{dp lp wp:Nat}{lim:Int}{S:List Sec}(h:JF L dp lp wp lim S):dp≠lp/\dp≠wp/\lp≠wp:=by
 obtain⟨cp,x,y,z,hd⟩:=h.d;obtain⟨ck,b⟩:=h.w;have a:=h.l;refine⟨λe=>?_,λe=>?_,λe=>?_⟩;rw[e,a]at hd;have h4:=h.n4
 match S,h4 with
 |s::t,_=>simp at hd
 rw[e,b]at hd;simp at hd;rw[e,b]at a;simp at a
structure DY(L:List Blk)(jp dp lp wp:Nat)(lim:Int)(S:List Sec)(j:Jst)(recs:List (List UInt8)):Prop where
 k:JF L dp lp wp lim S
 jb:L[jp]?=some (.cells (j8 dp j false))
 inv:Qx aA S j recs
abbrev OfJ(jp lp wp i:Nat):Prop:=i=jp\/i=lp\/i=wp
theorem DY.ne{L:List Blk}{jp dp lp wp:Nat}{lim:Int}{S:List Sec}{j:Jst}{recs:List (List UInt8)}(h:DY L jp dp lp wp lim S j recs):jp≠dp/\jp≠lp/\jp≠wp:=by
 obtain⟨cp,x,y,z,hd⟩:=h.k.d;obtain⟨ck,c⟩:=h.k.w;have b:=h.k.l;have a:=h.jb;refine⟨λe=>?_,λe=>?_,λe=>?_⟩;rw[e,hd]at a;simp at a;rw[e,b]at a;have h4:=h.k.n4
 match S,h4 with
 |s::t,_=>simp at a
 rw[e,c]at a;simp at a
theorem JF.keep{L M:List Blk}{dp lp wp:Nat}{lim:Int}{S:List Sec}(h:JF L dp lp wp lim S)(e:∀i,i=dp\/i=lp\/i=wp->M[i]?=L[i]?):JF M dp lp wp lim S:=by obtain⟨cp,x,y,z,hd⟩:=h.d;obtain⟨ck,a⟩:=h.w;exact⟨⟨cp,x,y,z,by rw[e dp (.inl rfl)];exact hd⟩,by rw[e lp (.inr (.inl rfl))];exact h.l,⟨ck,by rw[e wp (.inr (.inr rfl))];exact a⟩,h.n4,h.n8,h.all,h.lm⟩
theorem DY.keep{L M:List Blk}{jp dp lp wp:Nat}{lim:Int}{S:List Sec}{j:Jst}{recs:List (List UInt8)}(h:DY L jp dp lp wp lim S j recs)(e:∀i,i=dp\/OfJ jp lp wp i->M[i]?=L[i]?):DY M jp dp lp wp lim S j recs :=
 ⟨h.k.keep λi q=>e i (q.elim .inl λq=>.inr (.inr q)),by rw[e jp (.inr (.inl rfl))];exact h.jb,h.inv⟩
theorem PE{S ss:List Sec}{a:Nat}(c:∀s∈S,s.length=128)(d:∀s∈ss,s.length=128):∀s∈fM S a ss,s.length=128:=λs b=>by unfold fM at b;rcases aen.1 b with b|b;exact c s (agp b);rcases aen.1 b with b|b;exact d s b;exact c s (afM b)
theorem P6:∀s,aA s<2^32:=Sb
theorem Z6{gen:Nat}(e:1<=gen/\gen<2^32)(g:bs.length<=1000000)(d:∀b∈bs,b.length<=262144):∀s∈(gm gen 0 bs).map (ft aA),s.length=128:=λs a=>by obtain⟨c,f,rfl⟩:=ael.1 a;exact JR c (LY e bs 0 ahd d c f).1.len
theorem YG{S:List Sec}{j:Jst}(h:(aX aA S room j bs).1≠0):((aX aA S room j bs).1=5\/(aX aA S room j bs).1=11)/\(aX aA S room j bs).2=(j,S):=by unfold aX at h⊢;split;exact⟨.inl rfl,rfl⟩;split;exact⟨.inr rfl,rfl⟩;rename_i a b;rw[if_neg a,if_neg b]at h;exact absurd rfl h
theorem ac6{S:List Sec}{j:Jst}{b:List UInt8}(h:(io aA S room j b).1≠0):((io aA S room j b).1=5\/(io aA S room j b).1=11)/\(io aA S room j b).2=(j,S):=by unfold io at h⊢;split;exact⟨.inl rfl,rfl⟩;split;exact⟨.inr rfl,rfl⟩;rename_i a b;rw[if_neg a,if_neg b]at h;exact absurd rfl h
theorem Q6{S:List Sec}{j:Jst}(c:∀s∈S,s.length=128)(k:S.length<=8192)(h:(aX aA S room j bs).1=0):(∀s∈(aX aA S room j bs).2.2,s.length=128)/\(aX aA S room j bs).2.1.gen=j.gen+1:=by
 unfold aX at h⊢;split;rename_i a;rw[if_pos a]at h;cases h;split;rename_i a b;rw[if_neg a,if_pos b]at h;cases h;rename_i a b;simp only[not_or,Nat.not_lt]at b;have i:=lP bs;have f:aQ S.length=(S.length-2)/2:=rfl;have g:∀x∈bs,x.length<=262144:=λx d=>by rw[Bool.not_eq_true,afY]at a;have:=a x d;simpa using this
 exact⟨PE (PE c (Z6 ⟨ahd,ahd⟩ ahd g)) (λs e=>by rw[aeG.1 e];exact SN _ _),rfl⟩
theorem abM{S:List Sec}{j:Jst}{b:List UInt8}(a:∀s∈S,s.length=128)(f:1<=j.gen/\j.gen<2^32)(d:j.n<2^32):(∀s∈(io aA S room j b).2.2,s.length=128)/\(io aA S room j b).2.1.gen=j.gen:=by unfold io;split;exact⟨a,rfl⟩;split;exact⟨a,rfl⟩;refine⟨PE a λs e=>?_,rfl⟩;obtain⟨c,g,rfl⟩:=ael.1 e;exact JR c (Qn f d ahd c g).len
section
variable {L:List Blk}{jp dp lp wp:Nat}{lim:Int}{S:List Sec}{j:Jst}{recs:List (List UInt8)}
theorem DY.small(h:DY L jp dp lp wp lim S j recs):j.used<=4095/\j.n<=4095/\recs.length<=4095:=by have a:=h.inv.used;have b:=h.inv.n;have c:=lP recs;have h4:=h.k.n8;have:aQ S.length=(S.length-2)/2:=rfl;omega
theorem Xj(h:DY L jp dp lp wp lim S j recs){bs:List (List UInt8)}{c:Option Nat}(I:bs.length<=1000000){K:aeh}(s:∀M v t recs',DY M jp dp lp wp lim v t recs'->v.length=S.length->t.gen<=j.gen+1->((aX aA S (bZ S.length lim) j bs).1=0->recs'=bs)->((aX aA S (bZ S.length lim) j bs).1≠0->recs'=recs/\t=j/\((aX aA S (bZ S.length lim) j bs).1=5\/(aX aA S (bZ S.length lim) j bs).1=11))->(∀i,¬OfJ jp lp wp i->i<L.length->M[i]?=L[i]?)->L.length<=M.length->K (.int .i64 (aX aA S (bZ S.length lim) j bs).1) M):
  aeg 29 [.ptr jp 0,.sl (bs.map AV.str) bs.length c] L K:=by
 obtain⟨A,C,a3⟩:=h.k.ne;obtain⟨a4,a5,H⟩:=h.ne;obtain⟨cp,x,y,z,hd⟩:=h.k.d;obtain⟨ck,J⟩:=h.k.w;obtain⟨F,a⟩:=aec (aX aA S (bZ S.length lim) j bs);rw[a]at s;refine Tw h.jb hd h.k.l J A C a3 a5 H a4 h.k.n8 h.k.n4 h.inv.half h.k.lm.2 I (λM m n o E p u=>?_);have B:M[dp]?=L[dp]?:=p dp (Ne.symm a4) A C (aei.1 hd).1;rw[show aX aA S (bZ S.length lim) j bs=F from a]at n o⊢;by_cases e:F.1=0;obtain⟨g,b⟩:=Q5 (room:=bZ S.length lim) (bs:=bs) P6 (h.inv.old P6 h.k.n8) h.k.n8 (by rw[a];exact e);obtain⟨G,D⟩:=Q6 (room:=bZ S.length lim) (j:=j) (bs:=bs) h.k.all h.k.n8 (by rw[a];exact e);rw[a]at g b G D;refine s M _ _ bs ⟨⟨⟨cp,x,y,z,?_⟩,o,⟨m,E⟩,by rw[b];exact h.k.n4,by rw[b];exact h.k.n8,G,h.k.lm⟩,n,g⟩ b (by rw[D];exact aek _) (λ_=>rfl) (λq=>absurd e q) (λi f r=>p i (λe=>f (.inl e)) (λe=>f (.inr (.inl e))) (λe=>f (.inr (.inr e))) r) u;rw[B,b];exact hd;obtain⟨g,b⟩:=YG (S:=S) (room:=bZ S.length lim) (j:=j) (bs:=bs) (by rw[a];exact e);rw[a]at g b;rw[b]at n o;exact s M S j recs ⟨⟨⟨cp,x,y,z,by rw[B];exact hd⟩,o,⟨m,E⟩,h.k.n4,h.k.n8,h.k.all,h.k.lm⟩,n,h.inv⟩ rfl (aga _) (λq=>absurd q e) (λ_=>⟨rfl,rfl,g⟩) (λi f r=>p i (λe=>f (.inl e)) (λe=>f (.inr (.inl e))) (λe=>f (.inr (.inr e))) r) u
theorem PJ(h:DY L jp dp lp wp lim S j recs){b:List UInt8}{K:aeh}(t:∀M p u recs',DY M jp dp lp wp lim p u recs'->p.length=S.length->u.gen=j.gen->((io aA S (bZ S.length lim) j b).1=0->recs'=recs++[b])->((io aA S (bZ S.length lim) j b).1≠0->recs'=recs/\p=S/\u=j/\((io aA S (bZ S.length lim) j b).1=5\/(io aA S (bZ S.length lim) j b).1=11))->(∀i,¬OfJ jp lp wp i->i<L.length->M[i]?=L[i]?)->L.length<=M.length->K (.int .i64 (io aA S (bZ S.length lim) j b).1) M):
  aeg 28 [.ptr jp 0,.str b] L K:=by
 obtain⟨A,C,a3⟩:=h.k.ne;obtain⟨a4,a5,H⟩:=h.ne;obtain⟨cp,x,y,z,hd⟩:=h.k.d;obtain⟨ck,I⟩:=h.k.w;obtain⟨J,O,N⟩:=h.small;obtain⟨F,a⟩:=aec (io aA S (bZ S.length lim) j b);rw[a]at t;refine Xk h.jb hd h.k.l I A C a3 a5 H a4 h.k.n8 h.k.n4 h.inv.half ahd h.k.lm.1 h.k.lm.2 h.inv.gen ahd (λM m n o E r v=>?_);have B:M[dp]?=L[dp]?:=r dp (Ne.symm a4) A C (aei.1 hd).1;obtain⟨G,D⟩:=abM (S:=S) (room:=bZ S.length lim) (j:=j) (b:=b) h.k.all h.inv.gen ahd;rw[a]at G D;rw[show io aA S (bZ S.length lim) j b=F from a]at n o⊢;by_cases e:F.1=0;obtain⟨g,c⟩:=abL (room:=bZ S.length lim) (b:=b) P6 h.inv h.k.n8 (by rw[a];exact e);rw[a]at g c;refine t M _ _ (recs++[b]) ⟨⟨⟨cp,x,y,z,?_⟩,o,⟨m,E⟩,by rw[c];exact h.k.n4,by rw[c];exact h.k.n8,G,h.k.lm⟩,n,g⟩ c D (λ_=>rfl) (λq=>absurd e q) (λi f s=>r i (λe=>f (.inl e)) (λe=>f (.inr (.inl e))) (λe=>f (.inr (.inr e))) s) v;rw[B,c];exact hd;obtain⟨g,c⟩:=ac6 (S:=S) (room:=bZ S.length lim) (j:=j) (b:=b) (by rw[a];exact e);rw[a]at g c;rw[c]at n o;exact t M S j recs ⟨⟨⟨cp,x,y,z,by rw[B];exact hd⟩,o,⟨m,E⟩,h.k.n4,h.k.n8,h.k.all,h.k.lm⟩,n,h.inv⟩ rfl rfl (λq=>absurd q e) (λ_=>⟨rfl,rfl,rfl,g⟩) (λi f s=>r i (λe=>f (.inl e)) (λe=>f (.inr (.inl e))) (λe=>f (.inr (.inr e))) s) v
end
end Go.Proofs.YtajkbcmleihaoaaGreatDoor.Av
