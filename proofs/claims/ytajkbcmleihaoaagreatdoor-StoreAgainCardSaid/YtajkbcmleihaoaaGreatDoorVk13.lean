/- Joined texts of the walk, made small by a program. -/
import Derived.Test.YtajkbcmleihaoaaGreatDoorVk12
import Derived.Test.YtajkbcmleihaoaaGreatDoorVk9
import Derived.Test.YtajkbcmleihaoaaGreatDoorVk10
import Derived.Test.YtajkbcmleihaoaaGreatDoorVk8
import Derived.Test.YtajkbcmleihaoaaGreatDoorVk5
import Derived.Test.YtajkbcmleihaoaaGreatDoorVk4
import Derived.Test.YtajkbcmleihaoaaGreatDoorRows
import Derived.KernelRfl
set_option linter.unusedSimpArgs false
set_option linter.unusedVariables false
namespace Go.Proofs.YtajkbcmleihaoaaGreatDoor.Av
open Go
variable {x y:aw}{dn tn:List Rdn}{ids W:List Int}{L':List Blk}{bs:List (List UInt8)}{room:Int}
set_option maxHeartbeats 8000000
set_option maxRecDepth 100000
def cz(kd:Int->Int)(x:aw):List AV:=[dnA x.nm,.sl (ay (pth x)) x.nm.length none,atR x.av,.int .i64 (kd x.id)]
structure be(L:List Blk)(iv mn mi:Nat)(nb bn:Int->Nat)(ck ci:Nat)(rs:List TKy)(suf:List Rdn)(last:Int)(l lk:List aw)(kd:Int->Int):Prop where
 v:L[iv]?=some (.cells [dnA suf,.lmap mn,.lmap mi,.int .i64 last])
 n:L[mn]?=some (.map (l.map (eY nb bn)) ck)
 i:L[mi]?=some (.map (rs.map kyA) ci)
 nd:∀x∈l,L[nb x.id]?=some (.cells (cz kd x))
 inj:∀x∈l,∀y∈l,nb x.id=nb y.id->x.id=y.id
 keys:(rs.map (·.1)).Nodup
 mem:∀k id,(∃b,(k,id,b)∈rs)↔∃x∈lk,aP true x.nm=k/\x.id=id
 bnd:(l.map λx=>bn x.id).Nodup
 blt:∀x∈l,bn x.id<ck
theorem TOk.kidsE{suf:List Rdn}{last:Int}{l:List aw}(h:TOk suf last l)(a:x∈l):jl l x.id=aO (cu l) (NK x.nm):=by unfold jl;rw[h.ent a]
theorem aR.toK{L:List Blk}{iv mn mi:Nat}{nb bn:Int->Nat}{ck ci:Nat}{rs:List TKy}{suf:List Rdn}{last:Int}{l:List aw}(h:aR L iv mn mi nb bn ck ci rs suf last l)(j:TOk suf last l):be L iv mn mi nb bn ck ci rs suf last l l (λid=>(jl l id:Nat)):=by
 have nd:∀x∈l,L[nb x.id]?=some (.cells (cz (λid=>(jl l id:Nat)) x)):=λx c=>by rw[h.nd x c];unfold lz cz;dsimp only;rw[j.kidsE c]
 refine⟨h.v,h.n,h.i,nd,λx c y k e=>?_,h.keys,h.mem,h.bnd,h.blt⟩;have d:=h.nd x c;have o:=h.nd y k;rw[e,o]at d;have g:lz l y=lz l x:=by injection d with d;injection d
 unfold lz at g;simp only[ahG,AV.sl.injEq]at g;have h4:ay (pth y)=ay (pth x):=g.2.1.1;have m:pth y=pth x:=(List.map_inj_right λa b f=>by injection f).1 h4;rw[j.byN k c (Pe m)]
theorem be.toT{L:List Blk}{iv mn mi:Nat}{nb bn:Int->Nat}{ck ci:Nat}{rs:List TKy}{suf:List Rdn}{last:Int}{l:List aw}{kd:Int->Int}(h:be L iv mn mi nb bn ck ci rs suf last l l kd)(b:∀x∈l,kd x.id=(aO (cu l) (NK x.nm):Nat)):aR L iv mn mi nb bn ck ci rs suf last l :=
 ⟨h.v,h.n,h.i,λx a=>by rw[h.nd x a];unfold cz lz;rw[b x a],h.keys,h.mem,h.bnd,h.blt⟩
theorem be.app{L:List Blk}{iv mn mi:Nat}{nb bn:Int->Nat}{ck ci:Nat}{rs:List TKy}{suf:List Rdn}{last:Int}{l lk:List aw}{kd:Int->Int}(h:be L iv mn mi nb bn ck ci rs suf last l lk kd)(X:List Blk):be (L++X) iv mn mi nb bn ck ci rs suf last l lk kd:=by
 have key:∀{i:Nat}{b:Blk},L[i]?=some b->(L++X)[i]?=some b:=λ{i b} e=>by rw[ae3 (aeY.1 e).1];exact e
 exact⟨key h.v,key h.n,key h.i,λx a=>key (h.nd x a),h.inj,h.keys,h.mem,h.bnd,h.blt⟩
section
variable {L:List Blk}{iv mn mi:Nat}{nb bn:Int->Nat}{ck ci:Nat}{rs:List TKy}{suf:List Rdn}{last:Int}{l lk:List aw}{kd:Int->Int}
def OfT(iv mn mi:Nat)(nb:Int->Nat)(l:List aw)(i:Nat):Prop:=i=iv\/i=mn\/i=mi\/∃x∈l,i=nb x.id
structure aL(B:Nat->Prop)(L L':List Blk):Prop where
 len:L.length<=L'.length
 eq:∀i,i<L.length->¬B i->L'[i]?=L[i]?
theorem aL.refl{B:Nat->Prop}(L:List Blk):aL B L L:=⟨ae0 _,λ_ _ _=>rfl⟩
theorem aL.app{B:Nat->Prop}(L X:List Blk):aL B L (L++X):=⟨ah4,λi a _=>ae3 a⟩
theorem aL.trans{B:Nat->Prop}{L L1 L2:List Blk}(h:aL B L L1)(g:aL B L1 L2):aL B L L2:=⟨afw h.len g.len,λi b a=>by rw[g.eq i (af8 b h.len) a,h.eq i b a]⟩
theorem aL.set{B:Nat->Prop}(L:List Blk){j:Nat}(c:B j)(b:Blk):aL B L (L.set j b):=⟨ah4,λi d a=>ae4 (λe=>a (by rw[<- e];exact c))⟩
theorem aL.weak{B a:Nat->Prop}{L L':List Blk}(h:aL B L L')(c:∀i,i<L.length->B i->a i):aL a L L':=⟨h.len,λi b d=>h.eq i b λe=>d (c i b e)⟩
theorem aL.trans2{B b:Nat->Prop}{L L1 L2:List Blk}(h:aL B L L1)(g:aL b L1 L2)(d:∀i,i<L.length->b i->B i):aL B L L2:=⟨afw h.len g.len,λi a c=>by rw[g.eq i (af8 a h.len) (λe=>c (d i a e)),h.eq i a c]⟩
theorem aL.get{B:Nat->Prop}{L L':List Blk}(h:aL B L L'){i:Nat}{b:Blk}(a:L[i]?=some b)(c:¬B i):L'[i]?=some b:=by rw[h.eq i (aeY.1 a).1 c];exact a
theorem be.node(h:be L iv mn mi nb bn ck ci rs suf last l lk kd)(id:Int):
  (Ef l id=none/\bH (.int .i64 id) (l.map (eY nb bn)) 0=some none)\/∃x n,Ef l id=some x/\x∈l/\x.id=id/\bH (.int .i64 id) (l.map (eY nb bn)) 0=some (some (n,.ptr (nb id) 0))/\L[nb id]?=some (.cells (cz kd x))/\l.getD n default=x:=by
 rw[yD];unfold Ef;rcases iQ (f:=λx:aw=>decide (x.id=id)) (l:=l)with⟨a,d⟩|⟨n,a,d,b⟩;exact .inl ⟨d,by rw[a];rfl⟩;right;have e:=agr b;have c:(l.getD n default).id=id:=by have:=ags b;simpa using this
 refine⟨_,n,b,e,c,by rw[a];simp,?_,rfl⟩;have:=h.nd _ e;rwa[c]at this
theorem be.look(h:be L iv mn mi nb bn ck ci rs suf last l lk kd)(i:TOk suf last lk){d:List Rdn}(hd:OkD d):
  (aN lk d=0/\atE lk d=none/\bH (.str (aP true d)) (rs.map kyA) 0=some none)\/∃j,bH (.str (aP true d)) (rs.map kyA) 0=some (some (j,.int .i64 (aN lk d)))/\j<rs.length/\(rs.getD j default).1=aP true d:=by
 rw[yG];rcases iQ (f:=λr:TKy=>decide (r.1=aP true d)) (l:=rs)with⟨m,g⟩|⟨n,m,u,g⟩;left;have a:atE lk d=none:=yS.2 λ_ x c e=>by obtain⟨b,q⟩:=(h.mem (aP true x.nm) x.id).2 ⟨x,c,rfl,rfl⟩;have:=af7.1 g _ q;simp only[decide_eq_true_eq]at this;exact this ((mP (i.ok x c) hd).2 e)
 exact⟨i.find0.2 a,a,by rw[m];rfl⟩;right;refine⟨n,?_⟩;obtain⟨⟨k,id,b⟩,hr⟩:∃r,rs.getD n default=r:=⟨_,rfl⟩;have p:=agr g;have o:k=aP true d:=by have:=ags g;rw[hr]at this;simpa using this
 rw[hr]at p;obtain⟨x,c,s,t⟩:=(h.mem k id).1 ⟨b,p⟩;have:atE lk d=some x:=i.at c hd ((mP hd (i.ok x c)).1 (by rw[<- o,s]));rw[m];refine⟨by simp only[afi,hr,agm,aN,this,t],u,by rw[hr];exact o⟩
theorem ab1{d:List Rdn}{cap:Option Nat}(hd:dnB d)(r:TOk suf last lk)(b:be L iv mn mi nb bn ck ci rs suf last l lk kd){K:aeX}(h:K (.int .i64 (aN lk d)) L):
  aeW 26 [.ptr iv 0,.sl (d.map aH) d.length cap] L K:=by
 replace h:=hid h;obtain⟨⟨s,e⟩,a⟩:∃q,Sq d=q:=⟨_,rfl⟩;have kk1:Hid (Ctr Tryz.prog 61 [.sl (d.map aH) d.length cap] (.tup [.str s,.int .i64 e])):=@hid _ (by intro L K q;exact MI hd.1 hd.2 (by rw[a];exact q));have w:=b.v;have u:=b.i;by_cases t:e=0;subst t;have f:OkD d:=by by_cases c:OkD d;exact c;exact absurd (by rw[a]) (Sp c)
 have g:s=aP true d:=by have:=qL f;rw[a]at this;injection this
 rcases b.look r f with⟨m,_,k⟩|⟨j,k,_⟩;rw[<- g]at k;rw[m]at h;have n:aU .str (.str s)=true:=rfl;clear a b g;refine aeV bX ?_;exact ag h.o;rw[<- g]at k;have n:aU .str (.str s)=true:=rfl;obtain⟨z,p⟩:=aeS (aN lk d);rw[p]at h k;clear a b g p;refine aeV bX ?_;exact ag h.o;have m:aN lk d=0:=by refine r.find0.2 (yS.2 λc=>?_);have:=qL c;rw[a]at this;exact absurd (by injection this) t
 rw[m]at h;clear a b;refine aeV bX ?_;exact ag h.o
theorem be.kid(h:be L iv mn mi nb bn ck ci rs suf last l lk kd){x:aw}(g:x∈l)(c:Int):be (L.set (nb x.id) (.cells [dnA x.nm,.sl (ay (pth x)) x.nm.length none,atR x.av,.int .i64 (kd x.id+c)])) iv mn mi nb bn ck ci rs suf last l lk (λi=>if i=x.id then kd i+c else kd i):=by
 have a:=h.nd x g;have p:=(aeY.1 a).1;have k:nb x.id≠iv:=λe=>by rw[e,h.v]at a;simp[cz]at a
 have m:nb x.id≠mn:=λe=>by rw[e,h.n]at a;simp at a
 have n3:nb x.id≠mi:=λe=>by rw[e,h.i]at a;simp at a
 refine⟨by rw[ae4 k];exact h.v,by rw[ae4 m];exact h.n,by rw[ae4 n3];exact h.i,λy f=>?_,h.inj,h.keys,h.mem,h.bnd,h.blt⟩;by_cases e:nb x.id=nb y.id;have j:=h.inj x g y f e;have b:cz kd x=cz kd y:=by have d:=h.nd y f;rw[<- e,a]at d;injection d with d;injection d
 rw[<- e];simp only[p,afy,aeZ,Blk.cells.injEq];unfold cz at b⊢;simp only[ahG]at b;dsimp only;rw[if_pos j.symm,b.1,b.2.1,b.2.2.1,j];rw[ae4 e,h.nd y f];unfold cz;dsimp only;rw[if_neg (λo=>e (by rw[o]))]
theorem Zn{it:Nat}{d:List Rdn}{cap:Option Nat}{b:Int}(hd:dnB d)(u:d≠[])(G:TOk suf last lk)(g:∀x∈lk,∃y∈l,y.id=x.id)(U:L[it]?=some (.cells [.ptr iv 0]))(w:be L iv mn mi nb bn ck ci rs suf last l lk kd)(Z : -1<=b/\b<=1)(t:∀i,-10000000<=kd i/\kd i<=10000000){K:aeX}(M:aN lk d.tail=0->K (.tup []) L)(J:∀x∈l,x.id=aN lk d.tail->K (.tup []) (L.set (nb x.id) (.cells [dnA x.nm,.sl (ay (pth x)) x.nm.length none,atR x.av,.int .i64 (kd x.id+b)]))):
  aeW 70 [.ptr it 0,.sl (d.map aH) d.length cap,.int .i64 b] L K:=by
 obtain⟨r,a,rfl⟩:∃r a,d=r::a:=by
  cases d with
  |nil=>exact absurd rfl u
  |cons r a=>exact⟨r,a,rfl⟩
 simp only[List.tail_cons]at M J;have s:dnB a:=⟨by have:=hd.1;simp at this;omega,λr hr=>hd.2 r (by simp[hr])⟩;obtain⟨z,m⟩:=aeS (aN lk a);have kk1:Hid (∀{c:Option Nat}{K:aeX},K (.int .i64 z) L->aeW 26 [.ptr iv 0,.sl (List.take a.length (a.map aH)) a.length c] L K):=@hid _ (by intro c K q;rw[afu ah4];exact ab1 s G w (by rw[m];exact q))
 have e:(((r::a).length:Nat):Int)=(a.length:Int)+1:=ah4;have g1:(1:Int)<=((r::a).length:Int):=by rw[e];omega
 have R:(r::a).length-1=a.length:=ah4;have g3:List.drop 1 ((r::a).map aH)=a.map aH:=ah4;have Y:=w.v;have W:=w.n;by_cases H:z=0;subst H;replace h:=hid (M m);obtain⟨D,A⟩:=aeS ((r::a).map aH);obtain⟨n,f⟩:=aeS ((r::a).length);rw[A]at g3⊢;rw[f]at g1 R⊢;clear M J m w t g G hd s u e A f;refine aeV mt ?_;exact iX ⟨.inl rfl,True,[],rfl,trivial,ag h.o⟩;obtain⟨y,O⟩:∃y,atE lk a=some y:=by
  cases I:atE lk a with
  |none=>exact absurd (G.find0.2 I) (by rw[m];exact H)
  |some y=>exact⟨y,rfl⟩
 have E:y.id=z:=by rw[<- m];unfold aN;rw[O]
 obtain⟨_,p,_⟩:=bi O;have Q:=(G.ids y p).1;obtain⟨T,B,C⟩:=g y p;rcases w.node z with⟨P,_⟩|⟨x,j,P,S,k,e2,N,_⟩;exact absurd (af7.1 P T B) (by simp[C,E]);have h:=J x S (by rw[k,m]);rw[k]at h;replace h:=hid h;unfold cz at N;rw[k]at N;obtain⟨q,I⟩:=aeS (kd z);have F:=t z;rw[I]at h N F;have w1:IntKind.i64.wrap (q+b)=q+b:=ae ah3 ah3;have V:aU .int (.int .i64 z)=true:=rfl;have g4:(0:Int)<z:=ah3;have X:z>0:=g4;obtain⟨D,A⟩:=aeS ((r::a).map aH);obtain⟨n,f⟩:=aeS ((r::a).length);rw[A]at g3⊢;rw[f]at g1 R⊢;clear M J m w t g G hd s u e A f O E p Q C B P S k I F;refine aeV mt ?_;exact⟨.inl rfl,True,[],rfl,trivial,ag h.o⟩
end
set_option maxHeartbeats 8000000
set_option maxRecDepth 100000
theorem Pz{l:List aw}(h:Ef l x.id=some x):scT l x.id 2=(scL l x 2).map (·.id):=by unfold scT;rw[h];exact if_neg ah3
theorem Pb{suf:List Rdn}{last:Int}{l:List aw}(f:TOk suf last l)(d:atE l dn=some x):y∈scL l x 2↔y∈l/\gk y.nm dn=true:=by
 obtain⟨hd,b,e⟩:=bi d;unfold scL;rw[List.Perm.mem_iff (aga _ _),afB];refine and_congr_right λg=>?_
 unfold fA;rw[decide_eq_true (rfl:(2:Int)=2),Bool.true_or,agL,cQ,cQ,e];exact⟨λ⟨a,_,c⟩=>⟨a,hd,c⟩,λ⟨a,_,c⟩=>⟨a,f.ok x b,c⟩⟩
theorem Sf(l:List aw)(x:aw)(s:Int):(scL l x s).length<=l.length:=by unfold scL;rw[ahS];exact ahb _ _
theorem acj{suf:List Rdn}{last:Int}{l:List aw}(c:TOk suf last l)(b:atE l dn=some x):UD l dn tn=(scL l x 2).any λy => !decide (OkD (nR y.nm dn.length tn)):=by rw[ahD,UD,agp,agp];constructor;rintro⟨y,a,h⟩;rw[ae7]at h;exact⟨y,(Pb c b).2 ⟨a,h.1⟩,h.2⟩;rintro⟨y,a,h⟩;obtain⟨e,d⟩:=(Pb c b).1 a;exact⟨y,e,by rw[ae7];exact⟨d,h⟩⟩
theorem ac6{suf:List Rdn}{last:Int}{l:List aw}(s:TOk suf last l)(a6:l.length<=1100000){L:List Blk}{iv mn mi:Nat}{nb bn:Int->Nat}{ck ci:Nat}{rs:List TKy}(t:aR L iv mn mi nb bn ck ci rs suf last l){k:Int}{v:AV}(hx:atE l dn=some x)(U:dnB tn){K:aeX}(h:K (.int .i64 (Sr suf l x.id dn tn)) L):
  aeW 37 [.ptr iv 0,.int .i64 x.id,.agg [.int .i64 k,dnA dn,dnA tn,v]] L K:=by
 obtain⟨hd,a2,a8⟩:=bi hx;have g:=s.sok.m.b;have f:=hd.m.b;have hv:=t.v;have ap:iv<L.length:=(aeY.1 hv).1;have av:∀X:List Blk,(L++X)[iv]?=some (.cells [dnA suf,.lmap mn,.lmap mi,.int .i64 last]):=λX=>by rw[ae3 ap];exact hv
 obtain⟨⟨ps,pe⟩,J⟩:∃q,prS tn=q:=⟨_,rfl⟩;have kk1:Hid (Ctr Tryz.prog 35 [dnA tn] (.tup [.str ps,.int .i64 pe])):=@hid _ (by intro L K q;exact yX U.1 U.2 (by rw[J];exact q));have kk2:Hid (∀{v:Nat}{L:List Blk}{K:aeX},K (.bool (MC dn suf)) L->aeW 36 [.ptr v 0,dnA dn,dnA suf] L K):=@hid _ (by intro v L K q;exact We f g q);have M:OkD tn↔pe=0:=by unfold OkD;rw[J]
 unfold Sr at h;by_cases c1:MC dn suf=true;rw[if_pos c1]at h;rw[c1]at kk2;replace h:=hid h;clear t J M f g;refine aeV bf ?_;exact af rfl h.o;rw[if_neg c1]at h;rw[Bool.eq_false_iff.2 c1]at kk2;by_cases c2:pe=0;rotate_left;rw[if_pos (.inl λc=>c2 (M.1 c))]at h;replace h:=hid h;clear t J M f g;refine aeV bf ?_;exact af rfl h.o;have N:=M.2 c2;have a7:=N.len;subst c2;by_cases c3:tn=[];rw[if_pos (.inr c3)]at h;replace h:=hid h;subst c3;clear t J M f g;refine aeV bf ?_;exact af rfl h.o;rw[if_neg (λc=>c.elim (λc=>c N) c3)]at h;have a9:¬(tn.length:Int)=0:=λc=>c3 (afK.1 ah3)
 have a':(1:Int)<=(tn.length:Int):=ah3;have ad:tn.tail.length=tn.length-1:=agA;have A:List.take (tn.length-1) (List.drop 1 (tn.map aH))=tn.tail.map aH:=by rw[ag9,List.map_tail,afu ah4]
 have al:=N.tail;have kk3:Hid (∀{c:Option Nat}{L:List Blk}{K:aeX},K (.bool (gk tn.tail dn)) L->aeW 77 [.sl (List.take (tn.length-1) (List.drop 1 (tn.map aH))) (tn.length-1) c,dnA dn] L K):=@hid _ (by intro c L K q;rw[A,<- ad];exact Wg al.m.b f q)
 have kf:Hid (∀{c:Option Nat}{L':List Blk}{K:aeX}(d:List Rdn) (X:List Blk),dnB d->K (.int .i64 (aN l d)) (L++X)->aeW 26 [.ptr iv 0,.sl (d.map aH) d.length c] (L++X) K):=@hid _ (by intro c L' K d X a4 q;exact mO a4 s (t.app X) q)
 have kk4:Hid (∀{c:Option Nat}{X:List Blk}{K:aeX},K (.int .i64 (aN l tn.tail)) (L++X)->aeW 26 [.ptr iv 0,.sl (List.take (tn.length-1) (List.drop 1 (tn.map aH))) (tn.length-1) c] (L++X) K):=@hid _ (by intro c X K q;rw[A,<- ad];exact kf.o (L':=L) _ X al.m.b q)
 by_cases c4:gk tn.tail dn=true;rw[if_pos c4]at h;rw[c4]at kk3;replace h:=hid h;clear t J M f g kf kk4 A;refine aeV bf ?_;exact af rfl h.o;rw[if_neg c4]at h;rw[Bool.eq_false_iff.2 c4]at kk3;by_cases c5:atE l tn.tail=none;rw[if_pos c5]at h;rw[s.find0.2 c5]at kk4;replace h:=hid h;clear t J M f g kf A;refine aeV bf ?_;exact af rfl h.o;rw[if_neg c5]at h;have a3:¬aN l tn.tail=0:=λc=>c5 (s.find0.1 c)
 have kk5:Hid (∀{X:List Blk}{K:aeX},K (.int .i64 (aN l tn)) (L++X)->aeW 26 [.ptr iv 0,dnA tn] (L++X) K):=@hid _ (by intro X K q;exact kf.o (L':=L) _ X N.m.b q)
 obtain⟨z,hz⟩:=aeS (aN l tn.tail);rw[hz]at kk4 a3;have R:TK l x.id tn=(decide (0<aN l tn)&&decide (aN l tn≠x.id)):=by
  unfold TK aN;cases hq:atE l tn with
  |none=>simp
  | some y =>
    have:=(s.ids y (bi hq).2.1).1;simp only;rw[decide_eq_true (by omega:0<y.id),afU]
 rw[R]at h;obtain⟨w,hw⟩:=aeS (aN l tn);rw[hw]at kk5 h;obtain⟨xi,W⟩:=aeS (x.id);rw[W]at h⊢;by_cases c6:0<w/\w≠xi;obtain⟨c6,c7⟩:=c6;have a_:w>0:=c6;rw[if_pos (by rw[decide_eq_true c6,decide_eq_true c7];rfl)]at h;replace h:=hid h;clear t J M f g kf A;refine aeV bf ?_;exact af rfl h.o;rw[if_neg (by intro c;rw[ae7,decide_eq_true_eq,decide_eq_true_eq]at c;exact c6 c)]at h
 have c8:w<=0\/w=xi:=ah3;rw[acj s hx]at h;have a1:scT l xi 2=(scL l x 2).map (·.id):=by rw[<- W];exact Pz (s.ent a2)
 have kk6:Hid (∀{X:List Blk}{K:aeX},K (.sl (((scL l x 2).map (·.id)).map (AV.int .i64)) (scL l x 2).length none) (L++X)->aeW 32 [.ptr iv 0,.int .i64 xi,.int .i64 2] (L++X) K):=@hid _ (by intro X K q;refine J6 s a6 (t.app X) ?_;rw[a1,ae6];exact q)
 obtain⟨a,S⟩:=aeS (scL l x 2);have a0:=Sf l x 2;have p:=λy=>(Pb (y:=y) s hx).1
 rw[S]at kk6 h a0 p;replace p:=hid p;replace h:=hid h;replace t:=hid t;replace s:=hid s;clear J M f g kf A a1 S R hw hz W;have c9:(¬0<w/\¬w>0)\/(0<w/\w>0/\xi=w):=ah3;clear c8 c6;have bb:=hd.len;rcases c9 with⟨c9,a5⟩|⟨c9,a5,rfl⟩
 all_goals
  refine aeV bf ?_;refine ao (λm T' L'=>∃j:Nat,m=a.length-j/\j<=a.length/\Hid (∀i,i<j->OkD (nR (a.getD i default).nm dn.length tn))/\T'=[(68,.int .i64 (j:Int)),(67,.int .i64 a.length),(66,.sl ((a.map (·.id)).map (AV.int .i64)) a.length none),(5,.ptr L.length 0),(0,.ptr iv 0)]/\L'=L++[.cells [.int .i64 k,dnA dn,dnA tn,v]]) ah7 ⟨0,rfl,ae5 _,hid (λi hi=>absurd hi (Nat.not_lt_zero _)),rfl,rfl⟩ ?_;rintro _ _ _ ⟨j,rfl,hj,hI,rfl,rfl⟩;by_cases Q:j<a.length
  .have g1:(j:Int)<(a.length:Int):=ah3;have g2:=aeU j ah3;obtain⟨y,T⟩:=aeS (a.getD j default);have I:y∈a:=(by rw[<- T];simp[Q]);obtain⟨C,V⟩:=p.o y I;have e1:((a.map (·.id)).map (AV.int .i64)).getD j .undef=.int .i64 y.id:=(by rw[<- T];simp[Q]);have e2:j<((a.map (·.id)).map (AV.int .i64)).length:=(by simpa using Q);rcases(t.o.app [.cells [.int .i64 k,dnA dn,dnA tn,v]]).node y.id with⟨f1,_⟩|⟨x',n,f1,_,_,f2,f3⟩
   .rw[s.o.ent C]at f1;cases f1
   rw[s.o.ent C]at f1;cases f1;unfold lz at f3;have G:=s.o.ok y C;have D:dn.length<=y.nm.length:=by have:=(cQ.1 V).2.2.length_le;rwa[bA,bA]at this
   have ai:=G.len;have an:=(t.o.app [.cells [.int .i64 k,dnA dn,dnA tn,v]]).n;obtain⟨yi,ab⟩:=aeS (y.id);obtain⟨yn,E⟩:=aeS (y.nm);rw[ab]at e1 f2 f3;rw[E]at f3 D ai G;obtain⟨q,hq⟩:=aeS (yn.length-dn.length);have w1:IntKind.i64.wrap ((yn.length:Int)-(dn.length:Int))=(q:Int):=(by rw[ae ah3 ah3];omega);have w2:(q:Int)<=(yn.length:Int):=ah3;have bd:aU .int (.int .i64 yi)=true:=rfl;obtain⟨Z,hZ⟩:=aeS (nR yn dn.length tn);have O:yn.take q++tn=Z:=(by rw[<- hZ,<- hq];rfl);have B:dnB Z:=by rw[<- O];refine⟨by simp;omega,λr hr=>?_⟩;rcases ae2.1 hr with hr|hr;exact G.m.b.2 r (ahd hr);exact U.2 r hr
   have kk7:Hid (∀{c:Option Nat}{L:List Blk}{K:aeX},K (dnA Z) L->aeW 50 [dnA tn,.sl (List.take q (yn.map aH)) q c] L K):=@hid _ (by intro c L K u;rw[<- aha];exact WL O (by rw[afZ];omega) rfl B.1 B.2 u)
   obtain⟨⟨zs,ze⟩,P⟩:∃u,prS Z=u:=⟨_,rfl⟩;have kk1:Hid (Ctr Tryz.prog 35 [dnA Z] (.tup [.str zs,.int .i64 ze])):=@hid _ (by intro L K u;exact yX B.1 B.2 (by rw[P];exact u));have pz:OkD Z↔ze=0:=(by unfold OkD;rw[P]);by_cases Y:ze=0
   .have hI':=hid (λi (hi:i<j+1)=>show OkD (nR (a.getD i default).nm dn.length tn)from by
     by_cases e:i=j
     .subst e;rw[T,E,hZ];exact pz.2 Y
     .exact hI.o i ah3)
    subst Y;clear hI T I C V G D ab E hq hZ O B P pz kk2 kk3 kk4 kk5 kk6;refine wk ?_;exact ah8 ah3 ah6 ⟨j+1,rfl,Q,hI',rfl,rfl⟩
   .have hbad:(a.any λy => !decide (OkD (nR y.nm dn.length tn)))=true:=agp.2 ⟨y,I,by rw[E,hZ,decide_eq_false (λc=>Y (pz.1 c))];rfl⟩;have H:=h.o;rw[if_pos hbad]at H;replace H:=hid H;clear hI T I C V G D ab E hq hZ O B P pz kk2 kk3 kk4 kk5 kk6 hbad;refine wk ?_;exact af rfl H.o
  .have hje:j=a.length:=ah3;subst hje;have g1:¬(a.length:Int)<(a.length:Int):=ah3;have F:¬(a.any λy => !decide (OkD (nR y.nm dn.length tn)))=true:=λc=>by obtain⟨y,T,hb⟩:=agp.1 c;obtain⟨i,hi,rfl⟩:=agZ.1 T;have:=hI.o i hi;rw[show a.getD i default=a[i]by simp[hi]]at this;rw[decide_eq_true this]at hb;cases hb
   have H:=h.o;rw[if_neg F]at H;replace H:=hid H;clear hI F;refine wk ?_;exact af rfl H.o
theorem G0{suf:List Rdn}{last:Int}{l:List aw}(w:TOk suf last l)(a1:l.length<=1100000){L:List Blk}{iv mn mi:Nat}{nb bn:Int->Nat}{ck ci:Nat}{rs:List TKy}(j:aR L iv mn mi nb bn ck ci rs suf last l){k:Int}{v:AV}(g:dnB dn)(ab:dnB tn){K:aeX}(h:K (.int .i64 (bI suf l k dn tn)) L):
  aeW 13 [.ptr iv 0,.agg [.int .i64 k,dnA dn,dnA tn,v]] L K:=by
 have i:=w.sok.m.b;have hv:=j.v;have hn:=j.n;have I:iv<L.length:=(aeY.1 hv).1;have P:mn<L.length:=(aeY.1 hn).1;have av:∀X:List Blk,(L++X)[iv]?=some (.cells [dnA suf,.lmap mn,.lmap mi,.int .i64 last]):=λX=>by rw[ae3 I];exact hv
 have an:∀X:List Blk,(L++X)[mn]?=some (.map (l.map (eY nb bn)) ck):=λX=>by rw[ae3 P];exact hn
 have a5:(l.map (eY nb bn)).length=l.length:=ae6 _;obtain⟨⟨ps,pe⟩,s⟩:∃q,prS dn=q:=⟨_,rfl⟩;have kk1:Hid (Ctr Tryz.prog 35 [dnA dn] (.tup [.str ps,.int .i64 pe])):=@hid _ (by intro L K q;exact yX g.1 g.2 (by rw[s];exact q));have kk2:Hid (∀{v:Nat}{L:List Blk}{K:aeX},K (.bool (MC dn suf)) L->aeW 36 [.ptr v 0,dnA dn,dnA suf] L K):=@hid _ (by intro v L K q;exact We g i q);have t:OkD dn↔pe=0:=by unfold OkD;rw[s]
 have kk3:Hid (∀{X:List Blk}{K:aeX},K (.int .i64 (aN l dn)) (L++X)->aeW 26 [.ptr iv 0,dnA dn] (L++X) K):=@hid _ (by intro X K q;exact mO g w (j.app X) q)
 obtain⟨z,p⟩:=aeS (aN l dn);have f:=w.find0 (d:=dn);rw[p]at f kk3;unfold bI at h;by_cases u:k<1\/4<k;rw[if_pos u]at h;have d1:¬k=1:=ah3;have d2:¬k=2:=ah3;have d3:¬k=3:=ah3;have d4:¬k=4:=ah3;replace h:=hid h;clear j s t g i f p;refine aeV aG ?_;exact af rfl h.o;rw[if_neg u]at h;by_cases V:k=1
 .subst V;rw[if_pos rfl]at h;by_cases Q:pe=0;rotate_left;rw[if_pos (λc=>Q (t.1 c))]at h;replace h:=hid h;clear j s t g i f p u;refine aeV aG ?_;exact af rfl h.o;have F:=t.2 Q;subst Q;rw[if_neg (λc=>c F)]at h;by_cases H:z=0;rotate_left;rw[if_pos (λc=>H (f.2 c))]at h;have a0:0<z:=by
   cases D:atE l dn with
   |none=>exact absurd (f.2 D) H
   | some y =>
     have:=(w.ids y (bi D).2.1).1;rw[<- p];unfold aN;rw[D];simp only;omega
  have a2:z>0:=a0;replace h:=hid h;clear j s t g i f p u;refine aeV aG ?_;exact af rfl h.o;subst H;rw[if_neg (λc=>c (f.1 rfl))]at h;have a4:=F.len;obtain⟨sm,Z⟩:=aeS (MC dn suf);rw[Z]at h kk2;have a:∀{h4:K (.int .i64 (if 4096<=l.length then 80 else 0)) L},(4096<=l.length/\K (.int .i64 80) L)\/(¬4096<=l.length/\K (.int .i64 0) L):=λ{h4}=>by by_cases c:4096<=l.length;rw[if_pos c]at h4;exact .inl ⟨c,h4⟩;rw[if_neg c]at h4;exact .inr ⟨c,h4⟩
  cases sm with
  | true =>
    rw[if_neg (λc=>by cases c.1)]at h;rcases a (h4:=h)with⟨c,h⟩|⟨c,h⟩
    .have c':(4096:Int)<=(l.length:Int):=ah3;have E:(l.length:Int)≥4096:=c';replace h:=hid h;clear a j s t g i f p u;refine aeV aG ?_;exact af rfl h.o
    .have c':¬(4096:Int)<=(l.length:Int):=ah3;have E:¬(l.length:Int)≥4096:=c';replace h:=hid h;clear a j s t g i f p u;refine aeV aG ?_;exact af rfl h.o
  | false =>
    by_cases U:dn=[]
    .rw[if_pos ⟨rfl,.inl U⟩]at h;subst U;replace h:=hid h;clear a j s t g i f p u;refine aeV aG ?_;exact af rfl h.o
    have a6:¬(dn.length:Int)=0:=λc=>U (afK.1 ah3)
    have a3:(1:Int)<=(dn.length:Int):=ah3;have ai:dn.tail.length=dn.length-1:=agA;have B:List.take (dn.length-1) (List.drop 1 (dn.map aH))=dn.tail.map aH:=(by rw[ag9,List.map_tail,afu ah4]);have kk4:Hid (∀{c:Option Nat}{X:List Blk}{K:aeX},K (.int .i64 (aN l dn.tail)) (L++X)->aeW 26 [.ptr iv 0,.sl (List.take (dn.length-1) (List.drop 1 (dn.map aH))) (dn.length-1) c] (L++X) K):=@hid _ (by intro c X K q;rw[B,<- ai];exact mO F.tail.m.b w (j.app X) q)
    have r:=w.find0 (d:=dn.tail);obtain⟨q,D⟩:=aeS (aN l dn.tail);rw[D]at r kk4;by_cases c4:q=0
    .rw[if_pos ⟨rfl,.inr (r.1 c4)⟩]at h;subst c4;replace h:=hid h;clear a j s t g i f p u B r D;refine aeV aG ?_;exact af rfl h.o
    rw[if_neg (λc=>c.2.elim U λc=>c4 (r.2 c))]at h;rcases a (h4:=h)with⟨c,h⟩|⟨c,h⟩
    .have c':(4096:Int)<=(l.length:Int):=ah3;have E:(l.length:Int)≥4096:=c';replace h:=hid h;clear a j s t g i f p u B r D;refine aeV aG ?_;exact af rfl h.o
    .have c':¬(4096:Int)<=(l.length:Int):=ah3;have E:¬(l.length:Int)≥4096:=c';replace h:=hid h;clear a j s t g i f p u B r D;refine aeV aG ?_;exact af rfl h.o
 rw[if_neg V]at h;have G:k=2\/k=3\/k=4:=ah3;cases hx:atE l dn with
 | none =>
   rw[hx]at h;simp only at h;have H:z=0:=f.2 hx;subst H;replace h:=hid h;clear j s t g i f p u V;rcases G with rfl|rfl|rfl
   all_goals
    refine aeV aG ?_;exact af rfl h.o
 | some x =>
   rw[hx]at h;simp only at h;obtain⟨hd,A,W⟩:=bi hx;have al:z=x.id:=(by rw[<- p];unfold aN;rw[hx]);have Y:=(w.ids x A).1;have kk5:Hid (∀{X:List Blk}{K:aeX},K (.int .i64 (Sr suf l x.id dn tn)) (L++X)->aeW 37 [.ptr iv 0,.int .i64 x.id,.agg [.int .i64 k,dnA dn,dnA tn,v]] (L++X) K):=@hid _ (by intro X K q;exact ac6 w a1 (j.app X) hx ab q)
   have ap:aU .int (.int .i64 x.id)=true:=rfl;rcases j.node x.id with⟨N,_⟩|⟨x',n,N,_,_,f2,T⟩
   .rw[w.ent A]at N;cases N
   rw[w.ent A]at N;cases N;unfold lz at T;have J:nb x.id<L.length:=(aeY.1 T).1;have ad:∀X:List Blk,(L++X)[nb x.id]?=some (.cells [dnA x.nm,.sl (ay (pth x)) x.nm.length none,atR x.av,.int .i64 (aO (cu l) (NK x.nm):Nat)]):=λX=>by rw[ae3 J];exact T
   subst al;obtain⟨xi,S⟩:=aeS (x.id);obtain⟨R,M⟩:=aeS (aO (cu l) (NK x.nm));rw[S]at kk3 kk5 ap f2 ad Y h;rw[M]at ad h;obtain⟨mv,O⟩:=aeS (Sr suf l xi dn tn);rw[O]at kk5 h;have g0:¬xi=0:=ah3;have C:(R≠0/\k=2/\K (.int .i64 66) L)\/(R=0/\k=2/\K (.int .i64 0) L)\/(k=3/\K (.int .i64 0) L)\/(k=4/\K (.int .i64 mv) L):=by
    rcases G with rfl|rfl|rfl
    .by_cases c:R=0
     .rw[if_pos rfl,if_neg (λe=>e c)]at h;exact .inr (.inl ⟨c,rfl,h⟩)
     .rw[if_pos rfl,if_pos c]at h;exact .inl ⟨c,rfl,h⟩
    .rw[if_neg (by decide),if_pos rfl]at h;exact .inr (.inr (.inl ⟨rfl,h⟩))
    .rw[if_neg (by decide),if_neg (by decide)]at h;exact .inr (.inr (.inr ⟨rfl,h⟩))
   clear h j s t g i f p u V G A W S M O hx T;rcases C with⟨c,rfl,h⟩|⟨c,rfl,h⟩|⟨rfl,h⟩|⟨rfl,h⟩
   .have Q:(0:Int)<(R:Int):=ah3;have H:(R:Int)>0:=Q;replace h:=hid h;refine aeV aG ?_;exact af rfl h.o
   .subst c;replace h:=hid h;refine aeV aG ?_
    all_goals exact af rfl h.o
   .replace h:=hid h;refine aeV aG ?_;exact af rfl h.o
   .replace h:=hid h;refine aeV aG ?_;exact af rfl h.o
section
variable {L:List Blk}{iv mn mi it:Nat}{nb bn:Int->Nat}{ck ci:Nat}{rs:List TKy}{suf:List Rdn}{last:Int}{l lk:List aw}{kd:Int->Int}
theorem be.kds(h:be L iv mn mi nb bn ck ci rs suf last l lk kd){a:Int->Int}(e:∀x∈l,a x.id=kd x.id):be L iv mn mi nb bn ck ci rs suf last l lk a :=
 ⟨h.v,h.n,h.i,λx b=>by rw[h.nd x b];unfold cz;rw[e x b],h.inj,h.keys,h.mem,h.bnd,h.blt⟩
theorem be.noIt(h:be L iv mn mi nb bn ck ci rs suf last l lk kd)(a:L[it]?=some (.cells [.ptr iv 0])):¬OfT iv mn mi nb l it:=by rintro(e|e|e|⟨x,b,e⟩);rw[e,h.v]at a;simp at a;rw[e,h.n]at a;simp at a;rw[e,h.i]at a;simp at a;rw[e,h.nd x b]at a;simp[cz]at a
theorem G3{d:List Rdn}{cap:Option Nat}{b:Int}(hd:dnB d)(k:d≠[])(o:TOk suf last lk)(a:∀x∈lk,∃y∈l,y.id=x.id)(m:∀x∈l,1<=x.id)(c:L[it]?=some (.cells [.ptr iv 0]))(f:be L iv mn mi nb bn ck ci rs suf last l lk kd)(n : -1<=b/\b<=1)(j:∀i,-10000000<=kd i/\kd i<=10000000){K:aeX}(h:∀L',be L' iv mn mi nb bn ck ci rs suf last l lk (λi=>if i=aN lk d.tail then kd i+b else kd i)->aL (OfT iv mn mi nb l) L L'->K (.tup []) L'):
  aeW 70 [.ptr it 0,.sl (d.map aH) d.length cap,.int .i64 b] L K:=by
 refine Zn hd k o a c f n j (λp=>?_) (λx g e=>?_);refine h L (f.kds λx g=>?_) (aL.refl L)
 grind
 refine h _ ?_ (aL.set L (.inr (.inr (.inr ⟨x,g,rfl⟩))) _);rw[<- e];exact f.kid g b
theorem aR.added(f:aR L iv mn mi nb bn ck ci rs suf last l)(H:TOk suf last l)(u:mn≠mi)(j:L[it]?=some (.cells [.ptr iv 0])){dn:List Rdn}(I:OkD dn)(J:∀x∈l,NK x.nm≠NK dn)(v:List Atr)(h a0 X:Blk)(A B:List Blk)(w:A=(L.set iv (.cells [dnA suf,.lmap mn,.lmap mi,.int .i64 (last+1)])).set mn (.map ((l.map (eY nb bn))++[(.int .i64 (last+1),.ptr (L.length+1) 0,ck)]) (ck+1)))(hB:B=((A++[h,a0]).set (L.length+1) (.cells [dnA dn,.sl (ay (NK dn).reverse) dn.length none,atR v,.int .i64 0])).set mi (.map ((rs++[(aP true dn,last+1,ci)]).map kyA) (ci+1))++[X]):
  be B iv mn mi (λi=>if i=last+1 then L.length+1 else nb i) (λi=>if i=last+1 then ck else bn i) (ck+1) (ci+1) (rs++[(aP true dn,last+1,ci)]) suf (last+1) (mM l last dn v) (mM l last dn v) (λi=>if i=last+1 then 0 else(jl l i:Nat))/\aL (OfT iv mn mi nb l) L B /\
  (A++[h,a0])[it]?=some (.cells [.ptr iv 0])/\(A++[h,a0])[iv]?=some (.cells [dnA suf,.lmap mn,.lmap mi,.int .i64 (last+1)])/\(A++[h,a0])[mn]?=some (.map ((l.map (eY nb bn))++[(.int .i64 (last+1),.ptr (L.length+1) 0,ck)]) (ck+1))/\(A++[h,a0])[mi]?=some (.map (rs.map kyA) ci)/\(A++[h,a0])[L.length+1]?=some a0 /\
  bH (.int .i64 (last+1)) ((l.map (eY nb bn))++[(.int .i64 (last+1),.ptr (L.length+1) 0,ck)]) 0=some (some (l.length,.ptr (L.length+1) 0))/\bH (.str (aP true dn)) (rs.map kyA) 0=some none/\bH (.int .i64 (last+1)) (l.map (eY nb bn)) 0=some none:=by
 have R:=f.toK H;have C:=(aeY.1 f.v).1;have G:=(aeY.1 f.n).1;have h3:=(aeY.1 f.i).1;have h4:=(aeY.1 j).1;have E:iv≠mn:=λe=>by have:=f.v;rw[e,f.n]at this;simp at this
 have s:iv≠mi:=λe=>by have:=f.v;rw[e,f.i]at this;simp at this
 have ad:A.length=L.length:=by rw[w];simp
 have U:∀i,i≠iv->i≠mn->A[i]?=L[i]?:=λi a b=>by rw[w,ae4 (Ne.symm b),ae4 (Ne.symm a)]
 have Q:A[iv]?=some (.cells [dnA suf,.lmap mn,.lmap mi,.int .i64 (last+1)]):=by rw[w,ae4 (Ne.symm E)];simp[C]
 have V:A[mn]?=some (.map ((l.map (eY nb bn))++[(.int .i64 (last+1),.ptr (L.length+1) 0,ck)]) (ck+1)):=by rw[w];simp[G]
 have K:∀i,i<L.length->(A++[h,a0])[i]?=A[i]?:=λi O=>ae3 ah3
 have F:∀i,i<L.length->i≠mi->B[i]?=A[i]?:=λi O hm=>by grind
 have z:B[mi]?=some (.map ((rs++[(aP true dn,last+1,ci)]).map kyA) (ci+1)):=by grind
 have N:B[L.length+1]?=some (.cells [dnA dn,.sl (ay (NK dn).reverse) dn.length none,atR v,.int .i64 0]):=by simp[*]
 have d:∀x∈l,x.id≠last+1:=λx c e=>by have:=(H.ids x c).2;omega
 have t:∀x∈l,nb x.id<L.length:=λx c=>(aeY.1 (f.nd x c)).1
 have T:∀x∈l,aP true x.nm≠aP true dn:=λx c e=>J x c ((mP (H.ok x c) I).1 e)
 have ab:∀r∈rs,r.1≠aP true dn:=λr hr e=>by obtain⟨x,c,S,_⟩:=(f.mem r.1 r.2.1).1 ⟨r.2.2,hr⟩;simp_all
 have o:(mM l last dn v).map (eY (λi=>if i=last+1 then L.length+1 else nb i) (λi=>if i=last+1 then ck else bn i))=l.map (eY nb bn)++[(.int .i64 (last+1),.ptr (L.length+1) 0,ck)]:=by
  unfold mM;rw[afk];congr 1;refine afN λx c=>?_
  simp only[eY,if_neg (d x c)];simp[eY]
 refine⟨⟨by rw[F iv C s];exact Q,by rw[F mn G u,V,o],z,λx c=>?_,λx c y q e=>?_,?_,λk id=>?_,?_,λx c=>?_⟩,⟨by rw[hB];simp;omega,λi O D=>?_⟩,?_,by rw[K iv C];exact Q,by rw[K mn G];exact V,by rw[K mi h3,U mi (Ne.symm s) (Ne.symm u)];exact f.i,?_,?_,?_,?_⟩;rcases ae2.1 c with c|c;have p:=R.nd x c;have M:=d x c;have m1:nb x.id≠iv:=λe=>by rw[e,f.v]at p;simp[cz]at p
 have m2:nb x.id≠mn:=λe=>by rw[e,f.n]at p;simp at p
 have Y:nb x.id≠mi:=λe=>by rw[e,f.i]at p;simp at p
 simp only[if_neg M];rw[F _ (t x c) Y,U _ m1 m2,p];unfold cz;simp[*];rw[afl.1 c];simp only[if_true];rw[N];simp only[cz,pth,if_true];rcases ae2.1 c with c|c<;>rcases ae2.1 q with q|q;simp only[if_neg (d x c),if_neg (d y q)]at e;exact R.inj x c y q e
 grind
 grind
 simp_all;rw[afk,agq];refine⟨f.keys,ah4,λa P b m e=>?_⟩
 grind
 constructor;rintro⟨b,m⟩;rcases ae2.1 m with m|m;obtain⟨x,c,e⟩:=(f.mem k id).1 ⟨b,m⟩;exact⟨x,af9 _ c,e⟩;simp only[afl,afb]at m;exact⟨_,agx _ (afl.2 rfl),m.1.symm,m.2.1.symm⟩;rintro⟨x,c,S,e2⟩;rcases ae2.1 c with c|c;obtain⟨b,m⟩:=(f.mem k id).2 ⟨x,c,S,e2⟩
 grind
 simp_all;unfold mM;rw[afk,agq];refine⟨?_,ah4,λa P b m e=>?_⟩;rw[afN (g:=λx=>bn x.id) λx c=>by simp only[if_neg (d x c)]];exact f.bnd;obtain⟨x,c,rfl⟩:=ae1.1 P;simp only[afe,afQ,afl,if_true]at m;simp only[if_neg (d x c)]at e;have:=f.blt x c;omega;rcases ae2.1 c with c|c;simp only[if_neg (d x c)];have:=f.blt x c;omega;simp_all;have W:i≠iv:=λe=>D (.inl e)
 have Z:i≠mn:=λe=>D (.inr (.inl e))
 have b3:i≠mi:=λe=>D (.inr (.inr (.inl e)))
 grind
 have W:it≠iv:=λe=>by rw[e,f.v]at j;simp at j
 have Z:it≠mn:=λe=>by rw[e,f.n]at j;simp at j
 grind
 simp[*];rw[<- o,yD];have:(mM l last dn v).findIdx? (λx=>decide (x.id=last+1))=some l.length:=by
  unfold mM
  grind
 simp[*];rw[yG]
 grind
 rw[yD];simp_all
end
set_option maxHeartbeats 8000000
set_option maxRecDepth 100000
section
variable {L:List Blk}{iv mn mi it:Nat}{nb bn:Int->Nat}{ck ci:Nat}{rs:List TKy}{suf:List Rdn}{last:Int}{l:List aw}
theorem aeq(r:TOk suf last l)(a0:mn≠mi)(bk:l.length<=1000000)(ad:0<=last)(a':last<=1000000)(m:L[it]?=some (.cells [.ptr iv 0]))(z:aR L iv mn mi nb bn ck ci rs suf last l){dn tn:List Rdn}{v:List Atr}(Q:dnB dn)(ai:dnB tn)(al:v.length<=1100000)(ab:∀a∈v,a.2.length<=1100000)(ha:bI suf l 1 dn tn=0){K:aeX}(h:∀L' k F C D E,aR L' iv mn mi k F C D E suf (last+1) (mM l last dn v)->L'[it]?=some (.cells [.ptr iv 0])->aL (OfT iv mn mi nb l) L L'->(∀x∈mM l last dn v,(∃y∈l,y.id=x.id/\k x.id=nb x.id)\/L.length<=k x.id)->K (.int .i64 0) L'):
  aeW 31 [.ptr it 0,.agg [.int .i64 1,dnA dn,dnA tn,atR v]] L K:=by
 obtain⟨s,_⟩:=r.canA ha;have O:=s.ok;have an:aN l dn=0:=r.find0.2 (yS.2 λ_ x f=>s.no x f);have J:=z.v;have M:=z.n;have p:iv<L.length:=(aeY.1 J).1;have H:mn<L.length:=(aeY.1 M).1;have G:it<L.length:=(aeY.1 m).1;have Y:iv≠mn:=λe=>by have:=z.v;rw[e,z.n]at this;simp at this
 have Z:iv≠it:=λe=>by have:=z.v;rw[e,m]at this;simp at this
 have av:∀X:List Blk,(L++X)[iv]?=some (.cells [dnA suf,.lmap mn,.lmap mi,.int .i64 last]):=λX=>by rw[ae3 p];exact J
 have a6:∀X:List Blk,(L++X)[it]?=some (.cells [.ptr iv 0]):=λX=>by rw[ae3 G];exact m
 have sv:∀(X:List Blk) b,(L++X).set iv b=L.set iv b++X:=λX b=>agP _ _ p
 have a_:∀(X:List Blk) b,(L.set iv b++X)[iv]?=some b:=λX b=>by rw[ae3 (by simpa using p)];simp[p]
 have a5:∀(X:List Blk) b,(L.set iv b++X)[it]?=some (.cells [.ptr iv 0]):=λX b=>by rw[ae3 (by simpa using G),ae4 Z];exact m
 have a9:∀(X:List Blk) b,(L.set iv b++X)[mn]?=some (.map (l.map (eY nb bn)) ck):=λX b=>by rw[ae3 (by simpa using H),ae4 Y];exact M
 have bd:∀(X:List Blk) b c,(L.set iv b++X).set mn c=(L.set iv b).set mn c++X:=λX b c=>agP _ _ (by simpa using H)
 have a3:∀(X:List Blk) (b c:Blk),(L.set iv b++c::X)[L.length]?=some c:=λX b c=>by rw[aff ah4];simp
 have a8:∀(X:List Blk) (b c d:Blk),((L.set iv b).set mn d++c::X)[L.length]?=some c:=λX b c d=>by rw[aff ah4];simp
 have kk1:Hid (∀{X:List Blk}{K:aeX},K (.int .i64 0) (L++X)->aeW 13 [.ptr iv 0,.agg [.int .i64 1,dnA dn,dnA tn,atR v]] (L++X) K):=@hid _ (by intro X K q;exact G0 r ah3 (z.app X) Q ai (by rw[ha];exact q))
 have kk2:Hid (∀{X:List Blk}{K:aeX},K (.int .i64 0) (L++X)->aeW 26 [.ptr iv 0,dnA dn] (L++X) K):=@hid _ (by intro X K q;exact mO Q r (z.app X) (by rw[an];exact q))
 have kk3:Hid (Ctr Tryz.prog 68 [atR v] (atR v)):=@hid _ (by intro L K q;exact O9 al ab q);have w1:IntKind.i64.wrap (last+1)=last+1:=ae ah3 ah3;have bb:aU .int (.int .i64 (last+1))=true:=rfl;have a7:∀b,(L.set iv b).length=L.length:=λb=>List.length_set
 obtain⟨j,R⟩:∃j:Blk,j=.cells [.int .i64 1,dnA dn,dnA tn,atR v]:=⟨_,rfl⟩;obtain⟨A,hA⟩:=aeS ((L.set iv (.cells [dnA suf,.lmap mn,.lmap mi,.int .i64 (last+1)])).set mn (.map ((l.map (eY nb bn))++[(.int .i64 (last+1),.ptr (L.length+1) 0,ck)]) (ck+1)));obtain⟨B,W⟩:=aeS (((A++[j,.cells [.sl [] 0 (some 0),.sl [] 0 (some 0),atR v,.int .i64 0]]).set (L.length+1) (.cells [dnA dn,.sl (ay (NK dn).reverse) dn.length none,atR v,.int .i64 0])).set mi (.map ((rs++[(aP true dn,last+1,ci)]).map kyA) (ci+1))++[.cells [.sl (ay (NK dn).reverse) dn.length none]]);have P:A.length=L.length:=by rw[<- hA];simp
 have a2:mi<L.length:=(aeY.1 z.i).1;obtain⟨t,w,p1,p2,p3,p4,p5,p6,p7,p8⟩:=z.added r a0 m O s.no v j (.cells [.sl [] 0 (some 0),.sl [] 0 (some 0),atR v,.int .i64 0]) (.cells [.sl (ay (NK dn).reverse) dn.length none]) A B hA.symm W.symm;have pb:B[L.length]?=some j:=by rw[<- W,ae3 (by simp;omega),ae4 ah3,ae4 ah3,aff ah3,P];simp
 have a4:(A++[j,.cells [.sl [] 0 (some 0),.sl [] 0 (some 0),atR v,.int .i64 0]])[L.length]?=some j:=by rw[aff ah3,P];simp
 have u:B[it]?=some (.cells [.ptr iv 0]):=w.get m ((z.toK r).noIt m);obtain⟨g,U,N⟩:=r.add ad s v;have kk4:Hid (∀{K:aeX},K (.tup []) B->aeW 69 [.ptr it 0,.int .i64 (last+1),dnA dn] (A++[j,.cells [.sl [] 0 (some 0),.sl [] 0 (some 0),atR v,.int .i64 0]]) K):=@hid _ (by intro K q;refine YS O p1 p2 p3 p6 p5 p4 p7 ?_;rw[W];exact q)
 have kk5:Hid (∀{K:aeX},(∀L' k F C D E,aR L' iv mn mi k F C D E suf (last+1) (mM l last dn v)->L'[it]?=some (.cells [.ptr iv 0])->aL (OfT iv mn mi nb l) L L'->(∀x∈mM l last dn v,(∃y∈l,y.id=x.id/\k x.id=nb x.id)\/L.length<=k x.id)->K (.tup []) L')->aeW 70 [.ptr it 0,dnA dn,.int .i64 1] B K):=@hid _ (by
  intro K q;have a1:dn≠[]:=λe=>by rcases s.par with S|⟨x,f,S⟩;exact r.inv.sne (by rw[<- S,e];rfl);exact r.inv.ne (cH f) (by rw[S,e];rfl)
  have ap:∀i,(jl l i:Int)<=l.length:=λi=>by
   unfold jl aO;cases Ef l i with
   |none=>simp
   |some x=>simp only;exact Int.ofNat_le.2 (afw (ahb _ _) (by simp[cu]))
  refine G3 Q a1 g (λx f=>⟨x,f,rfl⟩) (λx f=>(g.ids x f).1) u t ah3 (λi=>?_) λL' hK hb=>?_
  split;omega;have:=ap i;omega;refine q L' _ _ _ _ _ (hK.toT λx f=>?_) (hb.get u (t.noIt u)) (w.trans2 hb λi hi=>?_) (λx f=>?_);rw[N (NK x.nm)];have I:(x.id=aN (mM l last dn v) dn.tail)↔(NK dn).tail=NK x.nm:=by
   rw[<- Mu];constructor;intro e;unfold aN at e;cases hq:atE (mM l last dn v) dn.tail with
   |none=>rw[hq]at e;have:=(g.ids x f).1;simp only at e;omega
   | some y =>
     rw[hq]at e;obtain⟨_,hy,S⟩:=bi hq;rw[g.byI f hy e,S]
   intro e;unfold aN;rw[g.at f O.tail e]
  have T:(if x.id=last+1 then(0:Int)else(jl l x.id:Nat))=(aO (cu l) (NK x.nm):Nat):=by rcases ae2.1 f with f|f;rw[if_neg (by have:=(r.ids x f).2;omega),r.kidsE f];rw[afl.1 f,if_pos rfl];have:=N (NK dn);rw[U]at this;simp only;omega
  by_cases V:(NK dn).tail=NK x.nm;rw[if_pos V,if_pos (I.2 V),T];simp;rw[if_neg V,if_neg (λe=>V (I.1 e)),T];simp;rintro(e|e|e|⟨x,f,e⟩);exact .inl e;exact .inr (.inl e);exact .inr (.inr (.inl e));rcases ae2.1 f with f|f;exact .inr (.inr (.inr ⟨x,f,by rw[e];exact if_neg (by have:=(r.ids x f).2;omega)⟩));rw[afl.1 f]at e;simp only[if_true]at e;omega;rcases ae2.1 f with f|f;exact .inl ⟨x,f,rfl,if_neg (by have:=(r.ids x f).2;omega)⟩;refine .inr ?_;rw[afl.1 f];simp only[if_true];omega)
 replace h:=hid h;clear W t w p6 p7 g U N s J M m P;subst R;refine aeV eD ?_;simp only[afg,afF,Nat.reduceAdd,ahj,ahi,afI,afH];refine aib ?_;intro L' k F C D E q1 q2 q3 q4;replace q1:=hid q1;replace q2:=hid q2;replace q3:=hid q3;replace q4:=hid q4;refine wk ?_;exact ag (h.o L' _ _ _ _ _ q1.o q2.o q3.o q4.o)
end
set_option maxHeartbeats 8000000
set_option maxRecDepth 100000
theorem ML{β γ:Type}(f:β->γ):∀(l:List β) (n:Nat),(l.eraseIdx n).map f=(l.map f).eraseIdx n
 |[],_=>rfl
 |x::l,0=>rfl
 |x::l,n+1=>by simp only[ahn,afe,ML f l n]
theorem ol{β γ:Type}[DecidableEq γ](f:β->γ):∀(l:List β) (k:γ),(l.map f).Nodup->∀n,l.findIdx? (λx=>decide (f x=k))=some n->l.eraseIdx n=l.filter λx=>decide (f x≠k)
 |[],k,_,n,h=>by simp at h
 | x::l,k,hn,n,h=>by
   rw[afe,afY]at hn;rw[agt]at h;by_cases c:f x=k
   .rw[decide_eq_true c]at h;simp only[if_true,aeZ]at h;subst h;rw[List.filter_cons_of_neg (by simpa using c)];exact(ahQ.2 λy a=>by simp only[ne_eq,decide_eq_true_eq];intro e;exact hn.1 (ae1.2 ⟨y,a,by rw[e,c]⟩)).symm
   .rw[decide_eq_false c]at h;simp only[afm,if_false,afr]at h;obtain⟨m,b,rfl⟩:=h;rw[List.filter_cons_of_pos (by simpa using c),ahn,ol f l k hn.2 m b]
section
variable {L:List Blk}{iv mn mi it:Nat}{nb bn:Int->Nat}{ck ci:Nat}{rs:List TKy}{suf:List Rdn}{last:Int}{l lk:List aw}{kd:Int->Int}
theorem be.nemi(h:be L iv mn mi nb bn ck ci rs suf last l lk kd):iv≠mi:=λe=>by have:=h.v;rw[e,h.i]at this;simp at this
theorem be.nemn(h:be L iv mn mi nb bn ck ci rs suf last l lk kd):iv≠mn:=λe=>by have:=h.v;rw[e,h.n]at this;simp at this
theorem be.nenb(h:be L iv mn mi nb bn ck ci rs suf last l lk kd){x:aw}(b:x∈l):nb x.id≠iv/\nb x.id≠mn/\nb x.id≠mi:=by have a:=h.nd x b;exact⟨λe=>by rw[e,h.v]at a;simp[cz]at a,λe=>by rw[e,h.n]at a;simp at a,λe=>by rw[e,h.i]at a;simp at a⟩
theorem be.delk(h:be L iv mn mi nb bn ck ci rs suf last l lk kd)(t:mn≠mi){y:aw}(F:y∈lk)(H:∀x∈lk,aP true x.nm=aP true y.nm↔x.id=y.id):
  ∃j,bH (.str (aP true y.nm)) (rs.map kyA) 0=some (some (j,.int .i64 y.id))/\be (L.set mi (.map ((rs.map kyA).eraseIdx j) ci)) iv mn mi nb bn ck ci (rs.eraseIdx j) suf last l (MZ lk y.id) kd:=by
 obtain⟨b,A⟩:=(h.mem (aP true y.nm) y.id).2 ⟨y,F,rfl,rfl⟩;rw[yG];rcases iQ (f:=λr:TKy=>decide (r.1=aP true y.nm)) (l:=rs)with⟨p,g⟩|⟨n,p,G,g⟩
 grind
 have E:=agr g;have w:=ags g;simp only[decide_eq_true_eq]at w;have D:rs.getD n default=(aP true y.nm,y.id,b):=bR h.keys E A w;have m:=(aeY.1 h.i).1;have s:=ol (λr:TKy=>r.1) rs (aP true y.nm) h.keys n p;refine⟨n,by rw[p];simp only[afi,D,agm],?_⟩;have d:∀r:TKy,r∈rs.eraseIdx n↔r∈rs/\r.1≠aP true y.nm:=λr=>by rw[s,afB];simp
 refine⟨by rw[ae4 (Ne.symm h.nemi)];exact h.v,by rw[ae4 (Ne.symm t)];exact h.n,by rw[afy m,ML],λx a=>by rw[ae4 (Ne.symm (h.nenb a).2.2)];exact h.nd x a,h.inj,(List.Sublist.map _ (ahT ..)).nodup h.keys,λk id=>?_,h.bnd,h.blt⟩;constructor;rintro⟨c,z⟩;obtain⟨u,B⟩:=(d _).1 z;obtain⟨x,a,e,o⟩:=(h.mem k id).1 ⟨c,u⟩;refine⟨x,afB.2 ⟨a,?_⟩,e,o⟩
 grind
 rintro⟨x,a,e,o⟩;obtain⟨q,C⟩:=afB.1 a;obtain⟨c,z⟩:=(h.mem k id).2 ⟨x,q,e,o⟩
 grind
theorem be.deln(h:be L iv mn mi nb bn ck ci rs suf last l lk kd)(b:mn≠mi)(g:(l.map (·.id)).Nodup){y:aw}(o:y∈l):
  ∃j v,bH (.int .i64 y.id) (l.map (eY nb bn)) 0=some (some (j,v))/\be (L.set mn (.map ((l.map (eY nb bn)).eraseIdx j) ck)) iv mn mi nb bn ck ci rs suf last (MZ l y.id) lk kd:=by
 rw[yD];rcases iQ (f:=λx:aw=>decide (x.id=y.id)) (l:=l)with⟨e,k⟩|⟨n,e,p,k⟩
 grind
 have d:=(aeY.1 h.n).1;have c:=ol (λx:aw=>x.id) l y.id g n e;have sub:∀x∈MZ l y.id,x∈l:=λx a=>(afB.1 a).1
 refine⟨n,_,by rw[e];simp;rfl,?_⟩;refine⟨by rw[ae4 (Ne.symm h.nemn)];exact h.v,by rw[afy d,<- ML,c];rfl,by rw[ae4 b];exact h.i,λx a=>by rw[ae4 (Ne.symm (h.nenb (sub x a)).2.1)];exact h.nd x (sub x a),λx a z m=>h.inj x (sub x a) z (sub z m),h.keys,h.mem,?_,λx a=>h.blt x (sub x a)⟩;exact(List.Sublist.map _ List.filter_sublist).nodup h.bnd
theorem be.cha(h:be L iv mn mi nb bn ck ci rs suf last l lk kd){y:aw}(q:y∈l)(v:List Atr):
  be (L.set (nb y.id) (.cells [dnA y.nm,.sl (ay (pth y)) y.nm.length none,atR v,.int .i64 (kd y.id)])) iv mn mi nb bn ck ci rs suf last (sP l y.id v) (sP lk y.id v) kd:=by
 have t:=h.nd y q;have H:=(aeY.1 t).1;obtain⟨w,C,n3⟩:=h.nenb q;have f:(sP l y.id v).map (eY nb bn)=l.map (eY nb bn):=by
  unfold sP;rw[afj];refine afN λx _=>?_
  simp only[agz];split<;>rfl
 have s:(sP l y.id v).map (λx=>bn x.id)=l.map (λx=>bn x.id):=by
  unfold sP;rw[afj];refine afN λx _=>?_
  grind
 have back:∀{m:List aw} {x},x∈sP m y.id v->∃z∈m,z.id=x.id/\z.nm=x.nm/\(z.id=y.id->x.av=v)/\(z.id≠y.id->x=z):=λ{m x} d=>by
  obtain⟨z,c,rfl⟩:=ae1.1 d
  grind
 have r:∀{m:List aw} {z},z∈m->∃x∈sP m y.id v,x.id=z.id/\x.nm=z.nm:=λ{m z} c=>by refine⟨_,ae1.2 ⟨z,c,rfl⟩,?_,?_⟩<;>split<;>rfl
 refine⟨by rw[ae4 w];exact h.v,by rw[ae4 C,f];exact h.n,by rw[ae4 n3];exact h.i,λx d=>?_,λx d z c e=>?_,h.keys,λk id=>?_,by rw[s];exact h.bnd,λx d=>?_⟩;obtain⟨z,c,g,j,F,A⟩:=back d;by_cases e:nb y.id=nb z.id;have E:=h.inj y q z c e;have p:cz kd y=cz kd z:=by have I:=h.nd z c;simp_all
 unfold cz at p⊢;have G:pth x=pth z:=by unfold pth;rw[j]
 simp_all;have o:z.id≠y.id:=λD=>e (by rw[D])
 rw[A o,ae4 e];exact h.nd z c;obtain⟨a,B,g,_⟩:=back d;obtain⟨b,u,j,_⟩:=back c;rw[<- g,<- j]at e⊢;exact h.inj a B b u e;rw[h.mem k id]
 grind
 obtain⟨z,c,g,_⟩:=back d;rw[<- g];exact h.blt z c
def nmT(l:List aw)(id:Int)(d:List Rdn):List aw:=l.map λx=>if x.id=id then{x with nm:=d}else x
theorem be.ren(h:be L iv mn mi nb bn ck ci rs suf last l lk kd)(A:mn≠mi){y:aw}(q:y∈l){d:List Rdn}(J:∀x∈lk,aP true x.nm≠aP true d)(X:List Blk):
  bH (.str (aP true d)) (rs.map kyA) 0=some none /\
  be ((L.set (nb y.id) (.cells [dnA d,.sl (ay (NK d).reverse) d.length none,atR y.av,.int .i64 (kd y.id)])).set mi (.map ((rs++[(aP true d,y.id,ci)]).map kyA) (ci+1))++X) iv mn mi nb bn ck (ci+1) (rs++[(aP true d,y.id,ci)]) suf last (nmT l y.id d) (lk++[{y with nm:=d}]) kd:=by
 have t:∀r∈rs,r.1≠aP true d:=λr hr e=>by obtain⟨x,c,j,_⟩:=(h.mem r.1 r.2.1).1 ⟨r.2.2,hr⟩;simp_all
 refine⟨by rw[yG,ahU.2 λr hr=>by simpa using t r hr];rfl,be.app ?_ X⟩;have s:=h.nd y q;have M:=(aeY.1 s).1;have p:=(aeY.1 h.i).1;obtain⟨I,E,n3⟩:=h.nenb q;have m:(nmT l y.id d).map (eY nb bn)=l.map (eY nb bn):=by
  unfold nmT;rw[afj];refine afN λx _=>?_
  simp only[agz];split<;>rfl
 have w:(nmT l y.id d).map (λx=>bn x.id)=l.map (λx=>bn x.id):=by
  unfold nmT;rw[afj];refine afN λx _=>?_
  grind
 have back:∀{x},x∈nmT l y.id d->∃z∈l,z.id=x.id/\z.av=x.av/\(z.id=y.id->x.nm=d)/\(z.id≠y.id->x=z):=λ{x} c=>by
  obtain⟨z,f,rfl⟩:=ae1.1 c
  grind
 refine⟨by rw[ae4 (Ne.symm h.nemi),ae4 I];exact h.v,by rw[ae4 (Ne.symm A),ae4 E,m];exact h.n,by rw[afy (by simpa using p)],λx c=>?_,λx c z f e=>?_,?_,λk id=>?_,by rw[w];exact h.bnd,λx c=>?_⟩;obtain⟨z,f,j,o,G,F⟩:=back c;rw[<- j,ae4 (Ne.symm (h.nenb f).2.2)];by_cases e:nb y.id=nb z.id;have D:=h.inj y q z f e;have u:cz kd y=cz kd z:=by have N:=h.nd z f;simp_all
 unfold cz at u⊢;have K:pth x=(NK d).reverse:=by unfold pth;rw[G D.symm]
 simp_all;have B:z.id≠y.id:=λH=>e (by rw[H])
 rw[F B,ae4 e];exact h.nd z f;obtain⟨a,C,j,_⟩:=back c;obtain⟨b,g,o,_⟩:=back f;rw[<- j,<- o]at e⊢;exact h.inj a C b g e;rw[afk,agq];refine⟨h.keys,ah4,λa C b g e=>?_⟩
 grind
 constructor;rintro⟨b,g⟩;rcases ae2.1 g with g|g;obtain⟨x,c,e⟩:=(h.mem k id).1 ⟨b,g⟩
 grind
 simp_all;rintro⟨x,c,j,o⟩;rcases ae2.1 c with c|c;obtain⟨b,g⟩:=(h.mem k id).2 ⟨x,c,j,o⟩
 grind
 simp_all;obtain⟨z,f,j,_⟩:=back c;rw[<- j];exact h.blt z f
end
set_option maxHeartbeats 8000000
set_option maxRecDepth 100000
theorem Xe{a b:List Rdn}(h:NK a=NK b):aP true a=aP true b:=by unfold aP;unfold NK at h;rw[h]
theorem P6(l:List aw)(i:Int):(jl l i:Int)<=l.length:=by
 unfold jl aO;cases Ef l i with
 |none=>simp
 |some x=>simp only;exact Int.ofNat_le.2 (afw (ahb _ _) (by simp[cu]))
theorem TOk.parI{suf:List Rdn}{last:Int}{l:List aw}(h:TOk suf last l)(a:x∈l){d:List Rdn}(hd:OkD d):x.id=aN l d.tail↔(NK d).tail=NK x.nm:=by
 rw[<- Mu];constructor;intro e;unfold aN at e;cases hq:atE l d.tail with
 |none=>rw[hq]at e;have:=(h.ids x a).1;simp only at e;omega
 | some y =>
   rw[hq]at e;obtain⟨_,b,c⟩:=bi hq;rw[h.byI a b e,c]
 intro e;unfold aN;rw[h.at a hd.tail e]
section
variable {L:List Blk}{iv mn mi it:Nat}{nb bn:Int->Nat}{ck ci:Nat}{rs:List TKy}{suf:List Rdn}{last:Int}{l:List aw}
theorem aeo(m:TOk suf last l)(Q:mn≠mi)(bb:l.length<=1000000)(k:L[it]?=some (.cells [.ptr iv 0]))(G:aR L iv mn mi nb bn ck ci rs suf last l){dn tn:List Rdn}{v:AV}(r:dnB dn)(ap:dnB tn){x:aw}(hx:atE l dn=some x)(O:bI suf l 2 dn tn=0){K:aeX}(h:∀L' u w,aR L' iv mn mi nb bn ck u w suf last (MZ l x.id)->L'[it]?=some (.cells [.ptr iv 0])->aL (OfT iv mn mi nb l) L L'->K (.int .i64 0) L'):
  aeW 31 [.ptr it 0,.agg [.int .i64 2,dnA dn,dnA tn,v]] L K:=by
 obtain⟨N,a,F⟩:=bi hx;have ad:aO (cu l) (NK x.nm)=0:=by unfold bI at O;rw[if_neg (by decide),if_neg (by decide),hx]at O;simp only[if_true]at O;by_cases c:aO (cu l) (NK x.nm)=0;exact c;rw[if_pos c]at O;exact absurd O (by decide)
 obtain⟨y,Z⟩:=m.del a ad;have U:aN l dn=x.id:=by unfold aN;rw[hx]
 have hK:=G.toK m;have T:aP true dn=aP true x.nm:=Xe F.symm;have hu:∀z∈l,aP true z.nm=aP true x.nm↔z.id=x.id:=λz s=>⟨λe=>by rw[m.byN s a ((mP (m.ok z s) (m.ok x a)).1 e)],λe=>by rw[m.byI s a e]⟩
 obtain⟨j1,f,S⟩:=hK.delk Q a hu;obtain⟨j2,v2,a1,R⟩:=S.deln Q (by have hn:=m.inv.ids;unfold cu at hn;rw[afj]at hn;exact hn) a
 have t:=G.v;have I:=G.n;have J:=G.i;have B:iv<L.length:=(aeY.1 t).1;have D:mn<L.length:=(aeY.1 I).1;have C:mi<L.length:=(aeY.1 J).1;have p:it<L.length:=(aeY.1 k).1;have M:=hK.noIt k;have n1:mi≠it:=λe=>M (.inr (.inr (.inl e.symm)))
 have n2:mn≠it:=λe=>M (.inr (.inl e.symm))
 have n3:=hK.nemi;have n4:=hK.nemn;have av:∀X:List Blk,(L++X)[iv]?=some (.cells [dnA suf,.lmap mn,.lmap mi,.int .i64 last]):=λX=>by rw[ae3 B];exact t
 have a6:∀X:List Blk,(L++X)[it]?=some (.cells [.ptr iv 0]):=λX=>by rw[ae3 p];exact k
 have ai:∀X:List Blk,(L++X)[mi]?=some (.map (rs.map kyA) ci):=λX=>by rw[ae3 C];exact J
 have si:∀(X:List Blk) b,(L++X).set mi b=L.set mi b++X:=λX b=>agP _ _ C
 have a':∀(X:List Blk) b,(L.set mi b++X)[iv]?=some (.cells [dnA suf,.lmap mn,.lmap mi,.int .i64 last]):=λX b=>by rw[ae3 (by simpa using B),ae4 (Ne.symm n3)];exact t
 have a5:∀(X:List Blk) b,(L.set mi b++X)[it]?=some (.cells [.ptr iv 0]):=λX b=>by rw[ae3 (by simpa using p),ae4 n1];exact k
 have a9:∀(X:List Blk) b,(L.set mi b++X)[mn]?=some (.map (l.map (eY nb bn)) ck):=λX b=>by rw[ae3 (by simpa using D),ae4 (Ne.symm Q)];exact I
 have a_:∀(X:List Blk) b c,(L.set mi b++X).set mn c=(L.set mi b).set mn c++X:=λX b c=>agP _ _ (by simpa using D)
 have a8:∀(X:List Blk) (b c d:Blk),((L.set mi b).set mn d++c::X)[L.length]?=some c:=λX b c d=>by rw[aff ah4];simp
 have kk1:Hid (∀{X:List Blk}{K:aeX},K (.int .i64 0) (L++X)->aeW 13 [.ptr iv 0,.agg [.int .i64 2,dnA dn,dnA tn,v]] (L++X) K):=@hid _ (by intro X K q;exact G0 m ah3 (G.app X) r ap (by rw[O];exact q))
 have kk2:Hid (∀{X:List Blk}{K:aeX},K (.int .i64 x.id) (L++X)->aeW 26 [.ptr iv 0,dnA dn] (L++X) K):=@hid _ (by intro X K q;exact mO r m (G.app X) (by rw[U];exact q))
 have kk3:Hid (Ctr Tryz.prog 61 [dnA dn] (.tup [.str (aP true dn),.int .i64 0])):=@hid _ (by intro L K q;exact MI r.1 r.2 (by rw[qL N];exact q))
 obtain⟨j,W⟩:∃j:Blk,j=.cells [.int .i64 2,dnA dn,dnA tn,v]:=⟨_,rfl⟩;obtain⟨A,hA⟩:=aeS ((L.set mi (.map ((rs.map kyA).eraseIdx j1) ci)).set mn (.map ((l.map (eY nb bn)).eraseIdx j2) ck));rw[hA]at R;have a2:A.length=L.length:=by rw[<- hA];simp
 have a7:∀(X:List Blk) (c:Blk),(A++c::X)[L.length]?=some c:=λX c=>by rw[aff ah3,a2];simp
 have H:aL (OfT iv mn mi nb l) L A:=by rw[<- hA];exact(aL.set L (.inr (.inr (.inl rfl))) _).trans (aL.set _ (.inr (.inl rfl)) _)
 have P:=R.app [j];have g:(A++[j])[it]?=some (.cells [.ptr iv 0]):=by have a0:it<A.length:=(by rw[<- hA];simpa using p);rw[ae3 a0];exact H.get k M
 have kk4:Hid (∀{K:aeX},(∀L' u w,aR L' iv mn mi nb bn ck u w suf last (MZ l x.id)->L'[it]?=some (.cells [.ptr iv 0])->aL (OfT iv mn mi nb l) L L'->K (.tup []) L')->aeW 70 [.ptr it 0,dnA dn,.int .i64 (-1)] (A++[j]) K):=@hid _ (by
  intro K q;have a4:dn≠[]:=λe=>m.inv.ne (cH a) (by rw[F,e];rfl)
  refine G3 r a4 y (λx hx=>⟨x,hx,rfl⟩) (λz s=>(y.ids z s).1) g P ah3 (λi=>by have:=P6 l i;omega) λL' an hb=>?_
  refine q L' _ _ (an.toT λz s=>?_) (hb.get g (P.noIt g)) (((H.trans (aL.app A [j])).trans2 hb λi hi=>?_));have al:z∈l:=(afB.1 s).1;have h1:=Z (NK z.nm);rw[<- m.kidsE al,F]at h1;have E:=y.parI s N;by_cases hp:(NK dn).tail=NK z.nm;rw[if_pos hp]at h1;rw[if_pos (E.2 hp)];omega;rw[if_neg hp]at h1;rw[if_neg (λe=>hp (E.1 e))];omega;rintro(e|e|e|⟨z,s,e⟩);exact .inl e;exact .inr (.inl e);exact .inr (.inr (.inl e));exact .inr (.inr (.inr ⟨z,(afB.1 s).1,e⟩)))
 have V:aU .str (.str (aP true dn))=true:=rfl;have ab:aU .int (.int .i64 x.id)=true:=rfl;rw[<- T]at f;obtain⟨tk,Y⟩:=aeS (aP true dn);obtain⟨xi,a3⟩:=aeS (x.id);rw[Y]at f kk3 V;rw[a3]at f a1 kk2 ab h;replace h:=hid h;replace f:=hid f;clear hK S R P H g hu T Y t I J k G m y Z ad U N O;have f:=f.o;subst W;refine aeV eD ?_;intro L' u w q1 q2 q3;replace q1:=hid q1;replace q2:=hid q2;replace q3:=hid q3;refine wk ?_;exact ag (h.o L' _ _ q1.o q2.o q3.o)
theorem aep(p:TOk suf last l)(Z:l.length<=1000000)(e:L[it]?=some (.cells [.ptr iv 0]))(i:aR L iv mn mi nb bn ck ci rs suf last l){dn tn:List Rdn}{v:List Atr}(u:dnB dn)(G:dnB tn)(H:v.length<=1100000)(N:∀a∈v,a.2.length<=1100000){x:aw}(M:atE l dn=some x){K:aeX}(h:∀L',aR L' iv mn mi nb bn ck ci rs suf last (sP l x.id v)->L'[it]?=some (.cells [.ptr iv 0])->aL (OfT iv mn mi nb l) L L'->K (.int .i64 0) L'):
  aeW 31 [.ptr it 0,.agg [.int .i64 3,dnA dn,dnA tn,atR v]] L K:=by
 obtain⟨I,d,S⟩:=bi M;have P:bI suf l 3 dn tn=0:=by unfold bI;rw[if_neg (by decide),if_neg (by decide),M];rfl
 have C:aN l dn=x.id:=by unfold aN;rw[M]
 have D:=i.toK p;have A:=D.cha d v;have m:aL (OfT iv mn mi nb l) L (L.set (nb x.id) (.cells [dnA x.nm,.sl (ay (pth x)) x.nm.length none,atR v,.int .i64 (jl l x.id:Nat)])):=aL.set L (.inr (.inr (.inr ⟨x,d,rfl⟩))) _;have F:=D.noIt e;have J:aR (L.set (nb x.id) (.cells [dnA x.nm,.sl (ay (pth x)) x.nm.length none,atR v,.int .i64 (jl l x.id:Nat)])) iv mn mi nb bn ck ci rs suf last (sP l x.id v):=A.toT λz R=>by obtain⟨y,T,rfl⟩:=ae1.1 R;rw[PY];have W:(if y.id=x.id then{y with av:=v}else y).id=y.id:=(by split<;>rfl);have Y:(if y.id=x.id then{y with av:=v}else y).nm=y.nm:=(by split<;>rfl);rw[W,Y,p.kidsE T]
 have c:=h _ (J.app [.cells [.int .i64 3,dnA dn,dnA tn,atR v]]) ((m.trans (aL.app _ _)).get e F) (m.trans (aL.app _ _));have j:=i.v;have k:=i.n;have w:iv<L.length:=(aeY.1 j).1;have r:mn<L.length:=(aeY.1 k).1;have t:it<L.length:=(aeY.1 e).1;have f:=D.nd x d;have g:nb x.id<L.length:=(aeY.1 f).1;unfold cz at f;have av:∀X:List Blk,(L++X)[iv]?=some (.cells [dnA suf,.lmap mn,.lmap mi,.int .i64 last]):=λX=>by rw[ae3 w];exact j
 have U:∀X:List Blk,(L++X)[it]?=some (.cells [.ptr iv 0]):=λX=>by rw[ae3 t];exact e
 have an:∀X:List Blk,(L++X)[mn]?=some (.map (l.map (eY nb bn)) ck):=λX=>by rw[ae3 r];exact k
 have Q:∀X:List Blk,(L++X)[nb x.id]?=some (.cells [dnA x.nm,.sl (ay (pth x)) x.nm.length none,atR x.av,.int .i64 (jl l x.id:Nat)]):=λX=>by rw[ae3 g];exact f
 have sd:∀(X:List Blk) b,(L++X).set (nb x.id) b=L.set (nb x.id) b++X:=λX b=>agP _ _ g
 have kk1:Hid (∀{X:List Blk}{K:aeX},K (.int .i64 0) (L++X)->aeW 13 [.ptr iv 0,.agg [.int .i64 3,dnA dn,dnA tn,atR v]] (L++X) K):=@hid _ (by intro X K q;exact G0 p ah3 (i.app X) u G (by rw[P];exact q))
 have kk2:Hid (∀{X:List Blk}{K:aeX},K (.int .i64 x.id) (L++X)->aeW 26 [.ptr iv 0,dnA dn] (L++X) K):=@hid _ (by intro X K q;exact mO u p (i.app X) (by rw[C];exact q))
 have kk3:Hid (Ctr Tryz.prog 68 [atR v] (atR v)):=@hid _ (by intro L K q;exact O9 H N q);have B:aU .int (.int .i64 x.id)=true:=rfl;rcases i.node x.id with⟨E,_⟩|⟨x',n,E,_,_,V,_⟩;rw[p.ent d]at E;cases E;obtain⟨q,O⟩:∃q:Int,(jl l x.id:Nat)=q:=⟨_,rfl⟩;rw[O]at Q c;obtain⟨xi,s⟩:=aeS (x.id);rw[s]at B V kk2 Q sd c;replace h:=hid c;clear c D A m j k e i p C I P s O d E f;unfold atR at kk1 kk3 h⊢;refine aeV eD ?_;exact ag h.o
end
set_option maxHeartbeats 8000000
set_option maxRecDepth 100000
def JH(l:List aw)(dn:List Rdn):List aw:=l.filter λz => !gk z.nm dn
theorem mT{l:List aw}{z:aw}:z∈JH l dn↔z∈l/\gk z.nm dn=false:=by unfold JH;rw[afB];simp
theorem TOk.cut{suf:List Rdn}{last:Int}{l:List aw}(h:TOk suf last l)(hd:OkD dn):TOk suf last (JH l dn):=by
 have sub:∀z∈JH l dn,z∈l:=λz a=>(mT.1 a).1
 have c:(cu (JH l dn)).Sublist (cu l):=List.filter_sublist.map _;refine⟨h.sok,λz a=>h.ok z (sub z a),⟨h.inv.sne,(c.map _).nodup h.inv.nd,(c.map _).nodup h.inv.ids,λm d=>h.inv.un m (c.subset d),λm d=>?_⟩,λz a=>h.ids z (sub z a)⟩;obtain⟨z,a,rfl⟩:=ae1.1 d;obtain⟨b,i⟩:=mT.1 a;rcases h.inv.par _ (cH b)with e|⟨k,g,e⟩;simp_all;obtain⟨w,j,rfl⟩:=ae1.1 g;refine .inr ⟨_,cH (mT.2 ⟨j,?_⟩),e⟩;cases hu:gk w.nm dn with
 |false=>rfl
 | true =>
   have f:=(cQ.1 hu).2.2;simp only at e;rw[e]at f;have:gk z.nm dn=true:=cQ.2 ⟨h.ok z b,hd,f.trans (agJ _)⟩;simp_all
def P1(l:List aw)(dn tn:List Rdn)(ids:List Int):List aw:=l.map λz=>if z.id∈ids then{z with nm:=nR z.nm dn.length tn}else z
theorem abH(l:List aw)(dn tn:List Rdn):P1 l dn tn []=l:=by unfold P1;simp
theorem ZA{suf:List Rdn}{last:Int}{l:List aw}(h:TOk suf last l)(dn tn:List Rdn)(a:y∈l)(c:y.id∉ids):nmT (P1 l dn tn ids) y.id (nR y.nm dn.length tn)=P1 l dn tn (ids++[y.id]):=by
 unfold nmT P1;rw[afj];refine afN λz b=>?_
 by_cases e:z.id=y.id;have:=h.byI b a e;simp[*]
 grind
theorem adr{l:List aw}(dn tn:List Rdn)(b:y∈l)(a:y.id∉ids):y∈P1 l dn tn ids:=ae1.2 ⟨y,b,if_neg a⟩
theorem abI{l:List aw}(dn tn:List Rdn)(h:∀z∈l,z.id∈ids↔gk z.nm dn=true):P1 l dn tn ids=mu l dn tn:=by unfold P1 mu;simp_all
theorem PD{l:List aw}{z:aw}(h:z∈mu l dn tn):∃y∈l,y.id=z.id/\z=(if gk y.nm dn=true then{y with nm:=nR y.nm dn.length tn}else y):=by
 obtain⟨y,a,rfl⟩:=ae1.1 h
 grind
theorem Zc{suf:List Rdn}{last:Int}{l:List aw}(h:TOk suf last l){dn tn:List Rdn}(hd:OkD dn){y:aw}(a:y∈l):NK (if gk y.nm dn=true then{y with nm:=nR y.nm dn.length tn}else y).nm=ren (NK dn) (NK tn) (NK y.nm):=by by_cases c:gk y.nm dn=true;rw[if_pos c,WF c];rw[if_neg c,fG λb=>c (cQ.2 ⟨h.ok y a,hd,b⟩)]
theorem TOk.movK{suf:List Rdn}{last:Int}{l:List aw}(h:TOk suf last l)(a:ad0 suf l x dn tn)(b:y∈l):
  (aO (cu (mu l dn tn)) (NK (if gk y.nm dn=true then{y with nm:=nR y.nm dn.length tn}else y).nm):Int)=(if y.id=aN (mu l dn tn) tn.tail then(if y.id=aN (JH l dn) dn.tail then(jl l y.id:Int) + -1 else jl l y.id)+1 else(if y.id=aN (JH l dn) dn.tail then(jl l y.id:Int) + -1 else jl l y.id)):=by
 obtain⟨d,j⟩:=h.mov a;have g:=h.cut a.ok;rw[Zc h a.ok b,j y b,h.kidsE b];have q:y.id=aN (JH l dn) dn.tail↔NK y.nm=(NK dn).tail:=by
  cases hu:gk y.nm dn with
  |false=>rw[g.parI (mT.2 ⟨b,hu⟩) a.ok];exact eq_comm
  | true =>
    constructor
    .intro e;unfold aN at e;cases hq:atE (JH l dn) dn.tail with
     |none=>rw[hq]at e;have:=(h.ids y b).1;simp only at e;omega
     | some w =>
       rw[hq]at e;obtain⟨m,n⟩:=mT.1 (bi hq).2.1;have:=h.byI b m e;simp_all
    .intro e;have c:=(cQ.1 hu).2.2.length_le;rw[e,agA]at c;have:NK dn≠[]:=λf=>h.inv.ne (cH a.mem) (by rw[a.nk,f])
     have:=afP.2 this;omega
 have p:y.id=aN (mu l dn tn) tn.tail↔NK y.nm=(NK tn).tail:=by have k:(if gk y.nm dn=true then{y with nm:=nR y.nm dn.length tn}else y)∈mu l dn tn:=ae1.2 ⟨y,b,rfl⟩;have c:=d.parI k a.tok;rw[Zc h a.ok b]at c;rw[show(if gk y.nm dn=true then{y with nm:=nR y.nm dn.length tn}else y).id=y.id by split<;>rfl]at c;rw[c];constructor;intro e;by_cases i:NK dn <:+ NK y.nm;obtain⟨w,o⟩:=i;rw[<- o,gr]at e;have:=congrArg List.length e;rw[agA,afc]at this;have:=afP.2 (λf=>a.tne (Nn.1 f));omega;rw[fG i]at e;exact e.symm;intro e;rw[e,fG a.nun]
 grind
section
variable {L:List Blk}{iv mn mi it:Nat}{nb bn:Int->Nat}{ck ci:Nat}{rs:List TKy}{suf:List Rdn}{last:Int}{l lk:List aw}{kd:Int->Int}
theorem be.lkE(h:be L iv mn mi nb bn ck ci rs suf last l lk kd){lk':List aw}(e:∀z,z∈lk↔z∈lk'):be L iv mn mi nb bn ck ci rs suf last l lk' kd :=
 ⟨h.v,h.n,h.i,h.nd,h.inj,h.keys,λk id=>by rw[h.mem k id];exact⟨λ⟨x,a,b⟩=>⟨x,(e x).1 a,b⟩,λ⟨x,a,b⟩=>⟨x,(e x).2 a,b⟩⟩,h.bnd,h.blt⟩
def lkD(l:List aw)(ys:List aw):List aw:=l.filter λz => !ys.any λy=>decide (y.id=z.id)
theorem G6{l a:List aw}{z:aw}:z∈lkD l a↔z∈l/\∀y∈a,y.id≠z.id:=by unfold lkD;simp
theorem ZC(l a:List aw)(y:aw):∀z,z∈MZ (lkD l a) y.id↔z∈lkD l (a++[y]):=λz=>by
 unfold MZ;rw[afB,G6,G6]
 grind
end
set_option maxHeartbeats 8000000
set_option maxRecDepth 100000
theorem OfT.lt{L:List Blk}{iv mn mi:Nat}{nb bn:Int->Nat}{ck ci:Nat}{rs:List TKy}{suf:List Rdn}{last:Int}{l lk:List aw}{kd:Int->Int}(h:be L iv mn mi nb bn ck ci rs suf last l lk kd){i:Nat}(a:OfT iv mn mi nb l i):i<L.length:=by rcases a with rfl|rfl|rfl|⟨x,b,rfl⟩;exact(aeY.1 h.v).1;exact(aeY.1 h.n).1;exact(aeY.1 h.i).1;exact(aeY.1 (h.nd x b)).1
theorem Y2{suf:List Rdn}{last:Int}{l:List aw}(b:TOk suf last l)(x:aw)(s:Int):((scL l x s).map (·.id)).Nodup:=by have a:=b.inv.ids;unfold cu at a;rw[afj]at a;have:((l.filter (fA x s)).map (·.id)).Nodup:=(List.filter_sublist.map _).nodup a;exact((aga _ _).map _).nodup_iff.2 this
section
variable {L:List Blk}{iv mn mi it:Nat}{nb bn:Int->Nat}{ck ci:Nat}{rs:List TKy}{suf:List Rdn}{last:Int}{l:List aw}
theorem aem(r:TOk suf last l)(d2:mn≠mi)(ey:l.length<=1000000)(a9:L[it]?=some (.cells [.ptr iv 0]))(hc:aR L iv mn mi nb bn ck ci rs suf last l){dn tn:List Rdn}{v:List Atr}(c3:dnB dn)(ds:dnB tn)(ei:v.length<=1100000)(ep:∀a∈v,a.2.length<=1100000){x:aw}(hx:atE l dn=some x)(cl:Sr suf l x.id dn tn=0){K:aeX}(h:∀L' cx G,aR L' iv mn mi nb bn ck cx G suf last (sP (mu l dn tn) x.id v)->L'[it]?=some (.cells [.ptr iv 0])->aL (OfT iv mn mi nb l) L L'->K (.int .i64 0) L'):
  aeW 31 [.ptr it 0,.agg [.int .i64 4,dnA dn,dnA tn,atR v]] L K:=by
 obtain⟨c1,a0,c5⟩:=bi hx;have ad:=r.canM hx cl;have ha:bI suf l 4 dn tn=0:=by unfold bI;rw[if_neg (by decide),if_neg (by decide),hx];exact cl
 have d5:aN l dn=x.id:=by unfold aN;rw[hx]
 have s:=hc.toK r;have cv:=s.noIt a9;have I:=hc.v;have d4:iv<L.length:=(aeY.1 I).1;have ew:mi<L.length:=(aeY.1 hc.i).1;have ca:it<L.length:=(aeY.1 a9).1;have b3:¬OfT iv mn mi nb l L.length:=λe=>Nat.lt_irrefl _ (OfT.lt s e)
 have av:∀X:List Blk,(L++X)[iv]?=some (.cells [dnA suf,.lmap mn,.lmap mi,.int .i64 last]):=λX=>by rw[ae3 d4];exact I
 have ec:∀X:List Blk,(L++X)[it]?=some (.cells [.ptr iv 0]):=λX=>by rw[ae3 ca];exact a9
 have kk1:Hid (∀{X:List Blk}{K:aeX},K (.int .i64 0) (L++X)->aeW 13 [.ptr iv 0,.agg [.int .i64 4,dnA dn,dnA tn,.sl (bj v) v.length none]] (L++X) K):=@hid _ (by intro X K q;exact G0 r ah3 (hc.app X) c3 ds (by rw[ha];exact q))
 have kk2:Hid (∀{X:List Blk}{K:aeX},K (.int .i64 x.id) (L++X)->aeW 26 [.ptr iv 0,dnA dn] (L++X) K):=@hid _ (by intro X K q;exact mO c3 r (hc.app X) (by rw[d5];exact q))
 obtain⟨d,bb⟩:=aeS (scL l x 2);have kk3:Hid (∀{X:List Blk}{K:aeX},K (.sl ((d.map (·.id)).map (AV.int .i64)) d.length none) (L++X)->aeW 32 [.ptr iv 0,.int .i64 x.id,.int .i64 2] (L++X) K):=@hid _ (by intro X K q;refine J6 r ah3 (hc.app X) ?_;rw[Pz (r.ent a0),bb,ae6];exact q)
 have d6:=Sf l x 2;have k:=λy=>Pb (y:=y) r hx
 have a6:=Y2 r x 2;rw[bb]at d6 k a6;have W:∀(j:Nat) (y:aw),d[j]?=some y->(((d.map (·.id)).map (AV.int .i64)).getD j .undef=.int .i64 y.id)/\y∈l/\gk y.nm dn=true/\(∀z∈d.take j,z.id≠y.id)/\d.take (j+1)=d.take j++[y]:=λj y hj=>by obtain⟨c8,e⟩:=aeY.1 hj;have hm:=af0 hj;obtain⟨J,P⟩:=(k y).1 hm;refine⟨by simp[hj],J,P,λz f e2=>?_,by rw[afs c8,e]⟩;obtain⟨i,S,e3⟩:=agZ.1 f;rw[List.getElem_take]at e3;rw[afZ]at S;have eg:i<j:=ah3;have:=List.pairwise_iff_getElem.1 a6 i j (by simp;omega) (by simpa using c8) eg;exact this (by simp[e3,e,e2])
 have ex:=c1.len;obtain⟨M,d'⟩:∃M:Blk,M=.cells [.int .i64 4,dnA dn,dnA tn,.sl (bj v) v.length none]:=⟨_,rfl⟩;have hu:∀y∈l,∀z∈l,aP true z.nm=aP true y.nm↔z.id=y.id:=λy hy z f=>⟨λe=>by rw[r.byN f hy ((mP (r.ok z f) (r.ok y hy)).1 e)],λe=>by rw[r.byI f hy e]⟩
 have c2:be (L++[M]) iv mn mi nb bn ck ci rs suf last l (lkD l (d.take 0)) (λid=>(jl l id:Nat)):=(s.app [M]).lkE λz=>by rw[G6];simp
 have cg:aL (OfT iv mn mi nb l) L (L++[M]):=aL.app L [M];have co:(L++[M])[L.length]?=some M:=ah4;obtain⟨xi,an⟩:=aeS (x.id);have c9:=a9;unfold atR;rw[an]at kk2 kk3;replace h:=hid h;replace r:=hid r;replace ad:=hid ad;replace W:=hid W;replace hu:=hid hu;replace k:=hid k;replace c2:=hid c2;replace cg:=hid cg;replace co:=hid co;clear hc s I d5 ha cl bb a6 a9;subst d';refine aeV eD ?_;have ct:∀{L':List Blk}{G:List TKy}{lk:List aw}{cx:Nat}{l':List aw}{kd:Int->Int},be L' iv mn mi nb bn ck cx G suf last l' lk kd->L'[it]?=some (.cells [.ptr iv 0])->L'[L.length]?=some (.cells [.int .i64 4,dnA dn,dnA tn,.sl (bj v) v.length none])->∀b,(L'.set mi b)[it]?=some (.cells [.ptr iv 0])/\(L'.set mi b)[L.length]?=some (.cells [.int .i64 4,dnA dn,dnA tn,.sl (bj v) v.length none]):=λs J P b=>⟨by rw[ae4 (λe=>s.noIt J (.inr (.inr (.inl e.symm))))];exact J,by rw[ae4 ah3];exact P⟩
 replace ct:=@hid _ @ct;refine ao (λn T' L'=>∃j:Nat,n=d.length-j/\j<=d.length/\Hid (∃G,be L' iv mn mi nb bn ck ci G suf last l (lkD l (d.take j)) (λid=>(jl l id:Nat)))/\Hid (aL (OfT iv mn mi nb l) L L')/\L'[L.length]?=some (.cells [.int .i64 4,dnA dn,dnA tn,.sl (bj v) v.length none])/\L'[it]?=some (.cells [.ptr iv 0])/\T'=[(137,.int .i64 (j:Int)),(136,.int .i64 d.length),(135,.sl ((d.map (·.id)).map (AV.int .i64)) d.length none),(9,.sl ((d.map (·.id)).map (AV.int .i64)) d.length none),(6,.int .i64 xi),(3,.ptr L.length 0),(0,.ptr it 0)]) ah7 ⟨0,rfl,ae5 _,hid ⟨rs,c2.o⟩,hid cg.o,co.o,by rw[ae3 ca];exact c9,rfl⟩ ?_;rintro _ _ L' ⟨j,rfl,hj,hI,hB,hb,S,rfl⟩;obtain⟨G,s⟩:=hI.o;have b0:L.length+1<=L'.length:=(aeY.1 hb).1;have I:=s.v;have a5:=s.n;have b7:=s.i;by_cases R:j<d.length;have g1:(j:Int)<(d.length:Int):=ah3;have g2:=aeU j ah3;have Q:d[j]?=some d[j]:=afn R;obtain⟨y,hy⟩:=aeS (d[j]);rw[hy]at Q;obtain⟨e1,p,ai,a2,a7⟩:=W.o j y Q;have e2:j<((d.map (·.id)).map (AV.int .i64)).length:=by simpa using R
 obtain⟨j1,d3,a1⟩:=s.delk d2 (y:=y) (G6.2 ⟨p,a2⟩) (λz f=>hu.o y p z (G6.1 f).1);have t:=a1.lkE (ZC l (d.take j) y);rw[<- a7]at t;obtain⟨b1,b2⟩:=ct.o s S hb (.map ((G.map kyA).eraseIdx j1) ci);have C:=hB.o.trans (aL.set L' (B:=OfT iv mn mi nb l) (.inr (.inr (.inl rfl))) (.map ((G.map kyA).eraseIdx j1) ci));rcases s.node y.id with⟨f1,_⟩|⟨y',n,f1,_,_,f2,f3,_⟩;rw[r.o.ent p]at f1;cases f1;rw[r.o.ent p]at f1;cases f1;unfold cz at f3;have b5:=r.o.ok y p;have kk4:Hid (Ctr Tryz.prog 61 [dnA y.nm] (.tup [.str (aP true y.nm),.int .i64 0])):=@hid _ (by intro L K q;exact MI b5.m.b.1 b5.m.b.2 (by rw[qL b5];exact q))
 have d8:aU .str (.str (aP true y.nm))=true:=rfl;have d1:aU .int (.int .i64 y.id)=true:=rfl;obtain⟨tk,b_⟩:=aeS (aP true y.nm);obtain⟨yi,bo⟩:=aeS (y.id);rw[b_]at d3 kk4 d8;rw[bo]at e1 f2 f3 d1 d3;have c':=hid b0;replace b1:=hid b1;replace b2:=hid b2;replace t:=hid t;replace C:=hid C;clear s a1 hI hB b5 b_ bo p ai a2 a7 Q hy kk1 kk2 kk3 av ec b3;refine wk ?_;exact ah8 ah3 (CutL (b:=by have:=c'.o;simp;omega)) ⟨j+1,rfl,R,hid ⟨_,t.o⟩,hid C.o,b2.o,b1.o,rfl⟩;have cp:j=d.length:=ah3;subst cp;have g1:¬(d.length:Int)<(d.length:Int):=ah3;rw[afo]at s;have cn:=s.lkE (lk':=JH l dn) λz=>by
  rw[G6,mT];refine and_congr_right λf=>?_
  constructor;intro e;cases c0:gk z.nm dn with
  |false=>rfl
  |true=>exact absurd rfl (e z ((k.o z).2 ⟨f,c0⟩))
  intro e y hy e2;obtain⟨y1,y2⟩:=(k.o y).1 hy;rw[r.o.byI y1 f e2,e]at y2;cases y2
 have er:=r.o.cut c1;have es:dn≠[]:=λe=>r.o.inv.ne (cH a0) (by rw[c5,e];rfl)
 obtain⟨E,V⟩:∃E:Int->Int,E=λi=>if i=aN (JH l dn) dn.tail then(jl l i:Int) + -1 else jl l i:=⟨_,rfl⟩
 have ej:∀i,-10000000<=E i/\E i<=10000000:=λi=>by have:=P6 l i;rw[V];dsimp only;split<;>omega
 have kk4:Hid (∀{K:aeX},(∀L2,Hid (be L2 iv mn mi nb bn ck ci G suf last l (JH l dn) E)->Hid (aL (OfT iv mn mi nb l) L L2)->L2[it]?=some (.cells [.ptr iv 0])->L2[L.length]?=some (.cells [.int .i64 4,dnA dn,dnA tn,.sl (bj v) v.length none])->K (.tup []) L2)->aeW 70 [.ptr it 0,dnA dn,.int .i64 (-1)] L' K):=@hid _ (by
  intro K q;refine G3 c3 es er (λz f=>⟨z,(mT.1 f).1,rfl⟩) (λz f=>(r.o.ids z f).1) S cn ah3 (λi=>by have:=P6 l i;omega) λL2 t C=>?_
  refine q L2 (hid (by rw[V];exact t)) (hid (hB.o.trans C)) (C.get S (cn.noIt S)) (C.get hb b3))
 clear cn s hI hB;have en:=hid V;clear V;refine wk ?_;intro L2 t C dp cq;clear kk4;clear I a5 b7 hb S b0;have b0:L.length+1<=L2.length:=(aeY.1 cq).1;refine wk ?_;obtain⟨A,g⟩:∃A:aw->aw,A=λy=>{y with nm:=nR y.nm dn.length tn}:=⟨_,rfl⟩
 replace g:=hid g;refine ao (λn T' L3=>∃j:Nat,n=d.length-j/\j<=d.length/\Hid (L2.length<=L3.length)/\Hid (∃N a4,be L3 iv mn mi nb bn ck N a4 suf last (P1 l dn tn ((d.take j).map (·.id))) (JH l dn++(d.take j).map A) E)/\Hid (aL (OfT iv mn mi nb l) L L3)/\L3[L.length]?=some (.cells [.int .i64 4,dnA dn,dnA tn,.sl (bj v) v.length none])/\L3[it]?=some (.cells [.ptr iv 0])/\T'=[(172,.int .i64 (j:Int)),(171,.int .i64 d.length),(170,.sl ((d.map (·.id)).map (AV.int .i64)) d.length none),(6,.int .i64 xi),(3,.ptr L.length 0),(0,.ptr it 0)]) (CutS (b:=ae0 _)) ⟨0,rfl,ae5 _,hid (ae0 _),hid ⟨ci,G,by rw[agF,afQ,abH,afQ,afq];exact t.o⟩,C,cq,dp,rfl⟩ ?_;rintro _ _ L3 ⟨j,rfl,hj,c6,hI,hB,hb,S,rfl⟩;obtain⟨N,a4,s⟩:=hI.o;have cd:L.length+1<=L3.length:=(aeY.1 hb).1;have I:=s.v;have a5:=s.n;have b7:=s.i;clear t C dp cq b0;by_cases R:j<d.length;have g1:(j:Int)<(d.length:Int):=ah3;have g2:=aeU j ah3;have Q:d[j]?=some d[j]:=afn R;obtain⟨y,hy⟩:=aeS (d[j]);rw[hy]at Q;obtain⟨e1,p,ai,a2,a7⟩:=W.o j y Q;have e2:j<((d.map (·.id)).map (AV.int .i64)).length:=by simpa using R
 have ab:y.id∉(d.take j).map (·.id):=λhm=>by obtain⟨z,f,e⟩:=ae1.1 hm;exact a2 z f e
 have cy:=adr dn tn p ab;have F:=(r.o.mov ad.o).1;have hZ:A y∈mu l dn tn:=ae1.2 ⟨y,p,by rw[if_pos ai,g.o]⟩;have c7:(A y).id=y.id:=by rw[g.o]
 have c4:∀z∈JH l dn++(d.take j).map A,aP true z.nm≠aP true (nR y.nm dn.length tn):=λz f e=>by
  have ch:z∈mu l dn tn/\z.id≠y.id:=by rcases ae2.1 f with f|f;obtain⟨J,P⟩:=mT.1 f;refine⟨ae1.2 ⟨z,J,by rw[if_neg (by rw[P];decide)]⟩,λe3=>?_⟩;rw[r.o.byI J p e3,ai]at P;cases P;obtain⟨w,T,rfl⟩:=ae1.1 f;obtain⟨J,P⟩:=(k.o w).1 (ahd T);refine⟨ae1.2 ⟨w,J,by rw[if_pos P,g.o]⟩,λe3=>?_⟩;rw[show(A w).id=w.id by rw[g.o]]at e3;exact a2 w T e3
  have e4:NK z.nm=NK (A y).nm:=by rw[show(A y).nm=nR y.nm dn.length tn by rw[g.o]];exact(mP (F.ok z ch.1) (by have:=F.ok _ hZ;rw[g.o]at this;exact this)).1 e
  have:=F.byN ch.1 hZ e4;exact ch.2 (by rw[this,c7])
 have a_:OkD (nR y.nm dn.length tn):=by have:=F.ok _ hZ;rw[g.o]at this;exact this
 obtain⟨Z,al⟩:=aeS (nR y.nm dn.length tn);rw[al]at c4 a_;obtain⟨L4,bx⟩:=aeS ((L3.set (nb y.id) (.cells [dnA Z,.sl (ay (NK Z).reverse) Z.length none,atR y.av,.int .i64 (E y.id)])).set mi (.map ((a4++[(aP true Z,y.id,N)]).map kyA) (N+1))++[.cells [.sl (ay (NK Z).reverse) Z.length none]]);obtain⟨ea,a1⟩:=s.ren d2 cy c4 [.cells [.sl (ay (NK Z).reverse) Z.length none]];rw[bx,<- al,ZA r.o dn tn p ab,al]at a1;have t:be L4 iv mn mi nb bn ck (N+1) (a4++[(aP true Z,y.id,N)]) suf last (P1 l dn tn ((d.take (j+1)).map (·.id))) (JH l dn++(d.take (j+1)).map A) E:=by rw[a7,afk,afk,<- afa];rw[show[y].map A=[{y with nm:=Z}]by rw[g.o,<- al];rfl];exact a1
 have bk:aL (OfT iv mn mi nb l) L3 L4:=by rw[<- bx];exact((aL.set L3 (B:=OfT iv mn mi nb l) (.inr (.inr (.inr ⟨y,p,rfl⟩))) _).trans (aL.set _ (.inr (.inr (.inl rfl))) _)).trans (aL.app _ _)
 have a8:=hid (afw c6.o bk.len);have bs:=bk.get S cv;have b6:=bk.get hb b3;have D:=hB.o.trans bk;rcases s.node y.id with⟨f1,_⟩|⟨y',n,f1,f4,f5,f2,f3,_⟩;exact absurd (af7.1 f1 y cy) ah4;have b4:y'=y:=by obtain⟨w,T,e⟩:=ae1.1 f4;have eq:w.id=y.id:=(by rw[<- f5,<- e];split<;>rfl);have:=r.o.byI T p eq;subst this;rw[if_neg ab]at e;exact e.symm
 rw[b4]at f3;unfold cz at f3;have dk:dn.length<=y.nm.length:=by have:=(cQ.1 ai).2.2.length_le;rwa[bA,bA]at this
 have dt:=(r.o.ok y p).len;have kk5:Hid (∀{K:aeX},K (.tup []) L4->aeW 69 [.ptr it 0,.int .i64 y.id,dnA Z] L3 K):=@hid _ (by intro K q;refine YS a_ S I a5 f2 f3 b7 ea ?_;rw[bx];exact q)
 obtain⟨q,hq⟩:=aeS (y.nm.length-dn.length);have w1:IntKind.i64.wrap ((y.nm.length:Int)-(dn.length:Int))=(q:Int):=by rw[ae ah3 ah3];omega
 have w2:(q:Int)<=(y.nm.length:Int):=ah3;have cf:aU .int (.int .i64 y.id)=true:=rfl;have d_:y.nm.take q++tn=Z:=by rw[<- al,<- hq];rfl
 have kk6:Hid (∀{c:Option Nat}{L:List Blk}{K:aeX},K (dnA Z) L->aeW 50 [dnA tn,.sl (List.take q (y.nm.map aH)) q c] L K):=@hid _ (by intro c L K u;rw[<- aha];exact WL d_ (by rw[afZ];omega) rfl a_.m.b.1 a_.m.b.2 u)
 obtain⟨yi,bo⟩:=aeS (y.id);obtain⟨yn,H⟩:=aeS (y.nm);obtain⟨ya,a'⟩:=aeS (atR y.av);obtain⟨yp,a3⟩:=aeS (ay (pth y));rw[bo]at e1 f2 f3 kk5 cf;rw[H]at f3 kk6 w1 w2;rw[a',a3]at f3;have et:=hid cd;replace t:=hid t;replace D:=hid D;replace bs:=hid bs;replace b6:=hid b6;clear s a1 hI hB bk bx c4 a_ hZ c7 F cy ab p ai a2 a7 Q hy f1 f4 f5 b4 dk dt hq d_ al bo H a' a3 ea;refine wk ?_;exact ah8 ah3 (CutL (b:=a8.o)) ⟨j+1,rfl,R,a8,hid ⟨_,_,t.o⟩,hid D.o,b6.o,bs.o,rfl⟩;have cp:j=d.length:=ah3;subst cp;have g1:¬(d.length:Int)<(d.length:Int):=ah3;rw[afo]at s;have eb:P1 l dn tn (d.map (·.id))=mu l dn tn:=abI dn tn λz f=>by constructor;intro hm;obtain⟨w,T,e⟩:=ae1.1 hm;obtain⟨J,P⟩:=(k.o w).1 T;rw[<- r.o.byI J f e];exact P;intro ap;exact ae1.2 ⟨z,(k.o z).2 ⟨f,ap⟩,rfl⟩
 rw[eb]at s;have c_:=s.lkE (lk':=mu l dn tn) λz=>by rw[ae2];constructor;rintro(f|f);obtain⟨J,P⟩:=mT.1 f;exact ae1.2 ⟨z,J,by rw[if_neg (by rw[P];decide)]⟩;obtain⟨w,T,rfl⟩:=ae1.1 f;obtain⟨J,P⟩:=(k.o w).1 T;exact ae1.2 ⟨w,J,by rw[if_pos P,g.o]⟩;intro f;obtain⟨w,T,_,e⟩:=PD f;by_cases ap:gk w.nm dn=true;rw[if_pos ap]at e;exact .inr (ae1.2 ⟨w,(k.o w).2 ⟨T,ap⟩,by rw[e,g.o]⟩);rw[if_neg ap]at e;rw[e];exact .inl (mT.2 ⟨T,by simpa using ap⟩)
 have F:=(r.o.mov ad.o).1;obtain⟨bd,bl⟩:∃bd:Int->Int,bd=λi=>if i=aN (mu l dn tn) tn.tail then E i+1 else E i:=⟨_,rfl⟩
 have b9:∀i,OfT iv mn mi nb (mu l dn tn) i->OfT iv mn mi nb l i:=λi S=>by rcases S with e|e|e|⟨z,f,e⟩;exact .inl e;exact .inr (.inl e);exact .inr (.inr (.inl e));obtain⟨w,T,e2,_⟩:=PD f;exact .inr (.inr (.inr ⟨w,T,by rw[e,e2]⟩))
 obtain⟨x2,cs⟩:∃x2,x2={x with nm:=nR x.nm dn.length tn}:=⟨_,rfl⟩;have d7:gk x.nm dn=true:=cQ.2 ⟨r.o.ok x a0,c1,by rw[c5];exact List.suffix_refl _⟩;have Y:x2∈mu l dn tn:=ae1.2 ⟨x,a0,by rw[if_pos d7,cs]⟩;have O:x2.id=xi:=by rw[cs];exact an
 have kk4:Hid (∀{K:aeX},(∀L4,Hid (be L4 iv mn mi nb bn ck N a4 suf last (mu l dn tn) (mu l dn tn) bd)->Hid (aL (OfT iv mn mi nb l) L L4)->L4[it]?=some (.cells [.ptr iv 0])->L4[L.length]?=some (.cells [.int .i64 4,dnA dn,dnA tn,.sl (bj v) v.length none])->K (.tup []) L4)->aeW 70 [.ptr it 0,dnA tn,.int .i64 1] L3 K):=@hid _ (by
  intro K q;refine G3 ds ad.o.tne F (λz f=>⟨z,f,rfl⟩) (λz f=>(F.ids z f).1) S c_ ah3 ej λL4 U D=>?_
  refine q L4 (hid (by rw[bl];exact U)) (hid (hB.o.trans2 D λi _=>b9 i)) (D.get S λe=>cv (b9 _ e)) (D.get hb λe=>b3 (b9 _ e)))
 have d0:=hid bl;clear bl s c_ hI hB;refine wk ?_;intro L4 U D bs b6;clear kk4 I a5 b7 hb S cd;have I:=U.o.v;have a5:=U.o.n;have kk5:Hid (Ctr Tryz.prog 68 [.sl (bj v) v.length none] (.sl (bj v) v.length none)):=@hid _ (by intro L K q;exact O9 ei ep q);rcases U.o.node xi with⟨f1,_⟩|⟨y',n,f1,f4,f5,f2,f3,_⟩;exact absurd (af7.1 f1 x2 Y) (by simp[O]);have b4:y'=x2:=F.byI f4 Y (by rw[f5,O]);subst b4;unfold cz at f3;rw[O]at f3;have cf:aU .int (.int .i64 xi)=true:=rfl;have b':=U.o.cha Y v;rw[O]at b';have cb:=h.o (L4.set (nb xi) (.cells [dnA y'.nm,.sl (ay (pth y')) y'.nm.length none,atR v,.int .i64 (bd xi)])) N a4 (by
  rw[<- an]at b'⊢;refine b'.toT λz f=>?_
  obtain⟨w,T,rfl⟩:=ae1.1 f;obtain⟨u,c0,e2,e3⟩:=PD T;have J:=r.o.movK ad.o c0;rw[PY];have e4:(if w.id=x.id then{w with av:=v}else w).id=w.id:=(by split<;>rfl);have e5:(if w.id=x.id then{w with av:=v}else w).nm=w.nm:=(by split<;>rfl);rw[e4,e5,d0.o,en.o];dsimp only;rw[<- e3]at J;rw[<- e2];exact J.symm) (by rw[ae4 (λe=>cv (.inr (.inr (.inr ⟨x,a0,by rw[an];exact e.symm⟩))))];exact bs) (D.o.trans (aL.set _ (.inr (.inr (.inr ⟨x,a0,by rw[an]⟩))) _))
 replace h:=hid cb;unfold atR at h;obtain⟨ya,a'⟩:=aeS (atR y'.av);obtain⟨yp,a3⟩:=aeS (ay (pth y'));obtain⟨yn,H⟩:=aeS (y'.nm);obtain⟨kq,cm⟩:=aeS (bd xi);rw[a',a3,H,cm]at f3;rw[a3,H,cm]at h;clear cb b' a3 a' H cm f1 f4 f5 U D F b9 Y O d7 cs eb an;refine wk ?_;exact ag h.o
end
set_option maxHeartbeats 8000000
set_option maxRecDepth 100000
section
variable {L:List Blk}{iv mn mi it:Nat}{nb bn:Int->Nat}{ck ci:Nat}{rs:List TKy}{suf:List Rdn}{last:Int}{l:List aw}
theorem aen(f:TOk suf last l)(m:l.length<=1000000)(a:L[it]?=some (.cells [.ptr iv 0]))(g:aR L iv mn mi nb bn ck ci rs suf last l){k:Int}{dn tn:List Rdn}{v:AV}(c:dnB dn)(e:dnB tn)(j:bI suf l k dn tn≠0){K:aeX}(h:K (.int .i64 (bI suf l k dn tn)) L):
  aeW 31 [.ptr it 0,.agg [.int .i64 k,dnA dn,dnA tn,v]] L K:=by
 have b:it<L.length:=(aeY.1 a).1;have i:∀X:List Blk,(L++X)[it]?=some (.cells [.ptr iv 0]):=λX=>by rw[ae3 b];exact a
 obtain⟨z,d⟩:=aeS (bI suf l k dn tn);have kk1:Hid (∀{X:List Blk}{K:aeX},K (.int .i64 z) (L++X)->aeW 13 [.ptr iv 0,.agg [.int .i64 k,dnA dn,dnA tn,v]] (L++X) K):=@hid _ (by intro X K q;exact G0 f ah3 (g.app X) c e (by rw[d];exact q))
 rw[d]at j h;replace h:=hid h;clear d g f a;refine aeV eD ?_;exact af rfl h.o
theorem aan{l:List aw}{i:Int}{v:List Atr}{x:aw}{nb:Int->Nat}(a:x∈sP l i v):∃y∈l,y.id=x.id/\nb x.id=nb x.id:=by obtain⟨y,b,rfl⟩:=ae1.1 a;exact⟨y,b,by split<;>rfl,rfl⟩
theorem YI(C:TOk suf last l)(q:mn≠mi)(g:l.length<=1000000)(E:0<=last)(D:last<=1000000)(c:L[it]?=some (.cells [.ptr iv 0]))(s:aR L iv mn mi nb bn ck ci rs suf last l){k:Int}{dn tn:List Rdn}{v:List Atr}(f:dnB dn)(d:dnB tn)(o:v.length<=1100000)(r:∀a∈v,a.2.length<=1100000){K:aeX}(h:∀L' j H F n p,aR L' iv mn mi j H F n p suf (doT suf l last k dn tn v).2 (doT suf l last k dn tn v).1->L'[it]?=some (.cells [.ptr iv 0])->aL (OfT iv mn mi nb l) L L'->(∀x∈(doT suf l last k dn tn v).1,(∃y∈l,y.id=x.id/\j x.id=nb x.id)\/L.length<=j x.id)->K (.int .i64 (bI suf l k dn tn)) L'):
  aeW 31 [.ptr it 0,.agg [.int .i64 k,dnA dn,dnA tn,atR v]] L K:=by
 by_cases m:bI suf l k dn tn=0;rotate_left;unfold doT at h;rw[if_pos m]at h;exact aen C g c s f d m (h L _ _ _ _ _ s c (aL.refl L) λx i=>.inl ⟨x,i,rfl,rfl⟩);unfold doT at h;rw[if_neg (λe=>e m)]at h;rw[m]at h;by_cases G:k=1;subst G;rw[if_pos rfl]at h;exact aeq C q g E D c s f d o r m h;rw[if_neg G]at h;have b:=m;unfold bI at b;by_cases I:k<1\/4<k;rw[if_pos I]at b;exact absurd b (by decide);rw[if_neg I,if_neg G]at b;cases i:atE l dn with
 |none=>rw[i]at b;simp at b
 | some x =>
   rw[i]at b;simp only at b;have P:aN l dn=x.id:=(by unfold aN;rw[i]);rw[P]at h;by_cases J:k=2
   .subst J;rw[if_pos rfl]at h;exact aeo C q g c s f d i m λL' n p u t A=>h L' _ _ _ _ _ u t A λy B=>.inl ⟨y,(afB.1 B).1,rfl,rfl⟩
   rw[if_neg J]at h b;by_cases M:k=3
   .subst M;rw[if_pos rfl]at h;exact aep C g c s f d o r i λL' u t A=>h L' _ _ _ _ _ u t A λy B=>.inl (aan B)
   rw[if_neg M]at h b;have Q:k=4:=ah3;subst Q;exact aem C q g c s f d o r i b λL' n p u t A=>h L' _ _ _ _ _ u t A λy B=>.inl (by obtain⟨z,N,R,S⟩:=aan (nb:=nb) B;obtain⟨w,O,rfl⟩:=ae1.1 N;refine⟨w,O,?_,rfl⟩;rw[<- R];split<;>rfl)
theorem ad8(t:TOk suf last l)(p:mn≠mi)(o:l.length<=1000000)(n:0<=last)(m:last<=1000000)(i:L[it]?=some (.cells [.ptr iv 0]))(x:aR L iv mn mi nb bn ck ci rs suf last l){k:Int}{dn tn:List Rdn}{v:List Atr}(g:dnB dn)(r:dnB tn)(j:v.length<=1100000)(q:∀a∈v,a.2.length<=1100000){K:aeX}(h:∀L' b f e c d,aR L' iv mn mi b f e c d suf (doT suf l last k dn tn v).2 (doT suf l last k dn tn v).1->L'[it]?=some (.cells [.ptr iv 0])->aL (OfT iv mn mi nb l) L L'->K (.int .i64 (bI suf l k dn tn)) L'):
 aeW 31 [.ptr it 0,.agg [.int .i64 k,dnA dn,dnA tn,atR v]] L K:=YI t p o n m i x g r j q λL' b f e c d u s w _=>h L' b f e c d u s w
end
variable {L:List Blk}{K:aeX}
set_option maxHeartbeats 8000000
set_option maxRecDepth 100000
theorem Te{P:Program}{f:FuncId}{b:Bool}(h:ac P f [] [] λv _=>v=.bool b)(m:K (.bool b) L):ac P f [] L K:=λw0 S0 E w vs g s=>by
 have j:Rel w ⟨λ_=>False,0⟩ {mem:=E.mem,loc:=λ_=>none,tok:=λ_=>none} [] w:=by
  refine⟨g.mem,?_,λ_ _=>rfl,?_,?_,λ_ _=>rfl,?_,?_,?_,λ_ _ _=>rfl,ae0 _,rfl,rfl,rfl,g.glob,g.gsz⟩
  all_goals intros;simp_all
 have key:∀{E':Env}{L':List Blk}{w':World},Rel w ⟨λ_=>False,0⟩ E' L' w'->QZ w w':=λk=>⟨λb o=>k.frame b o (λx=>x),k.size,k.os,k.tape,k.output⟩
 have l:VRL {mem:=E.mem,loc:=λ_=>none,tok:=λ_=>none} [] vs:=by simpa only[VRL]using s
 rcases h w _ _ w vs j l with⟨i,n⟩|⟨E',v,av,L',w',i,n,q,h4,p⟩;refine .inl ⟨i,n.mono λe w' ⟨E',v,av,L',a,b,c,d,r⟩=>⟨E,v,_,L,a,.refl E,m,?_,g.grown (key r)⟩⟩;subst c;simpa only[VR]using d;refine .inr ⟨E,v,_,L,w',i,.refl E,m,?_,g.grown (key p)⟩;subst q;simpa only[VR]using h4
theorem aR.start(L:List Blk)(d:List Rdn):aR (L++[.map [] 0,.map [] 0,.cells [dnA d,.lmap L.length,.lmap (L.length+1),.int .i64 0],.cells [.ptr (L.length+2) 0]]) (L.length+2) L.length (L.length+1) (λ_=>0) (λ_=>0) 0 0 [] d 0 []:=by refine⟨?_,?_,?_,?_,?_,?_,?_,?_⟩;rw[aff ah3];simp;rw[aff ah3];simp;rw[aff ah3];simp;simp;simp;simp;simp;simp
def Ta(P:Program)(o:aj)(T:Tm)(L:List Blk)(v:AV)(M:List Blk->Prop):Prop :=
 match o.op with
 | .call f xs=>match iR T xs with
   |some args=>ac P f args L λav L'=>av=v/\M L'
   |none=>False
 |_=>False
def EQS(P:Program)(o:aj)(T:Tm)(L:List Blk)(v:AV)(M:List Blk->Prop):Prop :=
 match o.guard with
 |none=>Ta P o T L v M
 | some (t,b)=>match ar T t with
   |some (.bool x)=>if x=b then Ta P o T L v M else v=.tup []/\M L
   |some (.tup [])=>v=.tup []/\M L
   |_=>False
theorem Ta.congr{P:Program}{o:aj}{T T':Tm}{L:List Blk}{v:AV}{M:List Blk->Prop}(b:∀t∈o.op.tmps,ar T t=ar T' t)(a:Ta P o T L v M):Ta P o T' L v M:=by unfold Ta at a⊢;split at a;rename_i f xs e;rw[e]at b;rw[<- jS (l:=xs) b];exact a;omega
theorem EQS.congr{P:Program}{o:aj}{T T':Tm}{L:List Blk}{v:AV}{M:List Blk->Prop}(h:∀t∈o.reads,ar T t=ar T' t)(a:EQS P o T L v M):EQS P o T' L v M:=by
 have c:∀t∈o.op.tmps,ar T t=ar T' t:=λt f=>h t (by simp[aj.reads,f])
 unfold EQS at a⊢;split at a;exact a.congr c;rename_i t b d;rw[<- h t (by simp[aj.reads,d])];split at a;split at a;rename_i e;rw[if_pos e];exact a.congr c;simp[*];omega;omega
theorem Ta.aop{P:Program}{o:aj}{T:Tm}{L:List Blk}{v:AV}{M:List Blk->Prop}(a:Ta P o T L v M):AOp P o (λT' L'=>T'=bC o.dst v T/\M L') T L:=by
 unfold Ta at a;unfold AOp;split at a;rename_i f xs e;simp only[e];split at a;rename_i args c;rw[c];exact ac.mono a λav L' ⟨d,b⟩=>⟨by rw[d],b⟩
 simp_all;simp_all
theorem EQS.aops{P:Program}{o:aj}{T:Tm}{L:List Blk}{v:AV}{M:List Blk->Prop}(a:EQS P o T L v M):mN P (λT' L'=>T'=bC o.dst v T/\M L') [o] T L:=by unfold EQS at a;simp only[mN];split at a;rename_i d;simp only[d];exact a.aop;rename_i t b d;simp only[d];split at a;rename_i x c;rw[c,yT];split at a;rename_i e;rw[if_pos e];exact a.aop;simp[*];rename_i c;rw[c,S9];exact⟨by rw[a.1],a.2⟩;simp_all
section
variable {P:Program}{r:Option Nat}{w0:World}{S0:SB}{N:Nat}{own:Nat->Nat}{ops:Array Oper}{L:List Blk}
end
section
variable {P:Program}{w0:World}{S0:SB}{N:Nat}{own:Nat->Nat->Nat}{Q:Exit->Tm->List Blk->Prop}{T:Tm}{L:List Blk}
end
section
variable {P:Program}{K:Tm->List Blk->Prop}{T:Tm}{d:Option Nat}{op:LOp}{t:Nat}{b:Bool}{r:List (aj×Kd)}{M:List Blk->Prop}{Ms:List (List Blk->Prop)}{v:AV}{c:Prop}
end
set_option maxHeartbeats 8000000
set_option maxRecDepth 100000
def Yo(v:List Atr):Prop:=v.length<=1100000/\∀a∈v,a.2.length<=1100000
structure aeR(L:List Blk)(it iv mn mi rt:Nat)(nb bn:Int->Nat)(ck ci:Nat)(rs:List TKy)(c:Option Nat)(suf:List Rdn)(last:Int)(l:List aw):Prop where
 ok:TOk suf last l
 code:aR L iv mn mi nb bn ck ci rs suf last l
 it:L[it]?=some (.cells [.ptr iv 0])
 rt:L[rt]?=some (.cells [dnA suf,.sl (cK l) l.length c,.int .i64 last])
 ne:mn≠mi
 l0:0<=last
 l1:last<=100
 len:l.length<=100
 av:∀x∈l,Yo x.av
theorem aR.noOf{L:List Blk}{iv mn mi:Nat}{nb bn:Int->Nat}{ck ci:Nat}{rs:List TKy}{suf:List Rdn}{last:Int}{l:List aw}(h:aR L iv mn mi nb bn ck ci rs suf last l){j:Nat}{c:List AV}(b:L[j]?=some (.cells c))(a:c.length≠4\/∃k z r,c=.int k z::r):¬OfT iv mn mi nb l j:=by rintro(e|e|e|⟨x,d,e⟩);rw[e,h.v]at b;simp only[aeZ,Blk.cells.injEq]at b;rcases a with a|⟨k,z,r,a⟩;exact a (by rw[<- b];rfl);rw[<- b]at a;simp[dnA]at a;rw[e,h.n]at b;simp at b;rw[e,h.i]at b;simp at b;rw[e,h.nd x d]at b;simp only[aeZ,Blk.cells.injEq]at b;rcases a with a|⟨k,z,r,a⟩;exact a (by rw[<- b];rfl);rw[<- b]at a;simp[lz,dnA]at a
theorem aR.keep{L:List Blk}{iv mn mi:Nat}{nb bn:Int->Nat}{ck ci:Nat}{rs:List TKy}{suf:List Rdn}{last:Int}{l:List aw}(h:aR L iv mn mi nb bn ck ci rs suf last l){rt:Nat}{c:List AV}(hr:L[rt]?=some (.cells c))(j:c.length=3)(d:aL (λi=>i=rt) L L'):aR L' iv mn mi nb bn ck ci rs suf last l:=by
 have no:¬OfT iv mn mi nb l rt:=h.noOf hr (.inl ah3);have key:∀{i:Nat}{b:Blk},OfT iv mn mi nb l i->L[i]?=some b->L'[i]?=some b:=λ{i b} g e=>d.get e λf=>no (by rw[<- f];exact g)
 exact⟨key (.inl rfl) h.v,key (.inr (.inl rfl)) h.n,key (.inr (.inr (.inl rfl))) h.i,λx a=>key (.inr (.inr (.inr ⟨x,a,rfl⟩))) (h.nd x a),h.keys,h.mem,h.bnd,h.blt⟩
def Ec(L L':List Blk):Prop:=L.length<=L'.length/\∀(j:Nat) (c:List AV),L[j]?=some (Blk.cells c)->c.length=2->L'[j]?=some (Blk.cells c)
theorem Ec.refl(L:List Blk):Ec L L:=⟨ae0 _,λ_ _ h _=>h⟩
theorem Ec.app{L:List Blk}(h:Ec L L')(X:List Blk):Ec L (L'++X):=⟨by have:=h.1;simp;omega,λj c a b=>by have:=h.2 j c a b;rw[ae3 (aeY.1 this).1];exact this⟩
theorem Ec.trans{A B C:List Blk}(h:Ec A B)(g:Ec B C):Ec A C:=⟨afw h.1 g.1,λj c b a=>g.2 j c (h.2 j c b a) a⟩
theorem Ec.row{A L:List Blk}{rt:Nat}{b:List AV}(h:Ec A L)(hr:L[rt]?=some (.cells b))(f:b.length=3)(d:aL (λi=>i=rt) L L'):Ec A L':=h.trans ⟨d.len,λj c a g=>d.get a λe=>by subst e;rw[hr]at a;cases a;omega⟩
structure aaA(u:Upd):Prop where
 dn:XM u.dn/\∀r∈u.dn,∀a∈r,(a.1.length:Int)<=140737488351232
 tw:XM u.tw/\∀r∈u.tw,∀a∈r,(a.1.length:Int)<=140737488351232
 attrs:(u.attrs.length:Int)<=9223372036854775807
 names:∀a∈u.attrs,(a.1.length:Int)<=140737488351232/\(a.2.length:Int)<=9223372036854775807
theorem acJ{d:List Rdn}(h:smD d=true)(c:∀r∈d,∀a∈r,(a.1.length:Int)<=140737488351232):dnM d:=by simp only[smD,ae7,decide_eq_true_eq,afd]at h;refine⟨ah3,λr b=>⟨?_,c r b⟩⟩;have:=h.2 r b;rcases r with _|⟨a,t⟩;simp;simp only[smR,af2,ae7,smA,decide_eq_true_eq]at this;have:=this.1.1;simp only[afg]at this⊢;omega
theorem aeb{u:Upd}(b:aaA u)(h:smU u=true):dnM u.dn/\dnM u.tw/\Yo u.attrs:=by simp only[smU,ae7]at h;obtain⟨g,d,f⟩:=h;obtain⟨i,c⟩:=WR f;exact⟨acJ g b.dn.2,acJ d b.tw.2,ah3,λa e=>by have:=(c a e).1;omega⟩
theorem Xc(us:List Upd):(us.flatMap cP).length=us.length*4:=by
 induction us with
 |nil=>rfl
 |cons u us ih=>rw[afT,afc,ih,afg];simp only[afg,afF];omega
theorem Tl:∀{us:List Upd}{k:Nat},k<us.length->((us.flatMap cP).drop (k*4)).take 4=cP (us.getD k OA)
 |u::us,0,_=>by rw[afT];rfl
 |u::us,k+1,h=>by have a:=Tl (us:=us) (k:=k) (by simpa using h);rw[afT,Nat.succ_mul];show((us.flatMap cP).drop (k*4)).take 4=_;rw[a];rfl
abbrev acy:=Int×Int×Nat
structure Tc(rs:List acy)(W:List Int):Prop where
 nd:(rs.map (·.1)).Nodup
 val:∀r∈rs,r.2.1=(W.count r.1:Int)/\r.1∈W
 all:∀id∈W,id∈rs.map (·.1)
theorem Tc.nil:Tc [] []:=⟨agX,ah4,ah4⟩
theorem Tc.get{rs:List acy}(h:Tc rs W)(id:Int):(rs.findIdx? (λr=>decide (r.1=id))=none/\id∉W)\/∃n,n<rs.length/\rs.findIdx? (λr=>decide (r.1=id))=some n/\(rs.getD n (0,0,0)).1=id/\(rs.getD n (0,0,0)).2.1=(W.count id:Int):=by
 rcases hf:rs.findIdx? (λr=>decide (r.1=id))with _|n;refine .inl ⟨hf,λf=>?_⟩;obtain⟨r,hr,e⟩:=ae1.1 (h.all id f);have a:=hf;rw[ahU]at a;have:=a r hr;simp[e]at this;have a:=hf;rw[aho]at a;obtain⟨b,c,_⟩:=a;rw[decide_eq_true_eq]at c;have d:rs.getD n (0,0,0)=rs[n]:=by simp[b]
 refine .inr ⟨n,b,hf,by rw[d];exact c,?_⟩;rw[d,(h.val rs[n] (age b)).1,c]
theorem Tc.new{rs:List acy}(h:Tc rs W){id:Int}(c:id∉W)(a ck:Nat)(n:0<a):Tc (rs++[(id,(a:Int),ck)]) (W++List.replicate a id):=by
 have d:id∉rs.map (·.1):=λj=>by obtain⟨r,hr,e⟩:=ae1.1 j;exact c (e▸(h.val r hr).2)
 refine⟨?_,λr hr=>?_,λk b=>?_⟩;rw[afk,agq];refine⟨h.nd,ah4,λx m y i=>?_⟩;simp only[afe,afQ,afl]at i;rw[i];exact λe=>d (e▸m)
 rcases ae2.1 hr with hr|hr;obtain⟨l,g⟩:=h.val r hr;have f:¬id=r.1:=λe=>c (e▸g)
 refine⟨?_,af9 _ g⟩;rw[l,List.count_append,aht];simp[f];rw[afl.1 hr];refine⟨?_,agx _ (by simp;omega)⟩;simp only;rw[List.count_append,aht,List.count_eq_zero.2 c];simp;rw[afk];rcases ae2.1 b with b|b;exact af9 _ (h.all k b);rw[ahV b];simp
theorem Tc.len{rs:List acy}(h:Tc rs W)(b:ids.Nodup)(d:∀x,x∈W↔x∈ids):rs.length=ids.length:=by
 have c:(rs.map (·.1)).Perm ids:=(List.perm_ext_iff_of_nodup h.nd b).2 λx=>by rw[<- d x];constructor;intro a;obtain⟨r,hr,e⟩:=ae1.1 a;exact e▸(h.val r hr).2;exact h.all x
 have:=c.length_eq;rwa[ae6]at this
theorem WA:∀{a b:Pth},a <+: b->a≠b->pLt a b=true
 |[],[],_,h=>absurd rfl h
 |[],y::b,_,_=>by show decide ((-1:Int)<0)=true;decide
 |x::a,[],h,_=>by simp at h
 |x::a,y::b,h,hne=>by rw[List.cons_prefix_cons]at h;obtain⟨rfl,h⟩:=h;have c:=WA h (λe=>hne (by rw[e]));unfold pLt at c⊢;unfold cpP;rw[Us];simpa using c
theorem Wd{suf:List Rdn}{last:Int}{l:List aw}(a:TOk suf last l):∀(n:Nat) (x:aw),x∈l->(NK x.nm).length<=n->∃r∈l,NK r.nm=NK suf
 |0,x,hx,hn=>by have b:=a.inv.un _ (cH hx);have d:NK x.nm=[]:=List.eq_nil_of_length_eq_zero ah3;rw[d]at b;exact absurd (ahB.1 b) a.inv.sne
 | n+1,x,hx,hn=>by
   rcases a.inv.par _ (cH hx)with b|⟨k,c,e⟩
   .exact⟨x,hx,b⟩
   .obtain⟨y,hy,rfl⟩:=ae1.1 c;refine Wd a n y hy ?_;simp only at e;rw[e,agA];omega
theorem ad7{suf:List Rdn}{last:Int}{l:List aw}(a:TOk suf last l){r:aw}(hr:r∈l)(e:NK r.nm=NK suf)(b:y∈l):fA r 2 y=true:=by unfold fA;rw[cQ.2 ⟨a.ok y b,a.ok r hr,by rw[e];exact a.inv.un _ (cH b)⟩];simp
theorem aa5{suf:List Rdn}{last:Int}{l:List aw}(c:TOk suf last l){r:aw}(hr:r∈l)(e:NK r.nm=NK suf):(scL l r 2).Perm l:=by
 have d:l.filter (fA r 2)=l:=ahQ.2 λy b=>ad7 c hr e b
 have a:(scL l r 2).Perm (l.filter (fA r 2)):=aga _ _;rwa[d]at a
open Go Go.ChangeShapes
theorem abx:RdZ Tryz.prog 72 GR (λa=>a.1.length<=reachBytes):=
 (Ju Tryz.underlying72 (N:=2) ah5 (j8 (sz:=1) rfl ah5 (Pc Tryz.underlying9) (j8 (sz:=1) rfl ah5 (Pc Tryz.underlying9) (PF rfl)))).map
  λy b=>⟨(y.1,y.2.1),b.1,rfl⟩
theorem abw:RdZ Tryz.prog 74 (λr:Rdn=>[aH r]) (λr=>r.length<=maxLen/\∀a∈r,a.1.length<=reachBytes):=
 (qS Tryz.underlying74 abx ah5).map λl b=>⟨l,b,rfl⟩
theorem Zf:RdZ Tryz.prog 24 (λd:List Rdn=>[dnA d]) (λd=>XM d/\∀r∈d,∀a∈r,(a.1.length:Int)<=140737488351232):=
 (qS Tryz.underlying24 abw ah5).map fun l hl=>⟨l,⟨⟨by have:=hl.1;simp only [maxLen] at this;omega,fun r hr=>by have:=(hl.2 r hr).1;simp only [maxLen] at this;omega⟩,fun r hr a ha=>by have:=(hl.2 r hr).2 a ha;simp only [reachBytes] at this;omega⟩,by
  have e:∀l:List Rdn,l.map aH=l.flatMap λr=>[aH r]:=λl=>by
   induction l with
   |nil=>rfl
   |cons a l ih=>rw[afe,afT,ih];rfl
  simp only[dnA,e l]⟩
theorem Ze:RdZ Tryz.prog 56 (λl:List (List UInt8)=>[abt l]) (λl=>l.length<=maxLen):=
 (qS Tryz.underlying56 (Pc Tryz.underlying9) ah5).map fun l hl=>⟨l,hl.1,by
  have e:∀l:List (List UInt8),l.map AV.str=l.flatMap λr=>[AV.str r]:=λl=>by
   induction l with
   |nil=>rfl
   |cons a l ih=>rw[afe,afT,ih];rfl
  simp only[abt,e l]⟩
theorem aby:RdZ Tryz.prog 106 atA (λa=>a.1.length<=reachBytes/\a.2.length<=maxLen):=
 (Ju Tryz.underlying106 (N:=2) ah5 (j8 (sz:=1) rfl ah5 (Pc Tryz.underlying9) (j8 (sz:=1) rfl ah5 Ze (PF rfl)))).map
  λy b=>⟨(y.1,y.2.1),⟨b.1,b.2.1⟩,rfl⟩
theorem Zd:RdZ Tryz.prog 27 cP aaA :=
 (Ju Tryz.underlying27 (N:=4) ah5 (j8 (sz:=1) rfl ah5 (Rd.z (adk Tryz.underlying3)) (j8 (sz:=1) rfl ah5 Zf (j8 (sz:=1) rfl ah5 Zf (j8 (sz:=1) rfl ah5 (qS Tryz.underlying25 aby ah5) (PF rfl)))))).map
  λy b=>⟨⟨y.1,y.2.1,y.2.2.1,y.2.2.2.1⟩,⟨b.2.1,b.2.2.1,by have:=b.2.2.2.1.1;simp only[maxLen]at this⊢;omega,λa d=>by obtain⟨c,e⟩:=b.2.2.2.1.2 a d;simp only[maxLen]at e;simp only[reachBytes]at c;omega⟩,rfl⟩
theorem Xy:RdZ Tryz.prog 22 (λl:List Upd=>[.sl (l.flatMap cP) l.length none]) (λl=>(l.length:Int)<=9223372036854775807/\∀u∈l,aaA u):=
 (qS Tryz.underlying22 Zd ah5).map λl a=>⟨l,⟨by have:=a.1;simp only[maxLen]at this;omega,a.2⟩,rfl⟩
def cJ(suf:List Rdn)(l:List aw):List aw:=match atE l suf with|some r=>scL l r 2|none=>[]
theorem W0{suf:List Rdn}{last:Int}{l:List aw}(a:TOk suf last l):scT l (aN l suf) 2=(cJ suf l).map (·.id):=by
 unfold cJ aN;rcases h:atE l suf with _|r;have:Ef l 0=none:=by rcases he:Ef l 0 with _|y;rfl;obtain⟨b,c⟩:=Yc he;have:=(a.ids y b).1;omega
 unfold scT;simp only[this];rfl;exact Pz (a.ent (bi h).2.1)
theorem Mq{suf:List Rdn}{l:List aw}(h:x∈cJ suf l):x∈l:=by unfold cJ at h;split at h;exact(afB.1 ((aga _ _).mem_iff.1 h)).1;cases h
theorem GT(suf:List Rdn)(l:List aw):(cJ suf l).length<=l.length:=by unfold cJ;split;exact Sf _ _ _;simp
def wa(x:aw):Upd:=⟨1,x.nm,[],x.av⟩
def s7(ws:List aw):List (List UInt8):=ws.map λx=>(wrU (wa x)).1
theorem adC{L:List Blk}{iv mn mi:Nat}{nb bn:Int->Nat}{ck ci:Nat}{rs:List TKy}{suf:List Rdn}{last:Int}{l:List aw}(r:TOk suf last l)(V:l.length<=1000000)(A:∀x∈l,Yo x.av)(D:∀x∈l,jm (wa x))(B:aR L iv mn mi nb bn ck ci rs suf last l){K:aeX}(h:K (.sl ((s7 (cJ suf l)).map AV.str) (cJ suf l).length none) L):
  aeW 30 [.ptr iv 0] L K:=by
 have v:=r.sok.m.b;obtain⟨s,G⟩:=aeS (aN l suf);obtain⟨ws,d⟩:=aeS (cJ suf l);have t:=W0 r;rw[G,d]at t;have P:ws.length<=l.length:=by rw[<- d];exact GT _ _
 have a:∀x∈ws,x∈l:=λx g=>Mq (by rw[d];exact g)
 rw[d]at h;have kk1:Hid (∀{K:aeX},K (dnA suf) L->aeW 33 [.ptr iv 0] L K):=@hid _ (by intro K q;exact YH v B q);have kk2:Hid (∀{K:aeX},K (.int .i64 s) L->aeW 26 [.ptr iv 0,dnA suf] L K):=@hid _ (by intro K q;exact mO v r B (by rw[G];exact q))
 obtain⟨E,k⟩:=aeS ((ws.map (·.id)).map (AV.int .i64));have kk3:Hid (∀{K:aeX},K (.sl E ws.length none) L->aeW 32 [.ptr iv 0,.int .i64 s,.int .i64 2] L K):=@hid _ (by intro K q;exact J6 r ah3 B (by rw[t,ae6,k];exact q))
 have N:E.length=ws.length:=by rw[<- k];simp
 have J:Hid (∀i,i<ws.length->E.getD i .undef=.int .i64 (ws.getD i default).id):=hid (λi T=>by rw[<- k,afh,afh];simp[T])
 have O:Hid (∀x∈ws,∀{X:List Blk}{K:aeX},K (.tup [dnA x.nm,.sl (bj x.av) x.av.length none]) (L++X)->aeW 34 [.ptr iv 0,.int .i64 x.id] (L++X) K):=hid (λx g {X K} q=>by refine Tj r A (B.app X) (λe=>?_) (λy e=>?_);rw[r.ent (a x g)]at e;cases e;rw[r.ent (a x g)]at e;cases e;exact q)
 have Q:Hid (∀x∈ws,∀{c:Option Nat}{L:List Blk}{K:aeX},K (.tup [.str (wrU (wa x)).1,.int .i64 (wrU (wa x)).2]) L->aeW 14 [.agg [.int .i64 1,dnA x.nm,.sl [] 0 c,.sl (bj x.av) x.av.length none]] L K):=hid (λx g {c L K} q=>by
  refine cL ?_;have e:AV.frzL [.agg [.int .i64 1,dnA x.nm,.sl [] 0 c,.sl (bj x.av) x.av.length none]]=[AV.agg (cP (wa x))]:=by simp only[AV.frzL,AV.frz,dnA,ce,oe,cP,wa];rfl
  rw[e];exact Sb (u:=wa x) (r.ok x (a x g)).m.b ⟨by simp[wa],by simp[wa]⟩ (D x (a x g)) q)
 replace h:=hid h;clear A D B r v G d t k a;refine aeV Na ?_;clear kk1 kk2 kk3;refine cG (l:=[]) (n:=0) 3 1 rfl (afD 1).symm ?_;refine ao (λm T' L'=>∃(j:Nat) (C:List AV) (X:List Blk),m=ws.length-j/\j<=ws.length/\Hid (C=(s7 (ws.take j)).map AV.str)/\T'=[(17,.int .i64 (j:Int)),(16,.int .i64 ws.length),(15,.sl E ws.length none),(3,.gsl C j L.length 1),(0,.ptr iv 0)]/\L'=L++(.spare j 1::X)) ah7 ⟨0,[],[],rfl,ae5 _,hid rfl,rfl,ah4⟩ ?_;rintro _ _ _ ⟨j,C,X,rfl,hj,z,rfl,rfl⟩;by_cases f:j<ws.length;have W:(j:Int)<(ws.length:Int):=ah3;have Z:=aeU j ah3;have S:=J.o j f;have U:j<E.length:=ah3;have p:ws.getD j default∈ws:=by simp[f]
 obtain⟨x,g⟩:=aeS (ws.getD j default);rw[g]at S p;have kk1:=@hid _ (λ{X:List Blk}{K:aeX}=>O.o x p (X:=X) (K:=K));have kk2:=@hid _ (λ{c:Option Nat}{L:List Blk}{K:aeX}=>Q.o x p (c:=c) (L:=L) (K:=K));have F:Hid (C++[.str (wrU (wa x)).1]=(s7 (ws.take (j+1))).map AV.str):=hid (by have:ws[j]=x:=(by rw[<- g];simp[f]);rw[afs f,this];unfold s7 at z⊢;rw[afk,afk,<- z.o];rfl)
 obtain⟨⟨w,Y⟩,M⟩:∃q,wrU (wa x)=q:=⟨_,rfl⟩;rw[M]at kk2 F;clear g p z M;refine wk ?_;exact ah8 ah3 ah6 ⟨j+1,_,_,rfl,f,F,rfl,rfl⟩;have I:j=ws.length:=ah3;subst I;have W:¬(ws.length:Int)<(ws.length:Int):=ah3;have R:=jF (s7 ws);rw[afo]at z;have H:=z.o;subst H;clear z;refine wk ?_;refine aB ?_;simp only[AV.frz,R];refine af ?_ h.o;simp only[AV.refs,j6]
set_option maxHeartbeats 1000000
abbrev cC(n:Nat)(lim:Int):Int:=if(n:Int)<lim then(n:Int)else lim
structure J2(L:List Blk)(dp lp wp:Nat)(lim:Int)(S:List Sec):Prop where
 d:∃cp x y z,L[dp]?=some (.cells (gl lp wp S.length cp lim false 0 x y z))
 l:L[lp]?=some (.cells (S.map AV.str))
 w:∃ck,L[wp]?=some (.map [] ck)
 n4:4<=S.length
 n8:S.length<=8192
 all:∀s∈S,s.length=128
 lm:0<=lim/\lim<=9000
theorem J2.ne{L:List Blk}{dp lp wp:Nat}{lim:Int}{S:List Sec}(h:J2 L dp lp wp lim S):dp≠lp/\dp≠wp/\lp≠wp:=by
 obtain⟨cp,x,y,z,hd⟩:=h.d;obtain⟨ck,b⟩:=h.w;have a:=h.l;refine⟨λe=>?_,λe=>?_,λe=>?_⟩;rw[e,a]at hd;have h4:=h.n4
 match S,h4 with
 |s::t,_=>simp at hd
 rw[e,b]at hd;simp at hd;rw[e,b]at a;simp at a
structure Ej(L:List Blk)(jp dp lp wp:Nat)(lim:Int)(S:List Sec)(j:Jst)(recs:List (List UInt8)):Prop where
 k:J2 L dp lp wp lim S
 jb:L[jp]?=some (.cells (kH dp j false))
 inv:QY az S j recs
abbrev OfJ(jp lp wp i:Nat):Prop:=i=jp\/i=lp\/i=wp
theorem Ej.ne{L:List Blk}{jp dp lp wp:Nat}{lim:Int}{S:List Sec}{j:Jst}{recs:List (List UInt8)}(h:Ej L jp dp lp wp lim S j recs):jp≠dp/\jp≠lp/\jp≠wp:=by
 obtain⟨cp,x,y,z,hd⟩:=h.k.d;obtain⟨ck,b⟩:=h.k.w;have c:=h.k.l;have a:=h.jb;refine⟨λe=>?_,λe=>?_,λe=>?_⟩;rw[e,hd]at a;simp at a;rw[e,c]at a;have h4:=h.k.n4
 match S,h4 with
 |s::t,_=>simp at a
 rw[e,b]at a;simp at a
theorem J2.keep{L M:List Blk}{dp lp wp:Nat}{lim:Int}{S:List Sec}(h:J2 L dp lp wp lim S)(e:∀i,i=dp\/i=lp\/i=wp->M[i]?=L[i]?):J2 M dp lp wp lim S:=by obtain⟨cp,x,y,z,hd⟩:=h.d;obtain⟨ck,a⟩:=h.w;exact⟨⟨cp,x,y,z,by rw[e dp (.inl rfl)];exact hd⟩,by rw[e lp (.inr (.inl rfl))];exact h.l,⟨ck,by rw[e wp (.inr (.inr rfl))];exact a⟩,h.n4,h.n8,h.all,h.lm⟩
theorem Ej.keep{L M:List Blk}{jp dp lp wp:Nat}{lim:Int}{S:List Sec}{j:Jst}{recs:List (List UInt8)}(h:Ej L jp dp lp wp lim S j recs)(e:∀i,i=dp\/OfJ jp lp wp i->M[i]?=L[i]?):Ej M jp dp lp wp lim S j recs :=
 ⟨h.k.keep λi q=>e i (q.elim .inl λq=>.inr (.inr q)),by rw[e jp (.inr (.inl rfl))];exact h.jb,h.inv⟩
theorem P5{S ss:List Sec}{a:Nat}(c:∀s∈S,s.length=128)(d:∀s∈ss,s.length=128):∀s∈fU S a ss,s.length=128:=λs b=>by unfold fU at b;rcases ae2.1 b with b|b;exact c s (ahd b);rcases ae2.1 b with b|b;exact d s b;exact c s (agv b)
theorem Qy:∀s,az s<2^32:=SJ
theorem aay{gen:Nat}(e:1<=gen/\gen<2^32)(g:bs.length<=1000000)(d:∀b∈bs,b.length<=262144):∀s∈(gE gen 0 bs).map (fF az),s.length=128:=λs f=>by obtain⟨c,a,rfl⟩:=ae1.1 f;exact Ke c (Mr e bs 0 ah3 d c a).1.len
theorem Za{S:List Sec}{j:Jst}(h:(aV az S room j bs).1≠0):((aV az S room j bs).1=5\/(aV az S room j bs).1=11)/\(aV az S room j bs).2=(j,S):=by unfold aV at h⊢;split;exact⟨.inl rfl,rfl⟩;split;exact⟨.inr rfl,rfl⟩;rename_i a b;rw[if_neg a,if_neg b]at h;exact absurd rfl h
theorem adM{S:List Sec}{j:Jst}{b:List UInt8}(h:(iK az S room j b).1≠0):((iK az S room j b).1=5\/(iK az S room j b).1=11)/\(iK az S room j b).2=(j,S):=by unfold iK at h⊢;split;exact⟨.inl rfl,rfl⟩;split;exact⟨.inr rfl,rfl⟩;rename_i a b;rw[if_neg a,if_neg b]at h;exact absurd rfl h
theorem Rx{S:List Sec}{j:Jst}(g:∀s∈S,s.length=128)(i:S.length<=8192)(h:(aV az S room j bs).1=0):(∀s∈(aV az S room j bs).2.2,s.length=128)/\(aV az S room j bs).2.1.gen=j.gen+1:=by
 unfold aV at h⊢;split;rename_i a;rw[if_pos a]at h;cases h;split;rename_i a b;rw[if_neg a,if_pos b]at h;cases h;rename_i a b;simp only[not_or,Nat.not_lt]at b;have k:=mA bs;have d:aQ S.length=(S.length-2)/2:=rfl;have e:∀x∈bs,x.length<=262144:=λx c=>by rw[Bool.not_eq_true,agI]at a;have:=a x c;simpa using this
 exact⟨P5 (P5 g (aay ⟨ah3,ah3⟩ ah3 e)) (λs f=>by rw[afl.1 f];exact Tr _ _),rfl⟩
theorem acr{S:List Sec}{j:Jst}{b:List UInt8}(a:∀s∈S,s.length=128)(e:1<=j.gen/\j.gen<2^32)(f:j.n<2^32):(∀s∈(iK az S room j b).2.2,s.length=128)/\(iK az S room j b).2.1.gen=j.gen:=by unfold iK;split;exact⟨a,rfl⟩;split;exact⟨a,rfl⟩;refine⟨P5 a λs g=>?_,rfl⟩;obtain⟨c,d,rfl⟩:=ae1.1 g;exact Ke c (QP e f ah3 c d).len
section
variable {L:List Blk}{jp dp lp wp:Nat}{lim:Int}{S:List Sec}{j:Jst}{recs:List (List UInt8)}
theorem Ej.small(h:Ej L jp dp lp wp lim S j recs):j.used<=4095/\j.n<=4095/\recs.length<=4095:=by have c:=h.inv.used;have a:=h.inv.n;have b:=mA recs;have h4:=h.k.n8;have:aQ S.length=(S.length-2)/2:=rfl;omega
theorem RT(h:Ej L jp dp lp wp lim S j recs){bs:List (List UInt8)}{c:Option Nat}(J:bs.length<=1000000){K:aeX}(s:∀M G u a,Ej M jp dp lp wp lim G u a->G.length=S.length->u.gen<=j.gen+1->((aV az S (cC S.length lim) j bs).1=0->a=bs)->((aV az S (cC S.length lim) j bs).1≠0->a=recs/\u=j/\((aV az S (cC S.length lim) j bs).1=5\/(aV az S (cC S.length lim) j bs).1=11))->(∀i,¬OfJ jp lp wp i->i<L.length->M[i]?=L[i]?)->L.length<=M.length->K (.int .i64 (aV az S (cC S.length lim) j bs).1) M):
  aeW 29 [.ptr jp 0,.sl (bs.map AV.str) bs.length c] L K:=by
 obtain⟨E,H,a3⟩:=h.k.ne;obtain⟨a4,a5,N⟩:=h.ne;obtain⟨cp,x,y,z,hd⟩:=h.k.d;obtain⟨ck,I⟩:=h.k.w;obtain⟨D,b⟩:=aeS (aV az S (cC S.length lim) j bs);rw[b]at s;refine T7 h.jb hd h.k.l I E H a3 a5 N a4 h.k.n8 h.k.n4 h.inv.half h.k.lm.2 J (λM m p o F t C=>?_);have v:M[dp]?=L[dp]?:=t dp (Ne.symm a4) E H (aeY.1 hd).1;rw[show aV az S (cC S.length lim) j bs=D from b]at p o⊢;by_cases e:D.1=0;obtain⟨n,f⟩:=Rw (room:=cC S.length lim) (bs:=bs) Qy (h.inv.old Qy h.k.n8) h.k.n8 (by rw[b];exact e);obtain⟨A,B⟩:=Rx (room:=cC S.length lim) (j:=j) (bs:=bs) h.k.all h.k.n8 (by rw[b];exact e);rw[b]at n f A B;refine s M _ _ bs ⟨⟨⟨cp,x,y,z,?_⟩,o,⟨m,F⟩,by rw[f];exact h.k.n4,by rw[f];exact h.k.n8,A,h.k.lm⟩,p,n⟩ f (by rw[B];exact ae0 _) (λ_=>rfl) (λq=>absurd e q) (λi g r=>t i (λe=>g (.inl e)) (λe=>g (.inr (.inl e))) (λe=>g (.inr (.inr e))) r) C;rw[v,f];exact hd;obtain⟨n,f⟩:=Za (S:=S) (room:=cC S.length lim) (j:=j) (bs:=bs) (by rw[b];exact e);rw[b]at n f;rw[f]at p o;exact s M S j recs ⟨⟨⟨cp,x,y,z,by rw[v];exact hd⟩,o,⟨m,F⟩,h.k.n4,h.k.n8,h.k.all,h.k.lm⟩,p,h.inv⟩ rfl (agU _) (λq=>absurd q e) (λ_=>⟨rfl,rfl,n⟩) (λi g r=>t i (λe=>g (.inl e)) (λe=>g (.inr (.inl e))) (λe=>g (.inr (.inr e))) r) C
theorem Qa(h:Ej L jp dp lp wp lim S j recs){b:List UInt8}{K:aeX}(s:∀M v u a,Ej M jp dp lp wp lim v u a->v.length=S.length->u.gen=j.gen->((iK az S (cC S.length lim) j b).1=0->a=recs++[b])->((iK az S (cC S.length lim) j b).1≠0->a=recs/\v=S/\u=j/\((iK az S (cC S.length lim) j b).1=5\/(iK az S (cC S.length lim) j b).1=11))->(∀i,¬OfJ jp lp wp i->i<L.length->M[i]?=L[i]?)->L.length<=M.length->K (.int .i64 (iK az S (cC S.length lim) j b).1) M):
  aeW 28 [.ptr jp 0,.str b] L K:=by
 obtain⟨F,H,a3⟩:=h.k.ne;obtain⟨a4,a5,J⟩:=h.ne;obtain⟨cp,x,y,z,hd⟩:=h.k.d;obtain⟨ck,I⟩:=h.k.w;obtain⟨O,N,P⟩:=h.small;obtain⟨E,c⟩:=aeS (iK az S (cC S.length lim) j b);rw[c]at s;refine XR h.jb hd h.k.l I F H a3 a5 J a4 h.k.n8 h.k.n4 h.inv.half ah3 h.k.lm.1 h.k.lm.2 h.inv.gen ah3 (λM m p o G t D=>?_);have A:M[dp]?=L[dp]?:=t dp (Ne.symm a4) F H (aeY.1 hd).1;obtain⟨B,C⟩:=acr (S:=S) (room:=cC S.length lim) (j:=j) (b:=b) h.k.all h.inv.gen ah3;rw[c]at B C;rw[show iK az S (cC S.length lim) j b=E from c]at p o⊢;by_cases e:E.1=0;obtain⟨n,f⟩:=acq (room:=cC S.length lim) (b:=b) Qy h.inv h.k.n8 (by rw[c];exact e);rw[c]at n f;refine s M _ _ (recs++[b]) ⟨⟨⟨cp,x,y,z,?_⟩,o,⟨m,G⟩,by rw[f];exact h.k.n4,by rw[f];exact h.k.n8,B,h.k.lm⟩,p,n⟩ f C (λ_=>rfl) (λq=>absurd e q) (λi g r=>t i (λe=>g (.inl e)) (λe=>g (.inr (.inl e))) (λe=>g (.inr (.inr e))) r) D;rw[A,f];exact hd;obtain⟨n,f⟩:=adM (S:=S) (room:=cC S.length lim) (j:=j) (b:=b) (by rw[c];exact e);rw[c]at n f;rw[f]at p o;exact s M S j recs ⟨⟨⟨cp,x,y,z,by rw[A];exact hd⟩,o,⟨m,G⟩,h.k.n4,h.k.n8,h.k.all,h.k.lm⟩,p,h.inv⟩ rfl rfl (λq=>absurd q e) (λ_=>⟨rfl,rfl,rfl,n⟩) (λi g r=>t i (λe=>g (.inl e)) (λe=>g (.inr (.inl e))) (λe=>g (.inr (.inr e))) r) D
end
end Go.Proofs.YtajkbcmleihaoaaGreatDoor.Av
