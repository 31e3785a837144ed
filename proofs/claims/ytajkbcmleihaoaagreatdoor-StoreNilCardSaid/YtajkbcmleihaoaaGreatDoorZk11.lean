/- Joined texts of the walk, made small by a program. -/
import Derived.Test.YtajkbcmleihaoaaGreatDoorZk10
import Derived.Test.YtajkbcmleihaoaaGreatDoorZk7
import Derived.Test.YtajkbcmleihaoaaGreatDoorZk8
import Derived.Test.YtajkbcmleihaoaaGreatDoorZk6
import Derived.Test.YtajkbcmleihaoaaGreatDoorZk5
import Derived.Test.YtajkbcmleihaoaaGreatDoorZk4
import Derived.Test.YtajkbcmleihaoaaGreatDoorRows
import Derived.KernelRfl
set_option linter.unusedSimpArgs false
set_option linter.unusedVariables false
namespace Go.Proofs.YtajkbcmleihaoaaGreatDoor.Av
open Go
variable {x y:aA}{dn tn:List Rdn}{k room:Int}{ids W:List Int}{i:Nat}{L':List Blk}{bs:List (List UInt8)}
set_option maxHeartbeats 8000000
set_option maxRecDepth 100000
def cc(kd:Int->Int)(x:aA):List AV:=[dnA x.nm,.sl (ax (pth x)) x.nm.length none,atR x.av,.int .i64 (kd x.id)]
structure bc(L:List Blk)(iv mn mi:Nat)(nb bn:Int->Nat)(ck ci:Nat)(rs:List TKy)(suf:List Rdn)(last:Int)(l lk:List aA)(kd:Int->Int):Prop where
 v:L[iv]?=some (.cells [dnA suf,.lmap mn,.lmap mi,.int .i64 last])
 n:L[mn]?=some (.map (l.map (eO nb bn)) ck)
 i:L[mi]?=some (.map (rs.map kyA) ci)
 nd:∀x∈l,L[nb x.id]?=some (.cells (cc kd x))
 inj:∀x∈l,∀y∈l,nb x.id=nb y.id->x.id=y.id
 keys:(rs.map (·.1)).Nodup
 mem:∀k id,(∃b,(k,id,b)∈rs)↔∃x∈lk,aN true x.nm=k/\x.id=id
 bnd:(l.map λx=>bn x.id).Nodup
 blt:∀x∈l,bn x.id<ck
theorem TOk.kidsE{suf:List Rdn}{last:Int}{l:List aA}(h:TOk suf last l)(a:x∈l):ja l x.id=aP (cU l) (NK x.nm):=by unfold ja;rw[h.ent a]
theorem aU.toK{L:List Blk}{iv mn mi:Nat}{nb bn:Int->Nat}{ck ci:Nat}{rs:List TKy}{suf:List Rdn}{last:Int}{l:List aA}(h:aU L iv mn mi nb bn ck ci rs suf last l)(k:TOk suf last l):bc L iv mn mi nb bn ck ci rs suf last l l (λid=>(ja l id:Nat)):=by
 have nd:∀x∈l,L[nb x.id]?=some (.cells (cc (λid=>(ja l id:Nat)) x)):=λx c=>by rw[h.nd x c];unfold kP cc;dsimp only;rw[k.kidsE c]
 refine⟨h.v,h.n,h.i,nd,λx c y j e=>?_,h.keys,h.mem,h.bnd,h.blt⟩;have d:=h.nd x c;have m:=h.nd y j;rw[e,m]at d;have g:kP l y=kP l x:=by injection d with d;injection d
 unfold kP at g;simp only[ad7,AV.sl.injEq]at g;have h4:ax (pth y)=ax (pth x):=g.2.1.1;have o:pth y=pth x:=(List.map_inj_right λa b f=>by injection f).1 h4;rw[k.byN j c (PA o)]
theorem bc.toT{L:List Blk}{iv mn mi:Nat}{nb bn:Int->Nat}{ck ci:Nat}{rs:List TKy}{suf:List Rdn}{last:Int}{l:List aA}{kd:Int->Int}(h:bc L iv mn mi nb bn ck ci rs suf last l l kd)(b:∀x∈l,kd x.id=(aP (cU l) (NK x.nm):Nat)):aU L iv mn mi nb bn ck ci rs suf last l :=
 ⟨h.v,h.n,h.i,λx a=>by rw[h.nd x a];unfold cc kP;rw[b x a],h.keys,h.mem,h.bnd,h.blt⟩
theorem bc.app{L:List Blk}{iv mn mi:Nat}{nb bn:Int->Nat}{ck ci:Nat}{rs:List TKy}{suf:List Rdn}{last:Int}{l lk:List aA}{kd:Int->Int}(h:bc L iv mn mi nb bn ck ci rs suf last l lk kd)(X:List Blk):bc (L++X) iv mn mi nb bn ck ci rs suf last l lk kd:=by
 have key:∀{i:Nat}{b:Blk},L[i]?=some b->(L++X)[i]?=some b:=λ{i b} e=>by rw[abC (aby.1 e).1];exact e
 exact⟨key h.v,key h.n,key h.i,λx a=>key (h.nd x a),h.inj,h.keys,h.mem,h.bnd,h.blt⟩
section
variable {L:List Blk}{iv mn mi:Nat}{nb bn:Int->Nat}{ck ci:Nat}{rs:List TKy}{suf:List Rdn}{last:Int}{l lk:List aA}{kd:Int->Int}
def OfT(iv mn mi:Nat)(nb:Int->Nat)(l:List aA)(i:Nat):Prop:=i=iv\/i=mn\/i=mi\/∃x∈l,i=nb x.id
structure aL(B:Nat->Prop)(L L':List Blk):Prop where
 len:L.length<=L'.length
 eq:∀i,i<L.length->¬B i->L'[i]?=L[i]?
theorem aL.refl{B:Nat->Prop}(L:List Blk):aL B L L:=⟨abA _,λ_ _ _=>rfl⟩
theorem aL.app{B:Nat->Prop}(L X:List Blk):aL B L (L++X):=⟨aev,λi a _=>abC a⟩
theorem aL.trans{B:Nat->Prop}{L L1 L2:List Blk}(h:aL B L L1)(g:aL B L1 L2):aL B L L2:=⟨aca h.len g.len,λi a b=>by rw[g.eq i (acH a h.len) b,h.eq i a b]⟩
theorem aL.set{B:Nat->Prop}(L:List Blk){j:Nat}(c:B j)(b:Blk):aL B L (L.set j b):=⟨aev,λi d a=>abE (λe=>a (by rw[<- e];exact c))⟩
theorem aL.weak{B b:Nat->Prop}{L L':List Blk}(h:aL B L L')(d:∀i,i<L.length->B i->b i):aL b L L':=⟨h.len,λi a c=>h.eq i a λe=>c (d i a e)⟩
theorem aL.trans2{B c:Nat->Prop}{L L1 L2:List Blk}(h:aL B L L1)(g:aL c L1 L2)(d:∀i,i<L.length->c i->B i):aL B L L2:=⟨aca h.len g.len,λi a b=>by rw[g.eq i (acH a h.len) (λe=>b (d i a e)),h.eq i a b]⟩
theorem aL.get{B:Nat->Prop}{L L':List Blk}(h:aL B L L'){i:Nat}{b:Blk}(a:L[i]?=some b)(c:¬B i):L'[i]?=some b:=by rw[h.eq i (aby.1 a).1 c];exact a
theorem bc.node(h:bc L iv mn mi nb bn ck ci rs suf last l lk kd)(id:Int):
  (zW l id=none/\bF (.int .i64 id) (l.map (eO nb bn)) 0=some none)\/∃x n,zW l id=some x/\x∈l/\x.id=id/\bF (.int .i64 id) (l.map (eO nb bn)) 0=some (some (n,.ptr (nb id) 0))/\L[nb id]?=some (.cells (cc kd x))/\l.getD n default=x:=by
 rw[xq];unfold zW;rcases iH (f:=λx:aA=>decide (x.id=id)) (l:=l)with⟨a,d⟩|⟨n,a,d,b⟩;exact .inl ⟨d,by rw[a];rfl⟩;right;have c:=acW b;have e:(l.getD n default).id=id:=by have:=acX b;simpa using this
 refine⟨_,n,b,c,e,by rw[a];simp,?_,rfl⟩;have:=h.nd _ c;rwa[e]at this
theorem bc.look(h:bc L iv mn mi nb bn ck ci rs suf last l lk kd)(i:TOk suf last lk){d:List Rdn}(hd:OkD d):
  (aO lk d=0/\atE lk d=none/\bF (.str (aN true d)) (rs.map kyA) 0=some none)\/∃j,bF (.str (aN true d)) (rs.map kyA) 0=some (some (j,.int .i64 (aO lk d)))/\j<rs.length/\(rs.getD j default).1=aN true d:=by
 rw[xt];rcases iH (f:=λr:TKy=>decide (r.1=aN true d)) (l:=rs)with⟨m,g⟩|⟨n,m,u,g⟩;left;have a:atE lk d=none:=xH.2 λ_ x c e=>by obtain⟨b,q⟩:=(h.mem (aN true x.nm) x.id).2 ⟨x,c,rfl,rfl⟩;have:=acG.1 g _ q;simp only[decide_eq_true_eq]at this;exact this ((mc (i.ok x c) hd).2 e)
 exact⟨i.find0.2 a,a,by rw[m];rfl⟩;right;refine⟨n,?_⟩;obtain⟨⟨k,id,b⟩,hr⟩:∃r,rs.getD n default=r:=⟨_,rfl⟩;have o:=acW g;have p:k=aN true d:=by have:=acX g;rw[hr]at this;simpa using this
 rw[hr]at o;obtain⟨x,c,s,t⟩:=(h.mem k id).1 ⟨b,o⟩;have:atE lk d=some x:=i.at c hd ((mc hd (i.ok x c)).1 (by rw[<- p,s]));rw[m];refine⟨by simp only[abQ,hr,acS,aO,this,t],u,by rw[hr];exact p⟩
theorem YG{d:List Rdn}{cap:Option Nat}(hd:dnB d)(t:TOk suf last lk)(b:bc L iv mn mi nb bn ck ci rs suf last l lk kd){K:abx}(h:K (.int .i64 (aO lk d)) L):
  abw 26 [.ptr iv 0,.sl (d.map aJ) d.length cap] L K:=by
 replace h:=hid h;obtain⟨⟨s,e⟩,a⟩:∃q,PJ d=q:=⟨_,rfl⟩;have kk1:Hid (Ctr Tryz.prog 61 [.sl (d.map aJ) d.length cap] (.tup [.str s,.int .i64 e])):=@hid _ (by intro L K q;exact J7 hd.1 hd.2 (by rw[a];exact q));have w:=b.v;have u:=b.i;by_cases r:e=0;subst r;have f:OkD d:=by by_cases c:OkD d;exact c;exact absurd (by rw[a]) (PI c)
 have k:s=aN true d:=by have:=pY f;rw[a]at this;injection this
 rcases b.look t f with⟨m,_,g⟩|⟨j,g,_⟩;rw[<- k]at g;rw[m]at h;have n:aT .str (.str s)=true:=rfl;clear a b k;refine abv bT ?_;exact ag h.o;rw[<- k]at g;have n:aT .str (.str s)=true:=rfl;obtain⟨z,p⟩:=abr (aO lk d);rw[p]at h g;clear a b k p;refine abv bT ?_;exact ag h.o;have m:aO lk d=0:=by refine t.find0.2 (xH.2 λc=>?_);have:=pY c;rw[a]at this;exact absurd (by injection this) r
 rw[m]at h;clear a b;refine abv bT ?_;exact ag h.o
theorem bc.kid(h:bc L iv mn mi nb bn ck ci rs suf last l lk kd){x:aA}(j:x∈l)(c:Int):bc (L.set (nb x.id) (.cells [dnA x.nm,.sl (ax (pth x)) x.nm.length none,atR x.av,.int .i64 (kd x.id+c)])) iv mn mi nb bn ck ci rs suf last l lk (λi=>if i=x.id then kd i+c else kd i):=by
 have a:=h.nd x j;have o:=(aby.1 a).1;have p:nb x.id≠iv:=λe=>by rw[e,h.v]at a;simp[cc]at a
 have k:nb x.id≠mn:=λe=>by rw[e,h.n]at a;simp at a
 have n3:nb x.id≠mi:=λe=>by rw[e,h.i]at a;simp at a
 refine⟨by rw[abE p];exact h.v,by rw[abE k];exact h.n,by rw[abE n3];exact h.i,λy f=>?_,h.inj,h.keys,h.mem,h.bnd,h.blt⟩;by_cases e:nb x.id=nb y.id;have g:=h.inj x j y f e;have b:cc kd x=cc kd y:=by have d:=h.nd y f;rw[<- e,a]at d;injection d with d;injection d
 rw[<- e];simp only[o,ab9,abz,Blk.cells.injEq];unfold cc at b⊢;simp only[ad7]at b;dsimp only;rw[if_pos g.symm,b.1,b.2.1,b.2.2.1,g];rw[abE e,h.nd y f];unfold cc;dsimp only;rw[if_neg (λm=>e (by rw[m]))]
theorem Wd{it:Nat}{d:List Rdn}{cap:Option Nat}{b:Int}(hd:dnB d)(m:d≠[])(G:TOk suf last lk)(e:∀x∈lk,∃y∈l,y.id=x.id)(V:L[it]?=some (.cells [.ptr iv 0]))(w:bc L iv mn mi nb bn ck ci rs suf last l lk kd)(W : -1<=b/\b<=1)(t:∀i,-10000000<=kd i/\kd i<=10000000){K:abx}(I:aO lk d.tail=0->K (.tup []) L)(M:∀x∈l,x.id=aO lk d.tail->K (.tup []) (L.set (nb x.id) (.cells [dnA x.nm,.sl (ax (pth x)) x.nm.length none,atR x.av,.int .i64 (kd x.id+b)]))):
  abw 70 [.ptr it 0,.sl (d.map aJ) d.length cap,.int .i64 b] L K:=by
 obtain⟨r,a,rfl⟩:∃r a,d=r::a:=by
  cases d with
  |nil=>exact absurd rfl m
  |cons r a=>exact⟨r,a,rfl⟩
 simp only[List.tail_cons]at I M;have u:dnB a:=⟨by have:=hd.1;simp at this;omega,λr hr=>hd.2 r (by simp[hr])⟩;obtain⟨z,p⟩:=abr (aO lk a);have kk1:Hid (∀{c:Option Nat}{K:abx},K (.int .i64 z) L->abw 26 [.ptr iv 0,.sl (List.take a.length (a.map aJ)) a.length c] L K):=@hid _ (by intro c K q;rw[ab7 aev];exact YG u G w (by rw[p];exact q))
 have f:(((r::a).length:Nat):Int)=(a.length:Int)+1:=aev;have g1:(1:Int)<=((r::a).length:Int):=by rw[f];omega
 have R:(r::a).length-1=a.length:=aev;have g3:List.drop 1 ((r::a).map aJ)=a.map aJ:=aev;have Z:=w.v;have Y:=w.n;by_cases C:z=0;subst C;replace h:=hid (I p);obtain⟨D,H⟩:=abr ((r::a).map aJ);obtain⟨n,g⟩:=abr ((r::a).length);rw[H]at g3⊢;rw[g]at g1 R⊢;clear I M p w t e G hd u m f H g;refine abv lN ?_;exact iN ⟨.inl rfl,True,[],rfl,trivial,ag h.o⟩;obtain⟨y,Q⟩:∃y,atE lk a=some y:=by
  cases J:atE lk a with
  |none=>exact absurd (G.find0.2 J) (by rw[p];exact C)
  |some y=>exact⟨y,rfl⟩
 have A:y.id=z:=by rw[<- p];unfold aO;rw[Q]
 obtain⟨_,s,_⟩:=bY Q;have N:=(G.ids y s).1;obtain⟨U,E,F⟩:=e y s;rcases w.node z with⟨P,_⟩|⟨x,j,P,S,k,e2,O,_⟩;exact absurd (acG.1 P U E) (by simp[F,A]);have h:=M x S (by rw[k,p]);rw[k]at h;replace h:=hid h;unfold cc at O;rw[k]at O;obtain⟨q,J⟩:=abr (kd z);have B:=t z;rw[J]at h O B;have w1:IntKind.i64.wrap (q+b)=q+b:=af aeu aeu;have T:aT .int (.int .i64 z)=true:=rfl;have g4:(0:Int)<z:=aeu;have X:z>0:=g4;obtain⟨D,H⟩:=abr ((r::a).map aJ);obtain⟨n,g⟩:=abr ((r::a).length);rw[H]at g3⊢;rw[g]at g1 R⊢;clear I M p w t e G hd u m f H g Q A s N F E P S k J B;refine abv lN ?_;exact⟨.inl rfl,True,[],rfl,trivial,ag h.o⟩
end
set_option maxHeartbeats 8000000
set_option maxRecDepth 100000
theorem MI{l:List aA}(h:zW l x.id=some x):scT l x.id 2=(scL l x 2).map (·.id):=by unfold scT;rw[h];exact if_neg aeu
theorem Mi{suf:List Rdn}{last:Int}{l:List aA}(d:TOk suf last l)(f:atE l dn=some x):y∈scL l x 2↔y∈l/\gr y.nm dn=true:=by
 obtain⟨hd,b,e⟩:=bY f;unfold scL;rw[List.Perm.mem_iff (acZ _ _),acj];refine and_congr_right λg=>?_
 unfold ir;rw[decide_eq_true (rfl:(2:Int)=2),Bool.true_or,adg,dc,dc,e];exact⟨λ⟨a,_,c⟩=>⟨a,hd,c⟩,λ⟨a,_,c⟩=>⟨a,d.ok x b,c⟩⟩
theorem Px(l:List aA)(x:aA)(s:Int):(scL l x s).length<=l.length:=by unfold scL;rw[ael];exact adJ _ _
theorem YS{suf:List Rdn}{last:Int}{l:List aA}(b:TOk suf last l)(c:atE l dn=some x):Xk l dn tn=(scL l x 2).any λy => !decide (OkD (ni y.nm dn.length tn)):=by rw[Bool.eq_iff_iff,Xk,ac5,ac5];constructor;rintro⟨y,a,h⟩;rw[abH]at h;exact⟨y,(Mi b c).2 ⟨a,h.1⟩,h.2⟩;rintro⟨y,a,h⟩;obtain⟨d,e⟩:=(Mi b c).1 a;exact⟨y,d,by rw[abH];exact⟨e,h⟩⟩
theorem ZD{suf:List Rdn}{last:Int}{l:List aA}(p:TOk suf last l)(a4:l.length<=1100000){L:List Blk}{iv mn mi:Nat}{nb bn:Int->Nat}{ck ci:Nat}{rs:List TKy}(t:aU L iv mn mi nb bn ck ci rs suf last l){v:AV}(hx:atE l dn=some x)(V:dnB tn){K:abx}(h:K (.int .i64 (QM suf l x.id dn tn)) L):
  abw 37 [.ptr iv 0,.int .i64 x.id,.agg [.int .i64 k,dnA dn,dnA tn,v]] L K:=by
 obtain⟨hd,a3,a7⟩:=bY hx;have g:=p.sok.m.b;have f:=hd.m.b;have hv:=t.v;have al:iv<L.length:=(aby.1 hv).1;have av:∀X:List Blk,(L++X)[iv]?=some (.cells [dnA suf,.lmap mn,.lmap mi,.int .i64 last]):=λX=>by rw[abC al];exact hv
 obtain⟨⟨ps,pe⟩,N⟩:∃q,prS tn=q:=⟨_,rfl⟩;have kk1:Hid (Ctr Tryz.prog 35 [dnA tn] (.tup [.str ps,.int .i64 pe])):=@hid _ (by intro L K q;exact xK V.1 V.2 (by rw[N];exact q));have kk2:Hid (∀{v:Nat}{L:List Blk}{K:abx},K (.bool (J1 dn suf)) L->abw 36 [.ptr v 0,dnA dn,dnA suf] L K):=@hid _ (by intro v L K q;exact Ta f g q);have J:OkD tn↔pe=0:=by unfold OkD;rw[N]
 unfold QM at h;by_cases c1:J1 dn suf=true;rw[if_pos c1]at h;rw[c1]at kk2;replace h:=hid h;clear t N J f g;refine abv be ?_;exact ae rfl h.o;rw[if_neg c1]at h;rw[Bool.eq_false_iff.2 c1]at kk2;by_cases c2:pe=0;rotate_left;rw[if_pos (.inl λc=>c2 (J.1 c))]at h;replace h:=hid h;clear t N J f g;refine abv be ?_;exact ae rfl h.o;have P:=J.2 c2;have a6:=P.len;subst c2;by_cases c3:tn=[];rw[if_pos (.inr c3)]at h;replace h:=hid h;subst c3;clear t N J f g;refine abv be ?_;exact ae rfl h.o;rw[if_neg (λc=>c.elim (λc=>c P) c3)]at h;have a':¬(tn.length:Int)=0:=λc=>c3 (acm.1 aeu)
 have a8:(1:Int)<=(tn.length:Int):=aeu;have ap:tn.tail.length=tn.length-1:=ado;have B:List.take (tn.length-1) (List.drop 1 (tn.map aJ))=tn.tail.map aJ:=by rw[List.drop_one,List.map_tail,ab7 aev]
 have ad:=P.tail;have kk3:Hid (∀{c:Option Nat}{L:List Blk}{K:abx},K (.bool (gr tn.tail dn)) L->abw 77 [.sl (List.take (tn.length-1) (List.drop 1 (tn.map aJ))) (tn.length-1) c,dnA dn] L K):=@hid _ (by intro c L K q;rw[B,<- ap];exact Td ad.m.b f q)
 have kf:Hid (∀{c:Option Nat}{L':List Blk}{K:abx}(d:List Rdn) (X:List Blk),dnB d->K (.int .i64 (aO l d)) (L++X)->abw 26 [.ptr iv 0,.sl (d.map aJ) d.length c] (L++X) K):=@hid _ (by intro c L' K d X a1 q;exact pW a1 p (t.app X) q)
 have kk4:Hid (∀{c:Option Nat}{X:List Blk}{K:abx},K (.int .i64 (aO l tn.tail)) (L++X)->abw 26 [.ptr iv 0,.sl (List.take (tn.length-1) (List.drop 1 (tn.map aJ))) (tn.length-1) c] (L++X) K):=@hid _ (by intro c X K q;rw[B,<- ap];exact kf.o (L':=L) _ X ad.m.b q)
 by_cases c4:gr tn.tail dn=true;rw[if_pos c4]at h;rw[c4]at kk3;replace h:=hid h;clear t N J f g kf kk4 B;refine abv be ?_;exact ae rfl h.o;rw[if_neg c4]at h;rw[Bool.eq_false_iff.2 c4]at kk3;by_cases c5:atE l tn.tail=none;rw[if_pos c5]at h;rw[p.find0.2 c5]at kk4;replace h:=hid h;clear t N J f g kf B;refine abv be ?_;exact ae rfl h.o;rw[if_neg c5]at h;have a5:¬aO l tn.tail=0:=λc=>c5 (p.find0.1 c)
 have kk5:Hid (∀{X:List Blk}{K:abx},K (.int .i64 (aO l tn)) (L++X)->abw 26 [.ptr iv 0,dnA tn] (L++X) K):=@hid _ (by intro X K q;exact kf.o (L':=L) _ X P.m.b q)
 obtain⟨z,hz⟩:=abr (aO l tn.tail);rw[hz]at kk4 a5;have R:Wi l x.id tn=(decide (0<aO l tn)&&decide (aO l tn≠x.id)):=by
  unfold Wi aO;cases hq:atE l tn with
  |none=>simp
  | some y =>
    have:=(p.ids y (bY hq).2.1).1;simp only;rw[decide_eq_true (by omega:0<y.id),acU]
 rw[R]at h;obtain⟨w,hw⟩:=abr (aO l tn);rw[hw]at kk5 h;obtain⟨xi,T⟩:=abr (x.id);rw[T]at h⊢;by_cases c6:0<w/\w≠xi;obtain⟨c6,c7⟩:=c6;have a9:w>0:=c6;rw[if_pos (by rw[decide_eq_true c6,decide_eq_true c7];rfl)]at h;replace h:=hid h;clear t N J f g kf B;refine abv be ?_;exact ae rfl h.o;rw[if_neg (by intro c;rw[abH,decide_eq_true_eq,decide_eq_true_eq]at c;exact c6 c)]at h
 have c8:w<=0\/w=xi:=aeu;rw[YS p hx]at h;have ai:scT l xi 2=(scL l x 2).map (·.id):=by rw[<- T];exact MI (p.ent a3)
 have kk6:Hid (∀{X:List Blk}{K:abx},K (.sl (((scL l x 2).map (·.id)).map (AV.int .i64)) (scL l x 2).length none) (L++X)->abw 32 [.ptr iv 0,.int .i64 xi,.int .i64 2] (L++X) K):=@hid _ (by intro X K q;refine MA p a4 (t.app X) ?_;rw[ai,abM];exact q)
 obtain⟨a,S⟩:=abr (scL l x 2);have a0:=Px l x 2;have s:=λy=>(Mi (y:=y) p hx).1
 rw[S]at kk6 h a0 s;replace s:=hid s;replace h:=hid h;replace t:=hid t;replace p:=hid p;clear N J f g kf B ai S R hw hz T;have c9:(¬0<w/\¬w>0)\/(0<w/\w>0/\xi=w):=aeu;clear c8 c6;have bb:=hd.len;rcases c9 with⟨c9,a2⟩|⟨c9,a2,rfl⟩
 all_goals
  refine abv be ?_;refine ar (λm T' L'=>∃j:Nat,m=a.length-j/\j<=a.length/\Hid (∀i,i<j->OkD (ni (a.getD i default).nm dn.length tn))/\T'=[(68,.int .i64 (j:Int)),(67,.int .i64 a.length),(66,.sl ((a.map (·.id)).map (AV.int .i64)) a.length none),(5,.ptr L.length 0),(0,.ptr iv 0)]/\L'=L++[.cells [.int .i64 k,dnA dn,dnA tn,v]]) aey ⟨0,rfl,abJ _,hid (λi hi=>absurd hi (Nat.not_lt_zero _)),rfl,rfl⟩ ?_;rintro _ _ _ ⟨j,rfl,hj,hI,rfl,rfl⟩;by_cases M:j<a.length
  .have g1:(j:Int)<(a.length:Int):=aeu;have g2:=abu j aeu;obtain⟨y,hy⟩:=abr (a.getD j default);have I:y∈a:=(by rw[<- hy];simp[M]);obtain⟨D,U⟩:=s.o y I;have e1:((a.map (·.id)).map (AV.int .i64)).getD j .undef=.int .i64 y.id:=(by rw[<- hy];simp[M]);have e2:j<((a.map (·.id)).map (AV.int .i64)).length:=(by simpa using M);rcases(t.o.app [.cells [.int .i64 k,dnA dn,dnA tn,v]]).node y.id with⟨f1,_⟩|⟨x',n,f1,_,_,f2,f3⟩
   .rw[p.o.ent D]at f1;cases f1
   rw[p.o.ent D]at f1;cases f1;unfold kP at f3;have E:=p.o.ok y D;have F:dn.length<=y.nm.length:=by have:=(dc.1 U).2.2.length_le;rwa[bu,bu]at this
   have ab:=E.len;have an:=(t.o.app [.cells [.int .i64 k,dnA dn,dnA tn,v]]).n;obtain⟨yi,W⟩:=abr (y.id);obtain⟨yn,G⟩:=abr (y.nm);rw[W]at e1 f2 f3;rw[G]at f3 F ab E;obtain⟨q,hq⟩:=abr (yn.length-dn.length);have w1:IntKind.i64.wrap ((yn.length:Int)-(dn.length:Int))=(q:Int):=(by rw[af aeu aeu];omega);have w2:(q:Int)<=(yn.length:Int):=aeu;have a_:aT .int (.int .i64 yi)=true:=rfl;obtain⟨Z,hZ⟩:=abr (ni yn dn.length tn);have H:yn.take q++tn=Z:=(by rw[<- hZ,<- hq];rfl);have A:dnB Z:=by rw[<- H];refine⟨by simp;omega,λr hr=>?_⟩;rcases abD.1 hr with hr|hr;exact E.m.b.2 r (adG hr);exact V.2 r hr
   have kk7:Hid (∀{c:Option Nat}{L:List Blk}{K:abx},K (dnA Z) L->abw 50 [dnA tn,.sl (List.take q (yn.map aJ)) q c] L K):=@hid _ (by intro c L K u;rw[<- adF];exact TH H (by rw[acv];omega) rfl A.1 A.2 u)
   obtain⟨⟨zs,ze⟩,O⟩:∃u,prS Z=u:=⟨_,rfl⟩;have kk1:Hid (Ctr Tryz.prog 35 [dnA Z] (.tup [.str zs,.int .i64 ze])):=@hid _ (by intro L K u;exact xK A.1 A.2 (by rw[O];exact u));have pz:OkD Z↔ze=0:=(by unfold OkD;rw[O]);by_cases Y:ze=0
   .have hI':=hid (λi (hi:i<j+1)=>show OkD (ni (a.getD i default).nm dn.length tn)from by
     by_cases e:i=j
     .subst e;rw[hy,G,hZ];exact pz.2 Y
     .exact hI.o i aeu)
    subst Y;clear hI hy I D U E F W G hq hZ H A O pz kk2 kk3 kk4 kk5 kk6;refine wk ?_;exact aez aeu aex ⟨j+1,rfl,M,hI',rfl,rfl⟩
   .have hbad:(a.any λy => !decide (OkD (ni y.nm dn.length tn)))=true:=ac5.2 ⟨y,I,by rw[G,hZ,decide_eq_false (λc=>Y (pz.1 c))];rfl⟩;have Q:=h.o;rw[if_pos hbad]at Q;replace Q:=hid Q;clear hI hy I D U E F W G hq hZ H A O pz kk2 kk3 kk4 kk5 kk6 hbad;refine wk ?_;exact ae rfl Q.o
  .have hje:j=a.length:=aeu;subst hje;have g1:¬(a.length:Int)<(a.length:Int):=aeu;have C:¬(a.any λy => !decide (OkD (ni y.nm dn.length tn)))=true:=λc=>by obtain⟨y,hy,hb⟩:=ac5.1 c;obtain⟨i,hi,rfl⟩:=adv.1 hy;have:=hI.o i hi;rw[show a.getD i default=a[i]by simp[hi]]at this;rw[decide_eq_true this]at hb;cases hb
   have Q:=h.o;rw[if_neg C]at Q;replace Q:=hid Q;clear hI C;refine wk ?_;exact ae rfl Q.o
theorem EJ{suf:List Rdn}{last:Int}{l:List aA}(w:TOk suf last l)(W:l.length<=1100000){L:List Blk}{iv mn mi:Nat}{nb bn:Int->Nat}{ck ci:Nat}{rs:List TKy}(j:aU L iv mn mi nb bn ck ci rs suf last l){v:AV}(g:dnB dn)(a0:dnB tn){K:abx}(h:K (.int .i64 (eN suf l k dn tn)) L):
  abw 13 [.ptr iv 0,.agg [.int .i64 k,dnA dn,dnA tn,v]] L K:=by
 have i:=w.sok.m.b;have hv:=j.v;have hn:=j.n;have Q:iv<L.length:=(aby.1 hv).1;have O:mn<L.length:=(aby.1 hn).1;have av:∀X:List Blk,(L++X)[iv]?=some (.cells [dnA suf,.lmap mn,.lmap mi,.int .i64 last]):=λX=>by rw[abC Q];exact hv
 have an:∀X:List Blk,(L++X)[mn]?=some (.map (l.map (eO nb bn)) ck):=λX=>by rw[abC O];exact hn
 have a6:(l.map (eO nb bn)).length=l.length:=abM _;obtain⟨⟨ps,Z⟩,t⟩:∃q,prS dn=q:=⟨_,rfl⟩;have kk1:Hid (Ctr Tryz.prog 35 [dnA dn] (.tup [.str ps,.int .i64 Z])):=@hid _ (by intro L K q;exact xK g.1 g.2 (by rw[t];exact q));have kk2:Hid (∀{v:Nat}{L:List Blk}{K:abx},K (.bool (J1 dn suf)) L->abw 36 [.ptr v 0,dnA dn,dnA suf] L K):=@hid _ (by intro v L K q;exact Ta g i q);have r:OkD dn↔Z=0:=by unfold OkD;rw[t]
 have kk3:Hid (∀{X:List Blk}{K:abx},K (.int .i64 (aO l dn)) (L++X)->abw 26 [.ptr iv 0,dnA dn] (L++X) K):=@hid _ (by intro X K q;exact pW g w (j.app X) q)
 obtain⟨z,p⟩:=abr (aO l dn);have f:=w.find0 (d:=dn);rw[p]at f kk3;unfold eN at h;by_cases u:k<1\/4<k;rw[if_pos u]at h;have d1:¬k=1:=aeu;have d2:¬k=2:=aeu;have d3:¬k=3:=aeu;have d4:¬k=4:=aeu;replace h:=hid h;clear j t r g i f p;refine abv aG ?_;exact ae rfl h.o;rw[if_neg u]at h;by_cases T:k=1
 .subst T;rw[if_pos rfl]at h;by_cases S:Z=0;rotate_left;rw[if_pos (λc=>S (r.1 c))]at h;replace h:=hid h;clear j t r g i f p u;refine abv aG ?_;exact ae rfl h.o;have G:=r.2 S;subst S;rw[if_neg (λc=>c G)]at h;by_cases H:z=0;rotate_left;rw[if_pos (λc=>H (f.2 c))]at h;have a2:0<z:=by
   cases D:atE l dn with
   |none=>exact absurd (f.2 D) H
   | some y =>
     have:=(w.ids y (bY D).2.1).1;rw[<- p];unfold aO;rw[D];simp only;omega
  have a3:z>0:=a2;replace h:=hid h;clear j t r g i f p u;refine abv aG ?_;exact ae rfl h.o;subst H;rw[if_neg (λc=>c (f.1 rfl))]at h;have a7:=G.len;obtain⟨sm,a1⟩:=abr (J1 dn suf);rw[a1]at h kk2;have a:∀{h4:K (.int .i64 (if 4096<=l.length then 80 else 0)) L},(4096<=l.length/\K (.int .i64 80) L)\/(¬4096<=l.length/\K (.int .i64 0) L):=λ{h4}=>by by_cases c:4096<=l.length;rw[if_pos c]at h4;exact .inl ⟨c,h4⟩;rw[if_neg c]at h4;exact .inr ⟨c,h4⟩
  cases sm with
  | true =>
    rw[if_neg (λc=>by cases c.1)]at h;rcases a (h4:=h)with⟨c,h⟩|⟨c,h⟩
    .have c':(4096:Int)<=(l.length:Int):=aeu;have E:(l.length:Int)≥4096:=c';replace h:=hid h;clear a j t r g i f p u;refine abv aG ?_;exact ae rfl h.o
    .have c':¬(4096:Int)<=(l.length:Int):=aeu;have E:¬(l.length:Int)≥4096:=c';replace h:=hid h;clear a j t r g i f p u;refine abv aG ?_;exact ae rfl h.o
  | false =>
    by_cases U:dn=[]
    .rw[if_pos ⟨rfl,.inl U⟩]at h;subst U;replace h:=hid h;clear a j t r g i f p u;refine abv aG ?_;exact ae rfl h.o
    have a4:¬(dn.length:Int)=0:=λc=>U (acm.1 aeu)
    have a5:(1:Int)<=(dn.length:Int):=aeu;have al:dn.tail.length=dn.length-1:=ado;have C:List.take (dn.length-1) (List.drop 1 (dn.map aJ))=dn.tail.map aJ:=(by rw[List.drop_one,List.map_tail,ab7 aev]);have kk4:Hid (∀{c:Option Nat}{X:List Blk}{K:abx},K (.int .i64 (aO l dn.tail)) (L++X)->abw 26 [.ptr iv 0,.sl (List.take (dn.length-1) (List.drop 1 (dn.map aJ))) (dn.length-1) c] (L++X) K):=@hid _ (by intro c X K q;rw[C,<- al];exact pW G.tail.m.b w (j.app X) q)
    have s:=w.find0 (d:=dn.tail);obtain⟨q,D⟩:=abr (aO l dn.tail);rw[D]at s kk4;by_cases c4:q=0
    .rw[if_pos ⟨rfl,.inr (s.1 c4)⟩]at h;subst c4;replace h:=hid h;clear a j t r g i f p u C s D;refine abv aG ?_;exact ae rfl h.o
    rw[if_neg (λc=>c.2.elim U λc=>c4 (s.2 c))]at h;rcases a (h4:=h)with⟨c,h⟩|⟨c,h⟩
    .have c':(4096:Int)<=(l.length:Int):=aeu;have E:(l.length:Int)≥4096:=c';replace h:=hid h;clear a j t r g i f p u C s D;refine abv aG ?_;exact ae rfl h.o
    .have c':¬(4096:Int)<=(l.length:Int):=aeu;have E:¬(l.length:Int)≥4096:=c';replace h:=hid h;clear a j t r g i f p u C s D;refine abv aG ?_;exact ae rfl h.o
 rw[if_neg T]at h;have F:k=2\/k=3\/k=4:=aeu;cases hx:atE l dn with
 | none =>
   rw[hx]at h;simp only at h;have H:z=0:=f.2 hx;subst H;replace h:=hid h;clear j t r g i f p u T;rcases F with rfl|rfl|rfl
   all_goals
    refine abv aG ?_;exact ae rfl h.o
 | some x =>
   rw[hx]at h;simp only at h;obtain⟨hd,B,ai⟩:=bY hx;have ap:z=x.id:=(by rw[<- p];unfold aO;rw[hx]);have ab:=(w.ids x B).1;have kk5:Hid (∀{X:List Blk}{K:abx},K (.int .i64 (QM suf l x.id dn tn)) (L++X)->abw 37 [.ptr iv 0,.int .i64 x.id,.agg [.int .i64 k,dnA dn,dnA tn,v]] (L++X) K):=@hid _ (by intro X K q;exact ZD w W (j.app X) hx a0 q)
   have Y:aT .int (.int .i64 x.id)=true:=rfl;rcases j.node x.id with⟨N,_⟩|⟨x',n,N,_,_,f2,V⟩
   .rw[w.ent B]at N;cases N
   rw[w.ent B]at N;cases N;unfold kP at V;have J:nb x.id<L.length:=(aby.1 V).1;have ad:∀X:List Blk,(L++X)[nb x.id]?=some (.cells [dnA x.nm,.sl (ax (pth x)) x.nm.length none,atR x.av,.int .i64 (aP (cU l) (NK x.nm):Nat)]):=λX=>by rw[abC J];exact V
   subst ap;obtain⟨xi,P⟩:=abr (x.id);obtain⟨I,R⟩:=abr (aP (cU l) (NK x.nm));rw[P]at kk3 kk5 Y f2 ad ab h;rw[R]at ad h;obtain⟨mv,M⟩:=abr (QM suf l xi dn tn);rw[M]at kk5 h;have g0:¬xi=0:=aeu;have A:(I≠0/\k=2/\K (.int .i64 66) L)\/(I=0/\k=2/\K (.int .i64 0) L)\/(k=3/\K (.int .i64 0) L)\/(k=4/\K (.int .i64 mv) L):=by
    rcases F with rfl|rfl|rfl
    .by_cases c:I=0
     .rw[if_pos rfl,if_neg (λe=>e c)]at h;exact .inr (.inl ⟨c,rfl,h⟩)
     .rw[if_pos rfl,if_pos c]at h;exact .inl ⟨c,rfl,h⟩
    .rw[if_neg (by decide),if_pos rfl]at h;exact .inr (.inr (.inl ⟨rfl,h⟩))
    .rw[if_neg (by decide),if_neg (by decide)]at h;exact .inr (.inr (.inr ⟨rfl,h⟩))
   clear h j t r g i f p u T F B ai P R M hx V;rcases A with⟨c,rfl,h⟩|⟨c,rfl,h⟩|⟨rfl,h⟩|⟨rfl,h⟩
   .have S:(0:Int)<(I:Int):=aeu;have H:(I:Int)>0:=S;replace h:=hid h;refine abv aG ?_;exact ae rfl h.o
   .subst c;replace h:=hid h;refine abv aG ?_
    all_goals exact ae rfl h.o
   .replace h:=hid h;refine abv aG ?_;exact ae rfl h.o
   .replace h:=hid h;refine abv aG ?_;exact ae rfl h.o
section
variable {L:List Blk}{iv mn mi it:Nat}{nb bn:Int->Nat}{ck ci:Nat}{rs:List TKy}{suf:List Rdn}{last:Int}{l lk:List aA}{kd:Int->Int}
theorem bc.kds(h:bc L iv mn mi nb bn ck ci rs suf last l lk kd){a:Int->Int}(e:∀x∈l,a x.id=kd x.id):bc L iv mn mi nb bn ck ci rs suf last l lk a :=
 ⟨h.v,h.n,h.i,λx b=>by rw[h.nd x b];unfold cc;rw[e x b],h.inj,h.keys,h.mem,h.bnd,h.blt⟩
theorem bc.noIt(h:bc L iv mn mi nb bn ck ci rs suf last l lk kd)(a:L[it]?=some (.cells [.ptr iv 0])):¬OfT iv mn mi nb l it:=by rintro(e|e|e|⟨x,b,e⟩);rw[e,h.v]at a;simp at a;rw[e,h.n]at a;simp at a;rw[e,h.i]at a;simp at a;rw[e,h.nd x b]at a;simp[cc]at a
theorem EM{d:List Rdn}{cap:Option Nat}{b:Int}(hd:dnB d)(c:d≠[])(o:TOk suf last lk)(a:∀x∈lk,∃y∈l,y.id=x.id)(m:∀x∈l,1<=x.id)(k:L[it]?=some (.cells [.ptr iv 0]))(f:bc L iv mn mi nb bn ck ci rs suf last l lk kd)(n : -1<=b/\b<=1)(g:∀i,-10000000<=kd i/\kd i<=10000000){K:abx}(h:∀L',bc L' iv mn mi nb bn ck ci rs suf last l lk (λi=>if i=aO lk d.tail then kd i+b else kd i)->aL (OfT iv mn mi nb l) L L'->K (.tup []) L'):
  abw 70 [.ptr it 0,.sl (d.map aJ) d.length cap,.int .i64 b] L K:=by
 refine Wd hd c o a k f n g (λp=>?_) (λx j e=>?_);refine h L (f.kds λx j=>?_) (aL.refl L)
 grind
 refine h _ ?_ (aL.set L (.inr (.inr (.inr ⟨x,j,rfl⟩))) _);rw[<- e];exact f.kid j b
theorem aU.added(f:aU L iv mn mi nb bn ck ci rs suf last l)(K:TOk suf last l)(s:mn≠mi)(m:L[it]?=some (.cells [.ptr iv 0])){dn:List Rdn}(J:OkD dn)(M:∀x∈l,NK x.nm≠NK dn)(v:List Atr)(h a0 X:Blk)(A B:List Blk)(w:A=(L.set iv (.cells [dnA suf,.lmap mn,.lmap mi,.int .i64 (last+1)])).set mn (.map ((l.map (eO nb bn))++[(.int .i64 (last+1),.ptr (L.length+1) 0,ck)]) (ck+1)))(Y:B=((A++[h,a0]).set (L.length+1) (.cells [dnA dn,.sl (ax (NK dn).reverse) dn.length none,atR v,.int .i64 0])).set mi (.map ((rs++[(aN true dn,last+1,ci)]).map kyA) (ci+1))++[X]):
  bc B iv mn mi (λi=>if i=last+1 then L.length+1 else nb i) (λi=>if i=last+1 then ck else bn i) (ck+1) (ci+1) (rs++[(aN true dn,last+1,ci)]) suf (last+1) (z6 l last dn v) (z6 l last dn v) (λi=>if i=last+1 then 0 else(ja l i:Nat))/\aL (OfT iv mn mi nb l) L B /\
  (A++[h,a0])[it]?=some (.cells [.ptr iv 0])/\(A++[h,a0])[iv]?=some (.cells [dnA suf,.lmap mn,.lmap mi,.int .i64 (last+1)])/\(A++[h,a0])[mn]?=some (.map ((l.map (eO nb bn))++[(.int .i64 (last+1),.ptr (L.length+1) 0,ck)]) (ck+1))/\(A++[h,a0])[mi]?=some (.map (rs.map kyA) ci)/\(A++[h,a0])[L.length+1]?=some a0 /\
  bF (.int .i64 (last+1)) ((l.map (eO nb bn))++[(.int .i64 (last+1),.ptr (L.length+1) 0,ck)]) 0=some (some (l.length,.ptr (L.length+1) 0))/\bF (.str (aN true dn)) (rs.map kyA) 0=some none/\bF (.int .i64 (last+1)) (l.map (eO nb bn)) 0=some none:=by
 have O:=f.toK K;have H:=(aby.1 f.v).1;have D:=(aby.1 f.n).1;have h3:=(aby.1 f.i).1;have h4:=(aby.1 m).1;have F:iv≠mn:=λe=>by have:=f.v;rw[e,f.n]at this;simp at this
 have q:iv≠mi:=λe=>by have:=f.v;rw[e,f.i]at this;simp at this
 have ab:A.length=L.length:=by rw[w];simp
 have U:∀i,i≠iv->i≠mn->A[i]?=L[i]?:=λi a b=>by rw[w,abE (Ne.symm b),abE (Ne.symm a)]
 have Q:A[iv]?=some (.cells [dnA suf,.lmap mn,.lmap mi,.int .i64 (last+1)]):=by rw[w,abE (Ne.symm F)];simp[H]
 have R:A[mn]?=some (.map ((l.map (eO nb bn))++[(.int .i64 (last+1),.ptr (L.length+1) 0,ck)]) (ck+1)):=by rw[w];simp[D]
 have z:∀i,i<L.length->(A++[h,a0])[i]?=A[i]?:=λi T=>abC aeu
 have N:∀i,i<L.length->i≠mi->B[i]?=A[i]?:=λi T hm=>by grind
 have C:B[mi]?=some (.map ((rs++[(aN true dn,last+1,ci)]).map kyA) (ci+1)):=by grind
 have I:B[L.length+1]?=some (.cells [dnA dn,.sl (ax (NK dn).reverse) dn.length none,atR v,.int .i64 0]):=by simp[*]
 have d:∀x∈l,x.id≠last+1:=λx c e=>by have:=(K.ids x c).2;omega
 have t:∀x∈l,nb x.id<L.length:=λx c=>(aby.1 (f.nd x c)).1
 have P:∀x∈l,aN true x.nm≠aN true dn:=λx c e=>M x c ((mc (K.ok x c) J).1 e)
 have ad:∀r∈rs,r.1≠aN true dn:=λr hr e=>by obtain⟨x,c,S,_⟩:=(f.mem r.1 r.2.1).1 ⟨r.2.2,hr⟩;simp_all
 have o:(z6 l last dn v).map (eO (λi=>if i=last+1 then L.length+1 else nb i) (λi=>if i=last+1 then ck else bn i))=l.map (eO nb bn)++[(.int .i64 (last+1),.ptr (L.length+1) 0,ck)]:=by
  unfold z6;rw[abS];congr 1;refine acB λx c=>?_
  simp only[eO,if_neg (d x c)];simp[eO]
 refine⟨⟨by rw[N iv H q];exact Q,by rw[N mn D s,R,o],C,λx c=>?_,λx c y u e=>?_,?_,λk id=>?_,?_,λx c=>?_⟩,⟨by rw[Y];simp;omega,λi T E=>?_⟩,?_,by rw[z iv H];exact Q,by rw[z mn D];exact R,by rw[z mi h3,U mi (Ne.symm q) (Ne.symm s)];exact f.i,?_,?_,?_,?_⟩;rcases abD.1 c with c|c;have p:=O.nd x c;have G:=d x c;have m1:nb x.id≠iv:=λe=>by rw[e,f.v]at p;simp[cc]at p
 have Z:nb x.id≠mn:=λe=>by rw[e,f.n]at p;simp at p
 have W:nb x.id≠mi:=λe=>by rw[e,f.i]at p;simp at p
 simp only[if_neg G];rw[N _ (t x c) W,U _ m1 Z,p];unfold cc;simp[*];rw[abV.1 c];simp only[if_true];rw[I];simp only[cc,pth,if_true];rcases abD.1 c with c|c<;>rcases abD.1 u with u|u;simp only[if_neg (d x c),if_neg (d y u)]at e;exact O.inj x c y u e
 grind
 grind
 simp_all;rw[abS,ac7];refine⟨f.keys,aev,λa V b j e=>?_⟩
 grind
 constructor;rintro⟨b,j⟩;rcases abD.1 j with j|j;obtain⟨x,c,e⟩:=(f.mem k id).1 ⟨b,j⟩;exact⟨x,ac3 _ c,e⟩;simp only[abV,abI]at j;exact⟨_,adj _ (abV.2 rfl),j.1.symm,j.2.1.symm⟩;rintro⟨x,c,S,e2⟩;rcases abD.1 c with c|c;obtain⟨b,j⟩:=(f.mem k id).2 ⟨x,c,S,e2⟩
 grind
 simp_all;unfold z6;rw[abS,ac7];refine⟨?_,aev,λa V b j e=>?_⟩;rw[acB (g:=λx=>bn x.id) λx c=>by simp only[if_neg (d x c)]];exact f.bnd;obtain⟨x,c,rfl⟩:=abB.1 V;simp only[abO,acw,abV,if_true]at j;simp only[if_neg (d x c)]at e;have:=f.blt x c;omega;rcases abD.1 c with c|c;simp only[if_neg (d x c)];have:=f.blt x c;omega;simp_all;have b1:i≠iv:=λe=>E (.inl e)
 have b2:i≠mn:=λe=>E (.inr (.inl e))
 have b3:i≠mi:=λe=>E (.inr (.inr (.inl e)))
 grind
 have b1:it≠iv:=λe=>by rw[e,f.v]at m;simp at m
 have b2:it≠mn:=λe=>by rw[e,f.n]at m;simp at m
 grind
 simp[*];rw[<- o,xq];have:(z6 l last dn v).findIdx? (λx=>decide (x.id=last+1))=some l.length:=by
  unfold z6
  grind
 simp[*];rw[xt]
 grind
 rw[xq];simp_all
end
set_option maxHeartbeats 8000000
set_option maxRecDepth 100000
section
variable {L:List Blk}{iv mn mi it:Nat}{nb bn:Int->Nat}{ck ci:Nat}{rs:List TKy}{suf:List Rdn}{last:Int}{l:List aA}
theorem aaW(r:TOk suf last l)(ab:mn≠mi)(a5:l.length<=1000000)(an:0<=last)(a6:last<=1000000)(j:L[it]?=some (.cells [.ptr iv 0]))(w:aU L iv mn mi nb bn ck ci rs suf last l){dn tn:List Rdn}{v:List Atr}(N:dnB dn)(a0:dnB tn)(ad:v.length<=1100000)(al:∀a∈v,a.2.length<=1100000)(ha:eN suf l 1 dn tn=0){K:abx}(h:∀L' F C z D E,aU L' iv mn mi F C z D E suf (last+1) (z6 l last dn v)->L'[it]?=some (.cells [.ptr iv 0])->aL (OfT iv mn mi nb l) L L'->K (.int .i64 0) L'):
  abw 31 [.ptr it 0,.agg [.int .i64 1,dnA dn,dnA tn,atR v]] L K:=by
 obtain⟨p,_⟩:=r.canA ha;have P:=p.ok;have ai:aO l dn=0:=r.find0.2 (xH.2 λ_ x f=>p.no x f);have J:=w.v;have Q:=w.n;have m:iv<L.length:=(aby.1 J).1;have I:mn<L.length:=(aby.1 Q).1;have H:it<L.length:=(aby.1 j).1;have Y:iv≠mn:=λe=>by have:=w.v;rw[e,w.n]at this;simp at this
 have ap:iv≠it:=λe=>by have:=w.v;rw[e,j]at this;simp at this
 have av:∀X:List Blk,(L++X)[iv]?=some (.cells [dnA suf,.lmap mn,.lmap mi,.int .i64 last]):=λX=>by rw[abC m];exact J
 have a9:∀X:List Blk,(L++X)[it]?=some (.cells [.ptr iv 0]):=λX=>by rw[abC H];exact j
 have sv:∀(X:List Blk) b,(L++X).set iv b=L.set iv b++X:=λX b=>adk _ _ m
 have bb:∀(X:List Blk) b,(L.set iv b++X)[iv]?=some b:=λX b=>by rw[abC (by simpa using m)];simp[m]
 have bd:∀(X:List Blk) b,(L.set iv b++X)[it]?=some (.cells [.ptr iv 0]):=λX b=>by rw[abC (by simpa using H),abE ap];exact j
 have a3:∀(X:List Blk) b,(L.set iv b++X)[mn]?=some (.map (l.map (eO nb bn)) ck):=λX b=>by rw[abC (by simpa using I),abE Y];exact Q
 have a4:∀(X:List Blk) b c,(L.set iv b++X).set mn c=(L.set iv b).set mn c++X:=λX b c=>adk _ _ (by simpa using I)
 have a8:∀(X:List Blk) (b c:Blk),(L.set iv b++c::X)[L.length]?=some c:=λX b c=>by rw[abN aev];simp
 have a_:∀(X:List Blk) (b c d:Blk),((L.set iv b).set mn d++c::X)[L.length]?=some c:=λX b c d=>by rw[abN aev];simp
 have kk1:Hid (∀{X:List Blk}{K:abx},K (.int .i64 0) (L++X)->abw 13 [.ptr iv 0,.agg [.int .i64 1,dnA dn,dnA tn,atR v]] (L++X) K):=@hid _ (by intro X K q;exact EJ r aeu (w.app X) N a0 (by rw[ha];exact q))
 have kk2:Hid (∀{X:List Blk}{K:abx},K (.int .i64 0) (L++X)->abw 26 [.ptr iv 0,dnA dn] (L++X) K):=@hid _ (by intro X K q;exact pW N r (w.app X) (by rw[ai];exact q))
 have kk3:Hid (Ctr Tryz.prog 68 [atR v] (atR v)):=@hid _ (by intro L K q;exact Mg ad al q);have w1:IntKind.i64.wrap (last+1)=last+1:=af aeu aeu;have a7:aT .int (.int .i64 (last+1))=true:=rfl;have bk:∀b,(L.set iv b).length=L.length:=λb=>List.length_set
 obtain⟨k,U⟩:∃k:Blk,k=.cells [.int .i64 1,dnA dn,dnA tn,atR v]:=⟨_,rfl⟩;obtain⟨A,hA⟩:=abr ((L.set iv (.cells [dnA suf,.lmap mn,.lmap mi,.int .i64 (last+1)])).set mn (.map ((l.map (eO nb bn))++[(.int .i64 (last+1),.ptr (L.length+1) 0,ck)]) (ck+1)));obtain⟨B,V⟩:=abr (((A++[k,.cells [.sl [] 0 (some 0),.sl [] 0 (some 0),atR v,.int .i64 0]]).set (L.length+1) (.cells [dnA dn,.sl (ax (NK dn).reverse) dn.length none,atR v,.int .i64 0])).set mi (.map ((rs++[(aN true dn,last+1,ci)]).map kyA) (ci+1))++[.cells [.sl (ax (NK dn).reverse) dn.length none]]);have M:A.length=L.length:=by rw[<- hA];simp
 have a2:mi<L.length:=(aby.1 w.i).1;obtain⟨s,u,p1,p2,p3,p4,p5,p6,p7,p8⟩:=w.added r ab j P p.no v k (.cells [.sl [] 0 (some 0),.sl [] 0 (some 0),atR v,.int .i64 0]) (.cells [.sl (ax (NK dn).reverse) dn.length none]) A B hA.symm V.symm;have pb:B[L.length]?=some k:=by rw[<- V,abC (by simp;omega),abE aeu,abE aeu,abN aeu,M];simp
 have a':(A++[k,.cells [.sl [] 0 (some 0),.sl [] 0 (some 0),atR v,.int .i64 0]])[L.length]?=some k:=by rw[abN aeu,M];simp
 have t:B[it]?=some (.cells [.ptr iv 0]):=u.get j ((w.toK r).noIt j);obtain⟨g,T,O⟩:=r.add an p v;have kk4:Hid (∀{K:abx},K (.tup []) B->abw 69 [.ptr it 0,.int .i64 (last+1),dnA dn] (A++[k,.cells [.sl [] 0 (some 0),.sl [] 0 (some 0),atR v,.int .i64 0]]) K):=@hid _ (by intro K q;refine VH P p1 p2 p3 p6 p5 p4 p7 ?_;rw[V];exact q)
 have kk5:Hid (∀{K:abx},(∀L' F C z D E,aU L' iv mn mi F C z D E suf (last+1) (z6 l last dn v)->L'[it]?=some (.cells [.ptr iv 0])->aL (OfT iv mn mi nb l) L L'->K (.tup []) L')->abw 70 [.ptr it 0,dnA dn,.int .i64 1] B K):=@hid _ (by
  intro K q;have Z:dn≠[]:=λe=>by rcases p.par with S|⟨x,f,S⟩;exact r.inv.sne (by rw[<- S,e];rfl);exact r.inv.ne (fI f) (by rw[S,e];rfl)
  have a1:∀i,(ja l i:Int)<=l.length:=λi=>by
   unfold ja aP;cases zW l i with
   |none=>simp
   |some x=>simp only;exact Int.ofNat_le.2 (aca (adJ _ _) (by simp[cU]))
  refine EM N Z g (λx f=>⟨x,f,rfl⟩) (λx f=>(g.ids x f).1) t s aeu (λi=>?_) λL' hK hb=>?_
  split;omega;have:=a1 i;omega;refine q L' _ _ _ _ _ (hK.toT λx f=>?_) (hb.get t (s.noIt t)) (u.trans2 hb λi hi=>?_);rw[O (NK x.nm)];have G:(x.id=aO (z6 l last dn v) dn.tail)↔(NK dn).tail=NK x.nm:=by
   rw[<- JU];constructor;intro e;unfold aO at e;cases hq:atE (z6 l last dn v) dn.tail with
   |none=>rw[hq]at e;have:=(g.ids x f).1;simp only at e;omega
   | some y =>
     rw[hq]at e;obtain⟨_,hy,S⟩:=bY hq;rw[g.byI f hy e,S]
   intro e;unfold aO;rw[g.at f P.tail e]
  have R:(if x.id=last+1 then(0:Int)else(ja l x.id:Nat))=(aP (cU l) (NK x.nm):Nat):=by rcases abD.1 f with f|f;rw[if_neg (by have:=(r.ids x f).2;omega),r.kidsE f];rw[abV.1 f,if_pos rfl];have:=O (NK dn);rw[T]at this;simp only;omega
  by_cases W:(NK dn).tail=NK x.nm;rw[if_pos W,if_pos (G.2 W),R];simp;rw[if_neg W,if_neg (λe=>W (G.1 e)),R];simp;rintro(e|e|e|⟨x,f,e⟩);exact .inl e;exact .inr (.inl e);exact .inr (.inr (.inl e));rcases abD.1 f with f|f;exact .inr (.inr (.inr ⟨x,f,by rw[e];exact if_neg (by have:=(r.ids x f).2;omega)⟩));rw[abV.1 f]at e;simp only[if_true]at e;omega)
 replace h:=hid h;clear V s u p6 p7 g T O p J Q j M;subst U;refine abv eh ?_;simp only[abU,ack,Nat.reduceAdd,ad5,adP,acp,aco];refine aeC ?_;intro L' F C z D E q1 q2 q3;replace q1:=hid q1;replace q2:=hid q2;replace q3:=hid q3;refine wk ?_;exact ag (h.o L' _ _ _ _ _ q1.o q2.o q3.o)
end
set_option maxHeartbeats 8000000
set_option maxRecDepth 100000
theorem Ka{β γ:Type}(f:β->γ):∀(l:List β) (n:Nat),(l.eraseIdx n).map f=(l.map f).eraseIdx n
 |[],_=>rfl
 |x::l,0=>rfl
 |x::l,n+1=>by simp only[adS,abO,Ka f l n]
theorem nn{β γ:Type}[DecidableEq γ](f:β->γ):∀(l:List β) (k:γ),(l.map f).Nodup->∀n,l.findIdx? (λx=>decide (f x=k))=some n->l.eraseIdx n=l.filter λx=>decide (f x≠k)
 |[],k,_,n,h=>by simp at h
 | x::l,k,hn,n,h=>by
   rw[abO,acu]at hn;rw[acV]at h;by_cases c:f x=k
   .rw[decide_eq_true c]at h;simp only[if_true,abz]at h;subst h;rw[List.filter_cons_of_neg (by simpa using c)];exact(List.filter_eq_self.2 λy a=>by simp only[ne_eq,decide_eq_true_eq];intro e;exact hn.1 (abB.2 ⟨y,a,by rw[e,c]⟩)).symm
   .rw[decide_eq_false c]at h;simp only[abT,if_false,abZ]at h;obtain⟨m,b,rfl⟩:=h;rw[List.filter_cons_of_pos (by simpa using c),adS,nn f l k hn.2 m b]
section
variable {L:List Blk}{iv mn mi it:Nat}{nb bn:Int->Nat}{ck ci:Nat}{rs:List TKy}{suf:List Rdn}{last:Int}{l lk:List aA}{kd:Int->Int}
theorem bc.nemi(h:bc L iv mn mi nb bn ck ci rs suf last l lk kd):iv≠mi:=λe=>by have:=h.v;rw[e,h.i]at this;simp at this
theorem bc.nemn(h:bc L iv mn mi nb bn ck ci rs suf last l lk kd):iv≠mn:=λe=>by have:=h.v;rw[e,h.n]at this;simp at this
theorem bc.nenb(h:bc L iv mn mi nb bn ck ci rs suf last l lk kd){x:aA}(b:x∈l):nb x.id≠iv/\nb x.id≠mn/\nb x.id≠mi:=by have a:=h.nd x b;exact⟨λe=>by rw[e,h.v]at a;simp[cc]at a,λe=>by rw[e,h.n]at a;simp at a,λe=>by rw[e,h.i]at a;simp at a⟩
theorem bc.delk(h:bc L iv mn mi nb bn ck ci rs suf last l lk kd)(s:mn≠mi){y:aA}(F:y∈lk)(H:∀x∈lk,aN true x.nm=aN true y.nm↔x.id=y.id):
  ∃j,bF (.str (aN true y.nm)) (rs.map kyA) 0=some (some (j,.int .i64 y.id))/\bc (L.set mi (.map ((rs.map kyA).eraseIdx j) ci)) iv mn mi nb bn ck ci (rs.eraseIdx j) suf last l (LX lk y.id) kd:=by
 obtain⟨b,B⟩:=(h.mem (aN true y.nm) y.id).2 ⟨y,F,rfl,rfl⟩;rw[xt];rcases iH (f:=λr:TKy=>decide (r.1=aN true y.nm)) (l:=rs)with⟨o,p⟩|⟨n,o,G,p⟩
 grind
 have C:=acW p;have z:=acX p;simp only[decide_eq_true_eq]at z;have E:rs.getD n default=(aN true y.nm,y.id,b):=bN h.keys C B z;have t:=(aby.1 h.i).1;have g:=nn (λr:TKy=>r.1) rs (aN true y.nm) h.keys n o;refine⟨n,by rw[o];simp only[abQ,E,acS],?_⟩;have q:∀r:TKy,r∈rs.eraseIdx n↔r∈rs/\r.1≠aN true y.nm:=λr=>by rw[g,acj];simp
 refine⟨by rw[abE (Ne.symm h.nemi)];exact h.v,by rw[abE (Ne.symm s)];exact h.n,by rw[ab9 t,Ka],λx a=>by rw[abE (Ne.symm (h.nenb a).2.2)];exact h.nd x a,h.inj,(List.Sublist.map _ (aej ..)).nodup h.keys,λk id=>?_,h.bnd,h.blt⟩;constructor;rintro⟨c,w⟩;obtain⟨m,A⟩:=(q _).1 w;obtain⟨x,a,d,e⟩:=(h.mem k id).1 ⟨c,m⟩;refine⟨x,acj.2 ⟨a,?_⟩,d,e⟩
 grind
 rintro⟨x,a,d,e⟩;obtain⟨u,D⟩:=acj.1 a;obtain⟨c,w⟩:=(h.mem k id).2 ⟨x,u,d,e⟩
 grind
theorem bc.deln(h:bc L iv mn mi nb bn ck ci rs suf last l lk kd)(c:mn≠mi)(g:(l.map (·.id)).Nodup){y:aA}(o:y∈l):
  ∃j v,bF (.int .i64 y.id) (l.map (eO nb bn)) 0=some (some (j,v))/\bc (L.set mn (.map ((l.map (eO nb bn)).eraseIdx j) ck)) iv mn mi nb bn ck ci rs suf last (LX l y.id) lk kd:=by
 rw[xq];rcases iH (f:=λx:aA=>decide (x.id=y.id)) (l:=l)with⟨e,m⟩|⟨n,e,p,m⟩
 grind
 have b:=(aby.1 h.n).1;have d:=nn (λx:aA=>x.id) l y.id g n e;have sub:∀x∈LX l y.id,x∈l:=λx a=>(acj.1 a).1
 refine⟨n,_,by rw[e];simp;rfl,?_⟩;refine⟨by rw[abE (Ne.symm h.nemn)];exact h.v,by rw[ab9 b,<- Ka,d];rfl,by rw[abE c];exact h.i,λx a=>by rw[abE (Ne.symm (h.nenb (sub x a)).2.1)];exact h.nd x (sub x a),λx a z k=>h.inj x (sub x a) z (sub z k),h.keys,h.mem,?_,λx a=>h.blt x (sub x a)⟩;exact(List.Sublist.map _ List.filter_sublist).nodup h.bnd
theorem bc.cha(h:bc L iv mn mi nb bn ck ci rs suf last l lk kd){y:aA}(r:y∈l)(v:List Atr):
  bc (L.set (nb y.id) (.cells [dnA y.nm,.sl (ax (pth y)) y.nm.length none,atR v,.int .i64 (kd y.id)])) iv mn mi nb bn ck ci rs suf last (xY l y.id v) (xY lk y.id v) kd:=by
 have q:=h.nd y r;have I:=(aby.1 q).1;obtain⟨D,A,n3⟩:=h.nenb r;have f:(xY l y.id v).map (eO nb bn)=l.map (eO nb bn):=by
  unfold xY;rw[abW];refine acB λx _=>?_
  simp only[adI];split<;>rfl
 have t:(xY l y.id v).map (λx=>bn x.id)=l.map (λx=>bn x.id):=by
  unfold xY;rw[abW];refine acB λx _=>?_
  grind
 have back:∀{m:List aA} {x},x∈xY m y.id v->∃z∈m,z.id=x.id/\z.nm=x.nm/\(z.id=y.id->x.av=v)/\(z.id≠y.id->x=z):=λ{m x} d=>by
  obtain⟨z,c,rfl⟩:=abB.1 d
  grind
 have p:∀{m:List aA} {z},z∈m->∃x∈xY m y.id v,x.id=z.id/\x.nm=z.nm:=λ{m z} c=>by refine⟨_,abB.2 ⟨z,c,rfl⟩,?_,?_⟩<;>split<;>rfl
 refine⟨by rw[abE D];exact h.v,by rw[abE A,f];exact h.n,by rw[abE n3];exact h.i,λx d=>?_,λx d z c e=>?_,h.keys,λk id=>?_,by rw[t];exact h.bnd,λx d=>?_⟩;obtain⟨z,c,g,j,G,u⟩:=back d;by_cases e:nb y.id=nb z.id;have H:=h.inj y r z c e;have s:cc kd y=cc kd z:=by have F:=h.nd z c;simp_all
 unfold cc at s⊢;have E:pth x=pth z:=by unfold pth;rw[j]
 simp_all;have o:z.id≠y.id:=λB=>e (by rw[B])
 rw[u o,abE e];exact h.nd z c;obtain⟨a,C,g,_⟩:=back d;obtain⟨b,w,j,_⟩:=back c;rw[<- g,<- j]at e⊢;exact h.inj a C b w e;rw[h.mem k id]
 grind
 obtain⟨z,c,g,_⟩:=back d;rw[<- g];exact h.blt z c
def nmT(l:List aA)(id:Int)(d:List Rdn):List aA:=l.map λx=>if x.id=id then{x with nm:=d}else x
theorem bc.ren(h:bc L iv mn mi nb bn ck ci rs suf last l lk kd)(u:mn≠mi){y:aA}(A:y∈l){d:List Rdn}(F:∀x∈lk,aN true x.nm≠aN true d)(X:List Blk):
  bF (.str (aN true d)) (rs.map kyA) 0=some none /\
  bc ((L.set (nb y.id) (.cells [dnA d,.sl (ax (NK d).reverse) d.length none,atR y.av,.int .i64 (kd y.id)])).set mi (.map ((rs++[(aN true d,y.id,ci)]).map kyA) (ci+1))++X) iv mn mi nb bn ck (ci+1) (rs++[(aN true d,y.id,ci)]) suf last (nmT l y.id d) (lk++[{y with nm:=d}]) kd:=by
 have q:∀r∈rs,r.1≠aN true d:=λr hr e=>by obtain⟨x,c,j,_⟩:=(h.mem r.1 r.2.1).1 ⟨r.2.2,hr⟩;simp_all
 refine⟨by rw[xt,aeh.2 λr hr=>by simpa using q r hr];rfl,bc.app ?_ X⟩;have s:=h.nd y A;have M:=(aby.1 s).1;have B:=(aby.1 h.i).1;obtain⟨H,G,n3⟩:=h.nenb A;have m:(nmT l y.id d).map (eO nb bn)=l.map (eO nb bn):=by
  unfold nmT;rw[abW];refine acB λx _=>?_
  simp only[adI];split<;>rfl
 have w:(nmT l y.id d).map (λx=>bn x.id)=l.map (λx=>bn x.id):=by
  unfold nmT;rw[abW];refine acB λx _=>?_
  grind
 have back:∀{x},x∈nmT l y.id d->∃z∈l,z.id=x.id/\z.av=x.av/\(z.id=y.id->x.nm=d)/\(z.id≠y.id->x=z):=λ{x} c=>by
  obtain⟨z,f,rfl⟩:=abB.1 c
  grind
 refine⟨by rw[abE (Ne.symm h.nemi),abE H];exact h.v,by rw[abE (Ne.symm u),abE G,m];exact h.n,by rw[ab9 (by simpa using B)],λx c=>?_,λx c z f e=>?_,?_,λk id=>?_,by rw[w];exact h.bnd,λx c=>?_⟩;obtain⟨z,f,j,o,D,E⟩:=back c;rw[<- j,abE (Ne.symm (h.nenb f).2.2)];by_cases e:nb y.id=nb z.id;have I:=h.inj y A z f e;have t:cc kd y=cc kd z:=by have K:=h.nd z f;simp_all
 unfold cc at t⊢;have N:pth x=(NK d).reverse:=by unfold pth;rw[D I.symm]
 simp_all;have p:z.id≠y.id:=λJ=>e (by rw[J])
 rw[E p,abE e];exact h.nd z f;obtain⟨a,C,j,_⟩:=back c;obtain⟨b,g,o,_⟩:=back f;rw[<- j,<- o]at e⊢;exact h.inj a C b g e;rw[abS,ac7];refine⟨h.keys,aev,λa C b g e=>?_⟩
 grind
 constructor;rintro⟨b,g⟩;rcases abD.1 g with g|g;obtain⟨x,c,e⟩:=(h.mem k id).1 ⟨b,g⟩
 grind
 simp_all;rintro⟨x,c,j,o⟩;rcases abD.1 c with c|c;obtain⟨b,g⟩:=(h.mem k id).2 ⟨x,c,j,o⟩
 grind
 simp_all;obtain⟨z,f,j,_⟩:=back c;rw[<- j];exact h.blt z f
end
set_option maxHeartbeats 8000000
set_option maxRecDepth 100000
theorem Ud{a b:List Rdn}(h:NK a=NK b):aN true a=aN true b:=by unfold aN;unfold NK at h;rw[h]
theorem Nk(l:List aA)(i:Int):(ja l i:Int)<=l.length:=by
 unfold ja aP;cases zW l i with
 |none=>simp
 |some x=>simp only;exact Int.ofNat_le.2 (aca (adJ _ _) (by simp[cU]))
theorem TOk.parI{suf:List Rdn}{last:Int}{l:List aA}(h:TOk suf last l)(a:x∈l){d:List Rdn}(hd:OkD d):x.id=aO l d.tail↔(NK d).tail=NK x.nm:=by
 rw[<- JU];constructor;intro e;unfold aO at e;cases hq:atE l d.tail with
 |none=>rw[hq]at e;have:=(h.ids x a).1;simp only at e;omega
 | some y =>
   rw[hq]at e;obtain⟨_,b,c⟩:=bY hq;rw[h.byI a b e,c]
 intro e;unfold aO;rw[h.at a hd.tail e]
section
variable {L:List Blk}{iv mn mi it:Nat}{nb bn:Int->Nat}{ck ci:Nat}{rs:List TKy}{suf:List Rdn}{last:Int}{l:List aA}
theorem aaU(m:TOk suf last l)(I:mn≠mi)(a8:l.length<=1000000)(j:L[it]?=some (.cells [.ptr iv 0]))(F:aU L iv mn mi nb bn ck ci rs suf last l){dn tn:List Rdn}{v:AV}(r:dnB dn)(a4:dnB tn){x:aA}(hx:atE l dn=some x)(H:eN suf l 2 dn tn=0){K:abx}(h:∀L' u w,aU L' iv mn mi nb bn ck u w suf last (LX l x.id)->L'[it]?=some (.cells [.ptr iv 0])->aL (OfT iv mn mi nb l) L L'->K (.int .i64 0) L'):
  abw 31 [.ptr it 0,.agg [.int .i64 2,dnA dn,dnA tn,v]] L K:=by
 obtain⟨Q,a,M⟩:=bY hx;have Y:aP (cU l) (NK x.nm)=0:=by unfold eN at H;rw[if_neg (by decide),if_neg (by decide),hx]at H;simp only[if_true]at H;by_cases c:aP (cU l) (NK x.nm)=0;exact c;rw[if_pos c]at H;exact absurd H (by decide)
 obtain⟨y,W⟩:=m.del a Y;have ab:aO l dn=x.id:=by unfold aO;rw[hx]
 have U:=F.toK m;have T:aN true dn=aN true x.nm:=Ud M.symm;have hu:∀z∈l,aN true z.nm=aN true x.nm↔z.id=x.id:=λz s=>⟨λe=>by rw[m.byN s a ((mc (m.ok z s) (m.ok x a)).1 e)],λe=>by rw[m.byI s a e]⟩
 obtain⟨j1,f,S⟩:=U.delk I a hu;obtain⟨j2,v2,a5,J⟩:=S.deln I (by have hn:=m.inv.ids;unfold cU at hn;rw[abW]at hn;exact hn) a
 have t:=F.v;have R:=F.n;have N:=F.i;have D:iv<L.length:=(aby.1 t).1;have C:mn<L.length:=(aby.1 R).1;have E:mi<L.length:=(aby.1 N).1;have p:it<L.length:=(aby.1 j).1;have O:=U.noIt j;have n1:mi≠it:=λe=>O (.inr (.inr (.inl e.symm)))
 have n2:mn≠it:=λe=>O (.inr (.inl e.symm))
 have n3:=U.nemi;have n4:=U.nemn;have av:∀X:List Blk,(L++X)[iv]?=some (.cells [dnA suf,.lmap mn,.lmap mi,.int .i64 last]):=λX=>by rw[abC D];exact t
 have a9:∀X:List Blk,(L++X)[it]?=some (.cells [.ptr iv 0]):=λX=>by rw[abC p];exact j
 have ai:∀X:List Blk,(L++X)[mi]?=some (.map (rs.map kyA) ci):=λX=>by rw[abC E];exact N
 have si:∀(X:List Blk) b,(L++X).set mi b=L.set mi b++X:=λX b=>adk _ _ E
 have bb:∀(X:List Blk) b,(L.set mi b++X)[iv]?=some (.cells [dnA suf,.lmap mn,.lmap mi,.int .i64 last]):=λX b=>by rw[abC (by simpa using D),abE (Ne.symm n3)];exact t
 have bd:∀(X:List Blk) b,(L.set mi b++X)[it]?=some (.cells [.ptr iv 0]):=λX b=>by rw[abC (by simpa using p),abE n1];exact j
 have a6:∀(X:List Blk) b,(L.set mi b++X)[mn]?=some (.map (l.map (eO nb bn)) ck):=λX b=>by rw[abC (by simpa using C),abE (Ne.symm I)];exact R
 have a7:∀(X:List Blk) b c,(L.set mi b++X).set mn c=(L.set mi b).set mn c++X:=λX b c=>adk _ _ (by simpa using C)
 have a':∀(X:List Blk) (b c d:Blk),((L.set mi b).set mn d++c::X)[L.length]?=some c:=λX b c d=>by rw[abN aev];simp
 have kk1:Hid (∀{X:List Blk}{K:abx},K (.int .i64 0) (L++X)->abw 13 [.ptr iv 0,.agg [.int .i64 2,dnA dn,dnA tn,v]] (L++X) K):=@hid _ (by intro X K q;exact EJ m aeu (F.app X) r a4 (by rw[H];exact q))
 have kk2:Hid (∀{X:List Blk}{K:abx},K (.int .i64 x.id) (L++X)->abw 26 [.ptr iv 0,dnA dn] (L++X) K):=@hid _ (by intro X K q;exact pW r m (F.app X) (by rw[ab];exact q))
 have kk3:Hid (Ctr Tryz.prog 61 [dnA dn] (.tup [.str (aN true dn),.int .i64 0])):=@hid _ (by intro L K q;exact J7 r.1 r.2 (by rw[pY Q];exact q))
 obtain⟨k,al⟩:∃k:Blk,k=.cells [.int .i64 2,dnA dn,dnA tn,v]:=⟨_,rfl⟩;obtain⟨A,hA⟩:=abr ((L.set mi (.map ((rs.map kyA).eraseIdx j1) ci)).set mn (.map ((l.map (eO nb bn)).eraseIdx j2) ck));rw[hA]at J;have a0:A.length=L.length:=by rw[<- hA];simp
 have a_:∀(X:List Blk) (c:Blk),(A++c::X)[L.length]?=some c:=λX c=>by rw[abN aeu,a0];simp
 have G:aL (OfT iv mn mi nb l) L A:=by rw[<- hA];exact(aL.set L (.inr (.inr (.inl rfl))) _).trans (aL.set _ (.inr (.inl rfl)) _)
 have P:=J.app [k];have g:(A++[k])[it]?=some (.cells [.ptr iv 0]):=by have a2:it<A.length:=(by rw[<- hA];simpa using p);rw[abC a2];exact G.get j O
 have kk4:Hid (∀{K:abx},(∀L' u w,aU L' iv mn mi nb bn ck u w suf last (LX l x.id)->L'[it]?=some (.cells [.ptr iv 0])->aL (OfT iv mn mi nb l) L L'->K (.tup []) L')->abw 70 [.ptr it 0,dnA dn,.int .i64 (-1)] (A++[k]) K):=@hid _ (by
  intro K q;have an:dn≠[]:=λe=>m.inv.ne (fI a) (by rw[M,e];rfl)
  refine EM r an y (λx hx=>⟨x,hx,rfl⟩) (λz s=>(y.ids z s).1) g P aeu (λi=>by have:=Nk l i;omega) λL' a1 hb=>?_
  refine q L' _ _ (a1.toT λz s=>?_) (hb.get g (P.noIt g)) (((G.trans (aL.app A [k])).trans2 hb λi hi=>?_));have ap:z∈l:=(acj.1 s).1;have h1:=W (NK z.nm);rw[<- m.kidsE ap,M]at h1;have B:=y.parI s Q;by_cases hp:(NK dn).tail=NK z.nm;rw[if_pos hp]at h1;rw[if_pos (B.2 hp)];omega;rw[if_neg hp]at h1;rw[if_neg (λe=>hp (B.1 e))];omega;rintro(e|e|e|⟨z,s,e⟩);exact .inl e;exact .inr (.inl e);exact .inr (.inr (.inl e));exact .inr (.inr (.inr ⟨z,(acj.1 s).1,e⟩)))
 have Z:aT .str (.str (aN true dn))=true:=rfl;have ad:aT .int (.int .i64 x.id)=true:=rfl;rw[<- T]at f;obtain⟨tk,V⟩:=abr (aN true dn);obtain⟨xi,a3⟩:=abr (x.id);rw[V]at f kk3 Z;rw[a3]at f a5 kk2 ad h;replace h:=hid h;replace f:=hid f;clear U S J P G g hu T V t R N j F m y W Y ab Q H;have f:=f.o;subst al;refine abv eh ?_;intro L' u w q1 q2 q3;replace q1:=hid q1;replace q2:=hid q2;replace q3:=hid q3;refine wk ?_;exact ag (h.o L' _ _ q1.o q2.o q3.o)
theorem aaV(p:TOk suf last l)(R:l.length<=1000000)(e:L[it]?=some (.cells [.ptr iv 0]))(i:aU L iv mn mi nb bn ck ci rs suf last l){dn tn:List Rdn}{v:List Atr}(C:dnB dn)(G:dnB tn)(M:v.length<=1100000)(F:∀a∈v,a.2.length<=1100000){x:aA}(J:atE l dn=some x){K:abx}(h:∀L',aU L' iv mn mi nb bn ck ci rs suf last (xY l x.id v)->L'[it]?=some (.cells [.ptr iv 0])->aL (OfT iv mn mi nb l) L L'->K (.int .i64 0) L'):
  abw 31 [.ptr it 0,.agg [.int .i64 3,dnA dn,dnA tn,atR v]] L K:=by
 obtain⟨N,d,S⟩:=bY J;have Q:eN suf l 3 dn tn=0:=by unfold eN;rw[if_neg (by decide),if_neg (by decide),J];rfl
 have t:aO l dn=x.id:=by unfold aO;rw[J]
 have E:=i.toK p;have u:=E.cha d v;have j:aL (OfT iv mn mi nb l) L (L.set (nb x.id) (.cells [dnA x.nm,.sl (ax (pth x)) x.nm.length none,atR v,.int .i64 (ja l x.id:Nat)])):=aL.set L (.inr (.inr (.inr ⟨x,d,rfl⟩))) _;have I:=E.noIt e;have H:aU (L.set (nb x.id) (.cells [dnA x.nm,.sl (ax (pth x)) x.nm.length none,atR v,.int .i64 (ja l x.id:Nat)])) iv mn mi nb bn ck ci rs suf last (xY l x.id v):=u.toT λz V=>by obtain⟨y,Z,rfl⟩:=abB.1 V;rw[Na];have U:(if y.id=x.id then{y with av:=v}else y).id=y.id:=(by split<;>rfl);have W:(if y.id=x.id then{y with av:=v}else y).nm=y.nm:=(by split<;>rfl);rw[U,W,p.kidsE Z]
 have c:=h _ (H.app [.cells [.int .i64 3,dnA dn,dnA tn,atR v]]) ((j.trans (aL.app _ _)).get e I) (j.trans (aL.app _ _));have k:=i.v;have m:=i.n;have B:iv<L.length:=(aby.1 k).1;have s:mn<L.length:=(aby.1 m).1;have r:it<L.length:=(aby.1 e).1;have f:=E.nd x d;have g:nb x.id<L.length:=(aby.1 f).1;unfold cc at f;have av:∀X:List Blk,(L++X)[iv]?=some (.cells [dnA suf,.lmap mn,.lmap mi,.int .i64 last]):=λX=>by rw[abC B];exact k
 have Y:∀X:List Blk,(L++X)[it]?=some (.cells [.ptr iv 0]):=λX=>by rw[abC r];exact e
 have an:∀X:List Blk,(L++X)[mn]?=some (.map (l.map (eO nb bn)) ck):=λX=>by rw[abC s];exact m
 have P:∀X:List Blk,(L++X)[nb x.id]?=some (.cells [dnA x.nm,.sl (ax (pth x)) x.nm.length none,atR x.av,.int .i64 (ja l x.id:Nat)]):=λX=>by rw[abC g];exact f
 have sd:∀(X:List Blk) b,(L++X).set (nb x.id) b=L.set (nb x.id) b++X:=λX b=>adk _ _ g
 have kk1:Hid (∀{X:List Blk}{K:abx},K (.int .i64 0) (L++X)->abw 13 [.ptr iv 0,.agg [.int .i64 3,dnA dn,dnA tn,atR v]] (L++X) K):=@hid _ (by intro X K q;exact EJ p aeu (i.app X) C G (by rw[Q];exact q))
 have kk2:Hid (∀{X:List Blk}{K:abx},K (.int .i64 x.id) (L++X)->abw 26 [.ptr iv 0,dnA dn] (L++X) K):=@hid _ (by intro X K q;exact pW C p (i.app X) (by rw[t];exact q))
 have kk3:Hid (Ctr Tryz.prog 68 [atR v] (atR v)):=@hid _ (by intro L K q;exact Mg M F q);have w:aT .int (.int .i64 x.id)=true:=rfl;rcases i.node x.id with⟨D,_⟩|⟨x',n,D,_,_,T,_⟩;rw[p.ent d]at D;cases D;obtain⟨q,O⟩:∃q:Int,(ja l x.id:Nat)=q:=⟨_,rfl⟩;rw[O]at P c;obtain⟨xi,A⟩:=abr (x.id);rw[A]at w T kk2 P sd c;replace h:=hid c;clear c E u j k m e i p t N Q A O d D f;unfold atR at kk1 kk3 h⊢;refine abv eh ?_;exact ag h.o
end
set_option maxHeartbeats 8000000
set_option maxRecDepth 100000
def Hj(l:List aA)(dn:List Rdn):List aA:=l.filter λz => !gr z.nm dn
theorem mg{l:List aA}{z:aA}:z∈Hj l dn↔z∈l/\gr z.nm dn=false:=by unfold Hj;rw[acj];simp
theorem TOk.cut{suf:List Rdn}{last:Int}{l:List aA}(h:TOk suf last l)(hd:OkD dn):TOk suf last (Hj l dn):=by
 have sub:∀z∈Hj l dn,z∈l:=λz a=>(mg.1 a).1
 have d:(cU (Hj l dn)).Sublist (cU l):=List.filter_sublist.map _;refine⟨h.sok,λz a=>h.ok z (sub z a),⟨h.inv.sne,(d.map _).nodup h.inv.nd,(d.map _).nodup h.inv.ids,λm c=>h.inv.un m (d.subset c),λm c=>?_⟩,λz a=>h.ids z (sub z a)⟩;obtain⟨z,a,rfl⟩:=abB.1 c;obtain⟨b,j⟩:=mg.1 a;rcases h.inv.par _ (fI b)with e|⟨k,g,e⟩;simp_all;obtain⟨w,i,rfl⟩:=abB.1 g;refine .inr ⟨_,fI (mg.2 ⟨i,?_⟩),e⟩;cases hu:gr w.nm dn with
 |false=>rfl
 | true =>
   have f:=(dc.1 hu).2.2;simp only at e;rw[e]at f;have:gr z.nm dn=true:=dc.2 ⟨h.ok z b,hd,f.trans (adn _)⟩;simp_all
def Nf(l:List aA)(dn tn:List Rdn)(ids:List Int):List aA:=l.map λz=>if z.id∈ids then{z with nm:=ni z.nm dn.length tn}else z
theorem Ym(l:List aA)(dn tn:List Rdn):Nf l dn tn []=l:=by unfold Nf;simp
theorem Wr{suf:List Rdn}{last:Int}{l:List aA}(h:TOk suf last l)(dn tn:List Rdn)(a:y∈l)(c:y.id∉ids):nmT (Nf l dn tn ids) y.id (ni y.nm dn.length tn)=Nf l dn tn (ids++[y.id]):=by
 unfold nmT Nf;rw[abW];refine acB λz b=>?_
 by_cases e:z.id=y.id;have:=h.byI b a e;simp[*]
 grind
theorem ZV{l:List aA}(dn tn:List Rdn)(a:y∈l)(b:y.id∉ids):y∈Nf l dn tn ids:=abB.2 ⟨y,a,if_neg b⟩
theorem Yn{l:List aA}(dn tn:List Rdn)(h:∀z∈l,z.id∈ids↔gr z.nm dn=true):Nf l dn tn ids=pX l dn tn:=by unfold Nf pX;simp_all
theorem MK{l:List aA}{z:aA}(h:z∈pX l dn tn):∃y∈l,y.id=z.id/\z=(if gr y.nm dn=true then{y with nm:=ni y.nm dn.length tn}else y):=by
 obtain⟨y,a,rfl⟩:=abB.1 h
 grind
theorem V6{suf:List Rdn}{last:Int}{l:List aA}(h:TOk suf last l){dn tn:List Rdn}(hd:OkD dn){y:aA}(a:y∈l):NK (if gr y.nm dn=true then{y with nm:=ni y.nm dn.length tn}else y).nm=ren (NK dn) (NK tn) (NK y.nm):=by by_cases c:gr y.nm dn=true;rw[if_pos c,TB c];rw[if_neg c,ft λb=>c (dc.2 ⟨h.ok y a,hd,b⟩)]
theorem TOk.movK{suf:List Rdn}{last:Int}{l:List aA}(h:TOk suf last l)(a:aaw suf l x dn tn)(b:y∈l):
  (aP (cU (pX l dn tn)) (NK (if gr y.nm dn=true then{y with nm:=ni y.nm dn.length tn}else y).nm):Int)=(if y.id=aO (pX l dn tn) tn.tail then(if y.id=aO (Hj l dn) dn.tail then(ja l y.id:Int) + -1 else ja l y.id)+1 else(if y.id=aO (Hj l dn) dn.tail then(ja l y.id:Int) + -1 else ja l y.id)):=by
 obtain⟨f,j⟩:=h.mov a;have d:=h.cut a.ok;rw[V6 h a.ok b,j y b,h.kidsE b];have q:y.id=aO (Hj l dn) dn.tail↔NK y.nm=(NK dn).tail:=by
  cases hu:gr y.nm dn with
  |false=>rw[d.parI (mg.2 ⟨b,hu⟩) a.ok];exact eq_comm
  | true =>
    constructor
    .intro e;unfold aO at e;cases hq:atE (Hj l dn) dn.tail with
     |none=>rw[hq]at e;have:=(h.ids y b).1;simp only at e;omega
     | some w =>
       rw[hq]at e;obtain⟨k,o⟩:=mg.1 (bY hq).2.1;have:=h.byI b k e;simp_all
    .intro e;have c:=(dc.1 hu).2.2.length_le;rw[e,ado]at c;have:NK dn≠[]:=λg=>h.inv.ne (fI a.mem) (by rw[a.nk,g])
     have:=acr.2 this;omega
 have p:y.id=aO (pX l dn tn) tn.tail↔NK y.nm=(NK tn).tail:=by have m:(if gr y.nm dn=true then{y with nm:=ni y.nm dn.length tn}else y)∈pX l dn tn:=abB.2 ⟨y,b,rfl⟩;have c:=f.parI m a.tok;rw[V6 h a.ok b]at c;rw[show(if gr y.nm dn=true then{y with nm:=ni y.nm dn.length tn}else y).id=y.id by split<;>rfl]at c;rw[c];constructor;intro e;by_cases i:NK dn <:+ NK y.nm;obtain⟨w,n⟩:=i;rw[<- n,gf]at e;have:=congrArg List.length e;rw[ado,abP]at this;have:=acr.2 (λg=>a.tne (SZ.1 g));omega;rw[ft i]at e;exact e.symm;intro e;rw[e,ft a.nun]
 grind
section
variable {L:List Blk}{iv mn mi it:Nat}{nb bn:Int->Nat}{ck ci:Nat}{rs:List TKy}{suf:List Rdn}{last:Int}{l lk:List aA}{kd:Int->Int}
theorem bc.lkE(h:bc L iv mn mi nb bn ck ci rs suf last l lk kd){lk':List aA}(e:∀z,z∈lk↔z∈lk'):bc L iv mn mi nb bn ck ci rs suf last l lk' kd :=
 ⟨h.v,h.n,h.i,h.nd,h.inj,h.keys,λk id=>by rw[h.mem k id];exact⟨λ⟨x,b,a⟩=>⟨x,(e x).1 b,a⟩,λ⟨x,b,a⟩=>⟨x,(e x).2 b,a⟩⟩,h.bnd,h.blt⟩
def lkD(l:List aA)(ys:List aA):List aA:=l.filter λz => !ys.any λy=>decide (y.id=z.id)
theorem EP{l a:List aA}{z:aA}:z∈lkD l a↔z∈l/\∀y∈a,y.id≠z.id:=by unfold lkD;simp
theorem Wt(l a:List aA)(y:aA):∀z,z∈LX (lkD l a) y.id↔z∈lkD l (a++[y]):=λz=>by
 unfold LX;rw[acj,EP,EP]
 grind
end
set_option maxHeartbeats 8000000
set_option maxRecDepth 100000
theorem OfT.lt{L:List Blk}{iv mn mi:Nat}{nb bn:Int->Nat}{ck ci:Nat}{rs:List TKy}{suf:List Rdn}{last:Int}{l lk:List aA}{kd:Int->Int}(h:bc L iv mn mi nb bn ck ci rs suf last l lk kd)(a:OfT iv mn mi nb l i):i<L.length:=by rcases a with rfl|rfl|rfl|⟨x,b,rfl⟩;exact(aby.1 h.v).1;exact(aby.1 h.n).1;exact(aby.1 h.i).1;exact(aby.1 (h.nd x b)).1
theorem VW{suf:List Rdn}{last:Int}{l:List aA}(b:TOk suf last l)(x:aA)(s:Int):((scL l x s).map (·.id)).Nodup:=by have a:=b.inv.ids;unfold cU at a;rw[abW]at a;have:((l.filter (ir x s)).map (·.id)).Nodup:=(List.filter_sublist.map _).nodup a;exact((acZ _ _).map _).nodup_iff.2 this
section
variable {L:List Blk}{iv mn mi it:Nat}{nb bn:Int->Nat}{ck ci:Nat}{rs:List TKy}{suf:List Rdn}{last:Int}{l:List aA}
theorem aaS(r:TOk suf last l)(c':mn≠mi)(eL:l.length<=1000000)(a6:L[it]?=some (.cells [.ptr iv 0]))(hc:aU L iv mn mi nb bn ck ci rs suf last l){dn tn:List Rdn}{v:List Atr}(cy:dnB dn)(dk:dnB tn)(ei:v.length<=1100000)(en:∀a∈v,a.2.length<=1100000){x:aA}(hx:atE l dn=some x)(cm:QM suf l x.id dn tn=0){K:abx}(h:∀L' c0 C,aU L' iv mn mi nb bn ck c0 C suf last (xY (pX l dn tn) x.id v)->L'[it]?=some (.cells [.ptr iv 0])->aL (OfT iv mn mi nb l) L L'->K (.int .i64 0) L'):
  abw 31 [.ptr it 0,.agg [.int .i64 4,dnA dn,dnA tn,atR v]] L K:=by
 obtain⟨cq,ai,d'⟩:=bY hx;have a2:=r.canM hx cm;have ha:eN suf l 4 dn tn=0:=by unfold eN;rw[if_neg (by decide),if_neg (by decide),hx];exact cm
 have dp:aO l dn=x.id:=by unfold aO;rw[hx]
 have s:=hc.toK r;have c2:=s.noIt a6;have I:=hc.v;have d_:iv<L.length:=(aby.1 I).1;have ey:mi<L.length:=(aby.1 hc.i).1;have ca:it<L.length:=(aby.1 a6).1;have b':¬OfT iv mn mi nb l L.length:=λe=>Nat.lt_irrefl _ (OfT.lt s e)
 have av:∀X:List Blk,(L++X)[iv]?=some (.cells [dnA suf,.lmap mn,.lmap mi,.int .i64 last]):=λX=>by rw[abC d_];exact I
 have et:∀X:List Blk,(L++X)[it]?=some (.cells [.ptr iv 0]):=λX=>by rw[abC ca];exact a6
 have kk1:Hid (∀{X:List Blk}{K:abx},K (.int .i64 0) (L++X)->abw 13 [.ptr iv 0,.agg [.int .i64 4,dnA dn,dnA tn,.sl (cj v) v.length none]] (L++X) K):=@hid _ (by intro X K q;exact EJ r aeu (hc.app X) cy dk (by rw[ha];exact q))
 have kk2:Hid (∀{X:List Blk}{K:abx},K (.int .i64 x.id) (L++X)->abw 26 [.ptr iv 0,dnA dn] (L++X) K):=@hid _ (by intro X K q;exact pW cy r (hc.app X) (by rw[dp];exact q))
 obtain⟨d,a_⟩:=abr (scL l x 2);have kk3:Hid (∀{X:List Blk}{K:abx},K (.sl ((d.map (·.id)).map (AV.int .i64)) d.length none) (L++X)->abw 32 [.ptr iv 0,.int .i64 x.id,.int .i64 2] (L++X) K):=@hid _ (by intro X K q;refine MA r aeu (hc.app X) ?_;rw[MI (r.ent ai),a_,abM];exact q)
 have d7:=Px l x 2;have k:=λy=>Mi (y:=y) r hx
 have bk:=VW r x 2;rw[a_]at d7 k bk;have V:∀(j:Nat) (y:aA),d[j]?=some y->(((d.map (·.id)).map (AV.int .i64)).getD j .undef=.int .i64 y.id)/\y∈l/\gr y.nm dn=true/\(∀z∈d.take j,z.id≠y.id)/\d.take (j+1)=d.take j++[y]:=λj y hj=>by obtain⟨d8,e⟩:=aby.1 hj;have hm:=acC hj;obtain⟨J,Q⟩:=(k y).1 hm;refine⟨by simp[hj],J,Q,λz f e2=>?_,by rw[ab6 d8,e]⟩;obtain⟨i,R,e3⟩:=adv.1 f;rw[List.getElem_take]at e3;rw[acv]at R;have ep:i<j:=aeu;have:=List.pairwise_iff_getElem.1 bk i j (by simp;omega) (by simpa using d8) ep;exact this (by simp[e3,e,e2])
 have e0:=cq.len;obtain⟨O,d1⟩:∃O:Blk,O=.cells [.int .i64 4,dnA dn,dnA tn,.sl (cj v) v.length none]:=⟨_,rfl⟩;have hu:∀y∈l,∀z∈l,aN true z.nm=aN true y.nm↔z.id=y.id:=λy hy z f=>⟨λe=>by rw[r.byN f hy ((mc (r.ok z f) (r.ok y hy)).1 e)],λe=>by rw[r.byI f hy e]⟩
 have c5:bc (L++[O]) iv mn mi nb bn ck ci rs suf last l (lkD l (d.take 0)) (λid=>(ja l id:Nat)):=(s.app [O]).lkE λz=>by rw[EP];simp
 have ch:aL (OfT iv mn mi nb l) L (L++[O]):=aL.app L [O];have cl:(L++[O])[L.length]?=some O:=aev;obtain⟨xi,a3⟩:=abr (x.id);have d4:=a6;unfold atR;rw[a3]at kk2 kk3;replace h:=hid h;replace r:=hid r;replace a2:=hid a2;replace V:=hid V;replace hu:=hid hu;replace k:=hid k;replace c5:=hid c5;replace ch:=hid ch;replace cl:=hid cl;clear hc s I dp ha cm a_ bk a6;subst d1;refine abv eh ?_;have c1:∀{L':List Blk}{C:List TKy}{lk:List aA}{c0:Nat}{l':List aA}{kd:Int->Int},bc L' iv mn mi nb bn ck c0 C suf last l' lk kd->L'[it]?=some (.cells [.ptr iv 0])->L'[L.length]?=some (.cells [.int .i64 4,dnA dn,dnA tn,.sl (cj v) v.length none])->∀b,(L'.set mi b)[it]?=some (.cells [.ptr iv 0])/\(L'.set mi b)[L.length]?=some (.cells [.int .i64 4,dnA dn,dnA tn,.sl (cj v) v.length none]):=λs J Q b=>⟨by rw[abE (λe=>s.noIt J (.inr (.inr (.inl e.symm))))];exact J,by rw[abE aeu];exact Q⟩
 replace c1:=@hid _ @c1;refine ar (λn T' L'=>∃j:Nat,n=d.length-j/\j<=d.length/\Hid (∃C,bc L' iv mn mi nb bn ck ci C suf last l (lkD l (d.take j)) (λid=>(ja l id:Nat)))/\Hid (aL (OfT iv mn mi nb l) L L')/\L'[L.length]?=some (.cells [.int .i64 4,dnA dn,dnA tn,.sl (cj v) v.length none])/\L'[it]?=some (.cells [.ptr iv 0])/\T'=[(137,.int .i64 (j:Int)),(136,.int .i64 d.length),(135,.sl ((d.map (·.id)).map (AV.int .i64)) d.length none),(9,.sl ((d.map (·.id)).map (AV.int .i64)) d.length none),(6,.int .i64 xi),(3,.ptr L.length 0),(0,.ptr it 0)]) aey ⟨0,rfl,abJ _,hid ⟨rs,c5.o⟩,hid ch.o,cl.o,by rw[abC ca];exact d4,rfl⟩ ?_;rintro _ _ L' ⟨j,rfl,hj,hI,hB,hb,R,rfl⟩;obtain⟨C,s⟩:=hI.o;have b5:L.length+1<=L'.length:=(aby.1 hb).1;have I:=s.v;have a':=s.n;have b3:=s.i;by_cases P:j<d.length;have g1:(j:Int)<(d.length:Int):=aeu;have g2:=abu j aeu;have S:d[j]?=some d[j]:=ab0 P;obtain⟨y,hy⟩:=abr (d[j]);rw[hy]at S;obtain⟨e1,p,a0,an,bl⟩:=V.o j y S;have e2:j<((d.map (·.id)).map (AV.int .i64)).length:=by simpa using P
 obtain⟨j1,dt,ad⟩:=s.delk c' (y:=y) (EP.2 ⟨p,an⟩) (λz f=>hu.o y p z (EP.1 f).1);have t:=ad.lkE (Wt l (d.take j) y);rw[<- bl]at t;obtain⟨b1,b2⟩:=c1.o s R hb (.map ((C.map kyA).eraseIdx j1) ci);have G:=hB.o.trans (aL.set L' (B:=OfT iv mn mi nb l) (.inr (.inr (.inl rfl))) (.map ((C.map kyA).eraseIdx j1) ci));rcases s.node y.id with⟨f1,_⟩|⟨y',n,f1,_,_,f2,f3,_⟩;rw[r.o.ent p]at f1;cases f1;rw[r.o.ent p]at f1;cases f1;unfold cc at f3;have b6:=r.o.ok y p;have kk4:Hid (Ctr Tryz.prog 61 [dnA y.nm] (.tup [.str (aN true y.nm),.int .i64 0])):=@hid _ (by intro L K q;exact J7 b6.m.b.1 b6.m.b.2 (by rw[pY b6];exact q))
 have ea:aT .str (.str (aN true y.nm))=true:=rfl;have ds:aT .int (.int .i64 y.id)=true:=rfl;obtain⟨tk,cf⟩:=abr (aN true y.nm);obtain⟨yi,a9⟩:=abr (y.id);rw[cf]at dt kk4 ea;rw[a9]at e1 f2 f3 ds dt;have ec:=hid b5;replace b1:=hid b1;replace b2:=hid b2;replace t:=hid t;replace G:=hid G;clear s ad hI hB b6 cf a9 p a0 an bl S hy kk1 kk2 kk3 av et b';refine wk ?_;exact aez aeu (CutL (b:=by have:=ec.o;simp;omega)) ⟨j+1,rfl,P,hid ⟨_,t.o⟩,hid G.o,b2.o,b1.o,rfl⟩;have cp:j=d.length:=aeu;subst cp;have g1:¬(d.length:Int)<(d.length:Int):=aeu;rw[abX]at s;have ct:=s.lkE (lk':=Hj l dn) λz=>by
  rw[EP,mg];refine and_congr_right λf=>?_
  constructor;intro e;cases c4:gr z.nm dn with
  |false=>rfl
  |true=>exact absurd rfl (e z ((k.o z).2 ⟨f,c4⟩))
  intro e y hy e2;obtain⟨y1,y2⟩:=(k.o y).1 hy;rw[r.o.byI y1 f e2,e]at y2;cases y2
 have ej:=r.o.cut cq;have es:dn≠[]:=λe=>r.o.inv.ne (fI ai) (by rw[d',e];rfl)
 obtain⟨D,Y⟩:∃D:Int->Int,D=λi=>if i=aO (Hj l dn) dn.tail then(ja l i:Int) + -1 else ja l i:=⟨_,rfl⟩
 have er:∀i,-10000000<=D i/\D i<=10000000:=λi=>by have:=Nk l i;rw[Y];dsimp only;split<;>omega
 have kk4:Hid (∀{K:abx},(∀L2,Hid (bc L2 iv mn mi nb bn ck ci C suf last l (Hj l dn) D)->Hid (aL (OfT iv mn mi nb l) L L2)->L2[it]?=some (.cells [.ptr iv 0])->L2[L.length]?=some (.cells [.int .i64 4,dnA dn,dnA tn,.sl (cj v) v.length none])->K (.tup []) L2)->abw 70 [.ptr it 0,dnA dn,.int .i64 (-1)] L' K):=@hid _ (by
  intro K q;refine EM cy es ej (λz f=>⟨z,(mg.1 f).1,rfl⟩) (λz f=>(r.o.ids z f).1) R ct aeu (λi=>by have:=Nk l i;omega) λL2 t G=>?_
  refine q L2 (hid (by rw[Y];exact t)) (hid (hB.o.trans G)) (G.get R (ct.noIt R)) (G.get hb b'))
 clear ct s hI hB;have ew:=hid Y;clear Y;refine wk ?_;intro L2 t G eb co;clear kk4;clear I a' b3 hb R b5;have b5:L.length+1<=L2.length:=(aby.1 co).1;refine wk ?_;obtain⟨A,g⟩:∃A:aA->aA,A=λy=>{y with nm:=ni y.nm dn.length tn}:=⟨_,rfl⟩
 replace g:=hid g;refine ar (λn T' L3=>∃j:Nat,n=d.length-j/\j<=d.length/\Hid (L2.length<=L3.length)/\Hid (∃N a1,bc L3 iv mn mi nb bn ck N a1 suf last (Nf l dn tn ((d.take j).map (·.id))) (Hj l dn++(d.take j).map A) D)/\Hid (aL (OfT iv mn mi nb l) L L3)/\L3[L.length]?=some (.cells [.int .i64 4,dnA dn,dnA tn,.sl (cj v) v.length none])/\L3[it]?=some (.cells [.ptr iv 0])/\T'=[(172,.int .i64 (j:Int)),(171,.int .i64 d.length),(170,.sl ((d.map (·.id)).map (AV.int .i64)) d.length none),(6,.int .i64 xi),(3,.ptr L.length 0),(0,.ptr it 0)]) (CutS (b:=abA _)) ⟨0,rfl,abJ _,hid (abA _),hid ⟨ci,C,by rw[ada,acw,Ym,acw,ab1];exact t.o⟩,G,co,eb,rfl⟩ ?_;rintro _ _ L3 ⟨j,rfl,hj,c9,hI,hB,hb,R,rfl⟩;obtain⟨N,a1,s⟩:=hI.o;have cg:L.length+1<=L3.length:=(aby.1 hb).1;have I:=s.v;have a':=s.n;have b3:=s.i;clear t G eb co b5;by_cases P:j<d.length;have g1:(j:Int)<(d.length:Int):=aeu;have g2:=abu j aeu;have S:d[j]?=some d[j]:=ab0 P;obtain⟨y,hy⟩:=abr (d[j]);rw[hy]at S;obtain⟨e1,p,a0,an,bl⟩:=V.o j y S;have e2:j<((d.map (·.id)).map (AV.int .i64)).length:=by simpa using P
 have ab:y.id∉(d.take j).map (·.id):=λhm=>by obtain⟨z,f,e⟩:=abB.1 hm;exact an z f e
 have cx:=ZV dn tn p ab;have E:=(r.o.mov a2.o).1;have hZ:A y∈pX l dn tn:=abB.2 ⟨y,p,by rw[if_pos a0,g.o]⟩;have d5:(A y).id=y.id:=by rw[g.o]
 have cs:∀z∈Hj l dn++(d.take j).map A,aN true z.nm≠aN true (ni y.nm dn.length tn):=λz f e=>by
  have c6:z∈pX l dn tn/\z.id≠y.id:=by rcases abD.1 f with f|f;obtain⟨J,Q⟩:=mg.1 f;refine⟨abB.2 ⟨z,J,by rw[if_neg (by rw[Q];decide)]⟩,λe3=>?_⟩;rw[r.o.byI J p e3,a0]at Q;cases Q;obtain⟨w,U,rfl⟩:=abB.1 f;obtain⟨J,Q⟩:=(k.o w).1 (adG U);refine⟨abB.2 ⟨w,J,by rw[if_pos Q,g.o]⟩,λe3=>?_⟩;rw[show(A w).id=w.id by rw[g.o]]at e3;exact an w U e3
  have e4:NK z.nm=NK (A y).nm:=by rw[show(A y).nm=ni y.nm dn.length tn by rw[g.o]];exact(mc (E.ok z c6.1) (by have:=E.ok _ hZ;rw[g.o]at this;exact this)).1 e
  have:=E.byN c6.1 hZ e4;exact c6.2 (by rw[this,d5])
 have a7:OkD (ni y.nm dn.length tn):=by have:=E.ok _ hZ;rw[g.o]at this;exact this
 obtain⟨Z,ap⟩:=abr (ni y.nm dn.length tn);rw[ap]at cs a7;obtain⟨L4,b_⟩:=abr ((L3.set (nb y.id) (.cells [dnA Z,.sl (ax (NK Z).reverse) Z.length none,atR y.av,.int .i64 (D y.id)])).set mi (.map ((a1++[(aN true Z,y.id,N)]).map kyA) (N+1))++[.cells [.sl (ax (NK Z).reverse) Z.length none]]);obtain⟨d6,ad⟩:=s.ren c' cx cs [.cells [.sl (ax (NK Z).reverse) Z.length none]];rw[b_,<- ap,Wr r.o dn tn p ab,ap]at ad;have t:bc L4 iv mn mi nb bn ck (N+1) (a1++[(aN true Z,y.id,N)]) suf last (Nf l dn tn ((d.take (j+1)).map (·.id))) (Hj l dn++(d.take (j+1)).map A) D:=by rw[bl,abS,abS,<- abK];rw[show[y].map A=[{y with nm:=Z}]by rw[g.o,<- ap];rfl];exact ad
 have a8:aL (OfT iv mn mi nb l) L3 L4:=by rw[<- b_];exact((aL.set L3 (B:=OfT iv mn mi nb l) (.inr (.inr (.inr ⟨y,p,rfl⟩))) _).trans (aL.set _ (.inr (.inr (.inl rfl))) _)).trans (aL.app _ _)
 have bb:=hid (aca c9.o a8.len);have bo:=a8.get R c2;have b0:=a8.get hb b';have F:=hB.o.trans a8;rcases s.node y.id with⟨f1,_⟩|⟨y',n,f1,f4,f5,f2,f3,_⟩;exact absurd (acG.1 f1 y cx) aev;have b7:y'=y:=by obtain⟨w,U,e⟩:=abB.1 f4;have eq:w.id=y.id:=(by rw[<- f5,<- e];split<;>rfl);have:=r.o.byI U p eq;subst this;rw[if_neg ab]at e;exact e.symm
 rw[b7]at f3;unfold cc at f3;have c_:dn.length<=y.nm.length:=by have:=(dc.1 a0).2.2.length_le;rwa[bu,bu]at this
 have c7:=(r.o.ok y p).len;have kk5:Hid (∀{K:abx},K (.tup []) L4->abw 69 [.ptr it 0,.int .i64 y.id,dnA Z] L3 K):=@hid _ (by intro K q;refine VH a7 R I a' f2 f3 b3 d6 ?_;rw[b_];exact q)
 obtain⟨q,hq⟩:=abr (y.nm.length-dn.length);have w1:IntKind.i64.wrap ((y.nm.length:Int)-(dn.length:Int))=(q:Int):=by rw[af aeu aeu];omega
 have w2:(q:Int)<=(y.nm.length:Int):=aeu;have cd:aT .int (.int .i64 y.id)=true:=rfl;have d2:y.nm.take q++tn=Z:=by rw[<- ap,<- hq];rfl
 have kk6:Hid (∀{c:Option Nat}{L:List Blk}{K:abx},K (dnA Z) L->abw 50 [dnA tn,.sl (List.take q (y.nm.map aJ)) q c] L K):=@hid _ (by intro c L K u;rw[<- adF];exact TH d2 (by rw[acv];omega) rfl a7.m.b.1 a7.m.b.2 u)
 obtain⟨yi,a9⟩:=abr (y.id);obtain⟨yn,H⟩:=abr (y.nm);obtain⟨ya,bd⟩:=abr (atR y.av);obtain⟨yp,al⟩:=abr (ax (pth y));rw[a9]at e1 f2 f3 kk5 cd;rw[H]at f3 kk6 w1 w2;rw[bd,al]at f3;have ex:=hid cg;replace t:=hid t;replace F:=hid F;replace bo:=hid bo;replace b0:=hid b0;clear s ad hI hB a8 b_ cs a7 hZ d5 E cx ab p a0 an bl S hy f1 f4 f5 b7 c_ c7 hq d2 ap a9 H bd al d6;refine wk ?_;exact aez aeu (CutL (b:=bb.o)) ⟨j+1,rfl,P,bb,hid ⟨_,_,t.o⟩,hid F.o,b0.o,bo.o,rfl⟩;have cp:j=d.length:=aeu;subst cp;have g1:¬(d.length:Int)<(d.length:Int):=aeu;rw[abX]at s;have eg:Nf l dn tn (d.map (·.id))=pX l dn tn:=Yn dn tn λz f=>by constructor;intro hm;obtain⟨w,U,e⟩:=abB.1 hm;obtain⟨J,Q⟩:=(k.o w).1 U;rw[<- r.o.byI J f e];exact Q;intro a4;exact abB.2 ⟨z,(k.o z).2 ⟨f,a4⟩,rfl⟩
 rw[eg]at s;have d3:=s.lkE (lk':=pX l dn tn) λz=>by rw[abD];constructor;rintro(f|f);obtain⟨J,Q⟩:=mg.1 f;exact abB.2 ⟨z,J,by rw[if_neg (by rw[Q];decide)]⟩;obtain⟨w,U,rfl⟩:=abB.1 f;obtain⟨J,Q⟩:=(k.o w).1 U;exact abB.2 ⟨w,J,by rw[if_pos Q,g.o]⟩;intro f;obtain⟨w,U,_,e⟩:=MK f;by_cases a4:gr w.nm dn=true;rw[if_pos a4]at e;exact .inr (abB.2 ⟨w,(k.o w).2 ⟨U,a4⟩,by rw[e,g.o]⟩);rw[if_neg a4]at e;rw[e];exact .inl (mg.2 ⟨U,by simpa using a4⟩)
 have E:=(r.o.mov a2.o).1;obtain⟨a5,bs⟩:∃a5:Int->Int,a5=λi=>if i=aO (pX l dn tn) tn.tail then D i+1 else D i:=⟨_,rfl⟩
 have bx:∀i,OfT iv mn mi nb (pX l dn tn) i->OfT iv mn mi nb l i:=λi R=>by rcases R with e|e|e|⟨z,f,e⟩;exact .inl e;exact .inr (.inl e);exact .inr (.inr (.inl e));obtain⟨w,U,e2,_⟩:=MK f;exact .inr (.inr (.inr ⟨w,U,by rw[e,e2]⟩))
 obtain⟨x2,cn⟩:∃x2,x2={x with nm:=ni x.nm dn.length tn}:=⟨_,rfl⟩;have d0:gr x.nm dn=true:=dc.2 ⟨r.o.ok x ai,cq,by rw[d'];exact List.suffix_refl _⟩;have W:x2∈pX l dn tn:=abB.2 ⟨x,ai,by rw[if_pos d0,cn]⟩;have M:x2.id=xi:=by rw[cn];exact a3
 have kk4:Hid (∀{K:abx},(∀L4,Hid (bc L4 iv mn mi nb bn ck N a1 suf last (pX l dn tn) (pX l dn tn) a5)->Hid (aL (OfT iv mn mi nb l) L L4)->L4[it]?=some (.cells [.ptr iv 0])->L4[L.length]?=some (.cells [.int .i64 4,dnA dn,dnA tn,.sl (cj v) v.length none])->K (.tup []) L4)->abw 70 [.ptr it 0,dnA tn,.int .i64 1] L3 K):=@hid _ (by
  intro K q;refine EM dk a2.o.tne E (λz f=>⟨z,f,rfl⟩) (λz f=>(E.ids z f).1) R d3 aeu er λL4 T F=>?_
  refine q L4 (hid (by rw[bs];exact T)) (hid (hB.o.trans2 F λi _=>bx i)) (F.get R λe=>c2 (bx _ e)) (F.get hb λe=>b' (bx _ e)))
 have c8:=hid bs;clear bs s d3 hI hB;refine wk ?_;intro L4 T F bo b0;clear kk4 I a' b3 hb R cg;have I:=T.o.v;have a':=T.o.n;have kk5:Hid (Ctr Tryz.prog 68 [.sl (cj v) v.length none] (.sl (cj v) v.length none)):=@hid _ (by intro L K q;exact Mg ei en q);rcases T.o.node xi with⟨f1,_⟩|⟨y',n,f1,f4,f5,f2,f3,_⟩;exact absurd (acG.1 f1 x2 W) (by simp[M]);have b7:y'=x2:=E.byI f4 W (by rw[f5,M]);subst b7;unfold cc at f3;rw[M]at f3;have cd:aT .int (.int .i64 xi)=true:=rfl;have b4:=T.o.cha W v;rw[M]at b4;have cb:=h.o (L4.set (nb xi) (.cells [dnA y'.nm,.sl (ax (pth y')) y'.nm.length none,atR v,.int .i64 (a5 xi)])) N a1 (by
  rw[<- a3]at b4⊢;refine b4.toT λz f=>?_
  obtain⟨w,U,rfl⟩:=abB.1 f;obtain⟨u,c4,e2,e3⟩:=MK U;have J:=r.o.movK a2.o c4;rw[Na];have e4:(if w.id=x.id then{w with av:=v}else w).id=w.id:=(by split<;>rfl);have e5:(if w.id=x.id then{w with av:=v}else w).nm=w.nm:=(by split<;>rfl);rw[e4,e5,c8.o,ew.o];dsimp only;rw[<- e3]at J;rw[<- e2];exact J.symm) (by rw[abE (λe=>c2 (.inr (.inr (.inr ⟨x,ai,by rw[a3];exact e.symm⟩))))];exact bo) (F.o.trans (aL.set _ (.inr (.inr (.inr ⟨x,ai,by rw[a3]⟩))) _))
 replace h:=hid cb;unfold atR at h;obtain⟨ya,bd⟩:=abr (atR y'.av);obtain⟨yp,al⟩:=abr (ax (pth y'));obtain⟨yn,H⟩:=abr (y'.nm);obtain⟨kq,c3⟩:=abr (a5 xi);rw[bd,al,H,c3]at f3;rw[al,H,c3]at h;clear cb b4 al bd H c3 f1 f4 f5 T F E bx W M d0 cn eg a3;refine wk ?_;exact ag h.o
end
set_option maxHeartbeats 8000000
set_option maxRecDepth 100000
section
variable {L:List Blk}{iv mn mi it:Nat}{nb bn:Int->Nat}{ck ci:Nat}{rs:List TKy}{suf:List Rdn}{last:Int}{l:List aA}
theorem aaT(g:TOk suf last l)(i:l.length<=1000000)(a:L[it]?=some (.cells [.ptr iv 0]))(f:aU L iv mn mi nb bn ck ci rs suf last l){k:Int}{dn tn:List Rdn}{v:AV}(d:dnB dn)(e:dnB tn)(m:eN suf l k dn tn≠0){K:abx}(h:K (.int .i64 (eN suf l k dn tn)) L):
  abw 31 [.ptr it 0,.agg [.int .i64 k,dnA dn,dnA tn,v]] L K:=by
 have b:it<L.length:=(aby.1 a).1;have j:∀X:List Blk,(L++X)[it]?=some (.cells [.ptr iv 0]):=λX=>by rw[abC b];exact a
 obtain⟨z,c⟩:=abr (eN suf l k dn tn);have kk1:Hid (∀{X:List Blk}{K:abx},K (.int .i64 z) (L++X)->abw 13 [.ptr iv 0,.agg [.int .i64 k,dnA dn,dnA tn,v]] (L++X) K):=@hid _ (by intro X K q;exact EJ g aeu (f.app X) d e (by rw[c];exact q))
 rw[c]at m h;replace h:=hid h;clear c f g a;refine abv eh ?_;exact ae rfl h.o
theorem Ze(r:TOk suf last l)(n:mn≠mi)(d:l.length<=1000000)(t:0<=last)(u:last<=1000000)(c:L[it]?=some (.cells [.ptr iv 0]))(q:aU L iv mn mi nb bn ck ci rs suf last l){k:Int}{dn tn:List Rdn}{v:List Atr}(f:dnB dn)(g:dnB tn)(p:v.length<=1100000)(i:∀a∈v,a.2.length<=1100000){K:abx}(h:∀L' y w s m j,aU L' iv mn mi y w s m j suf (doT suf l last k dn tn v).2 (doT suf l last k dn tn v).1->L'[it]?=some (.cells [.ptr iv 0])->aL (OfT iv mn mi nb l) L L'->K (.int .i64 (eN suf l k dn tn)) L'):
  abw 31 [.ptr it 0,.agg [.int .i64 k,dnA dn,dnA tn,atR v]] L K:=by
 by_cases o:eN suf l k dn tn=0;rotate_left;unfold doT at h;rw[if_pos o]at h;exact aaT r d c q f g o (h L _ _ _ _ _ q c (aL.refl L));unfold doT at h;rw[if_neg (λe=>e o)]at h;rw[o]at h;by_cases z:k=1;subst z;rw[if_pos rfl]at h;exact aaW r n d t u c q f g p i o h;rw[if_neg z]at h;have b:=o;unfold eN at b;by_cases A:k<1\/4<k;rw[if_pos A]at b;exact absurd b (by decide);rw[if_neg A,if_neg z]at b;cases hx:atE l dn with
 |none=>rw[hx]at b;simp at b
 | some x =>
   rw[hx]at b;simp only at b;have E:aO l dn=x.id:=(by unfold aO;rw[hx]);rw[E]at h;by_cases C:k=2
   .subst C;rw[if_pos rfl]at h;exact aaU r n d c q f g hx o λL' m j=>h L' _ _ _ _ _
   rw[if_neg C]at h b;by_cases B:k=3
   .subst B;rw[if_pos rfl]at h;exact aaV r d c q f g p i hx λL'=>h L' _ _ _ _ _
   rw[if_neg B]at h b;have D:k=4:=aeu;subst D;exact aaS r n d c q f g p i hx b λL' m j=>h L' _ _ _ _ _
end
variable {L:List Blk}{K:abx}
set_option maxHeartbeats 8000000
set_option maxRecDepth 100000
theorem Qg{P:Program}{f:FuncId}{b:Bool}(h:ac P f [] [] λv _=>v=.bool b)(m:K (.bool b) L):ac P f [] L K:=λw0 S0 E w vs g q=>by
 have i:Rel w ⟨λ_=>False,0⟩ {mem:=E.mem,loc:=λ_=>none,tok:=λ_=>none} [] w:=by
  refine⟨g.mem,?_,λ_ _=>rfl,?_,?_,λ_ _=>rfl,?_,?_,?_,λ_ _ _=>rfl,abA _,rfl,rfl,rfl,g.glob,g.gsz⟩
  all_goals intros;simp_all
 have key:∀{E':Env}{L':List Blk}{w':World},Rel w ⟨λ_=>False,0⟩ E' L' w'->Ol w w':=λk=>⟨λb o=>k.frame b o (λx=>x),k.size,k.os,k.tape,k.output⟩
 have l:VRL {mem:=E.mem,loc:=λ_=>none,tok:=λ_=>none} [] vs:=by simpa only[VRL]using q
 rcases h w _ _ w vs i l with⟨j,n⟩|⟨E',v,av,L',w',j,n,s,h4,p⟩;refine .inl ⟨j,n.mono λe w' ⟨E',v,av,L',a,b,c,d,r⟩=>⟨E,v,_,L,a,.refl E,m,?_,g.grown (key r)⟩⟩;subst c;simpa only[VR]using d;refine .inr ⟨E,v,_,L,w',j,.refl E,m,?_,g.grown (key p)⟩;subst s;simpa only[VR]using h4
theorem aU.start(L:List Blk)(d:List Rdn):aU (L++[.map [] 0,.map [] 0,.cells [dnA d,.lmap L.length,.lmap (L.length+1),.int .i64 0],.cells [.ptr (L.length+2) 0]]) (L.length+2) L.length (L.length+1) (λ_=>0) (λ_=>0) 0 0 [] d 0 []:=by refine⟨?_,?_,?_,?_,?_,?_,?_,?_⟩;rw[abN aeu];simp;rw[abN aeu];simp;rw[abN aeu];simp;simp;simp;simp;simp;simp
def Qd(P:Program)(o:aj)(T:Tm)(L:List Blk)(v:AV)(M:List Blk->Prop):Prop :=
 match o.op with
 | .call f xs=>match iI T xs with
   |some args=>ac P f args L λav L'=>av=v/\M L'
   |none=>False
 |_=>False
def EQS(P:Program)(o:aj)(T:Tm)(L:List Blk)(v:AV)(M:List Blk->Prop):Prop :=
 match o.guard with
 |none=>Qd P o T L v M
 | some (t,b)=>match aq T t with
   |some (.bool x)=>if x=b then Qd P o T L v M else v=.tup []/\M L
   |some (.tup [])=>v=.tup []/\M L
   |_=>False
theorem Qd.congr{P:Program}{o:aj}{T T':Tm}{L:List Blk}{v:AV}{M:List Blk->Prop}(b:∀t∈o.op.tmps,aq T t=aq T' t)(a:Qd P o T L v M):Qd P o T' L v M:=by unfold Qd at a⊢;split at a;rename_i f xs e;rw[e]at b;rw[<- jE (l:=xs) b];exact a;omega
theorem EQS.congr{P:Program}{o:aj}{T T':Tm}{L:List Blk}{v:AV}{M:List Blk->Prop}(h:∀t∈o.reads,aq T t=aq T' t)(a:EQS P o T L v M):EQS P o T' L v M:=by
 have c:∀t∈o.op.tmps,aq T t=aq T' t:=λt f=>h t (by simp[aj.reads,f])
 unfold EQS at a⊢;split at a;exact a.congr c;rename_i t b d;rw[<- h t (by simp[aj.reads,d])];split at a;split at a;rename_i e;rw[if_pos e];exact a.congr c;simp[*];omega;omega
theorem Qd.aop{P:Program}{o:aj}{T:Tm}{L:List Blk}{v:AV}{M:List Blk->Prop}(a:Qd P o T L v M):AOp P o (λT' L'=>T'=bz o.dst v T/\M L') T L:=by
 unfold Qd at a;unfold AOp;split at a;rename_i f xs e;simp only[e];split at a;rename_i args c;rw[c];exact ac.mono a λav L' ⟨d,b⟩=>⟨by rw[d],b⟩
 simp_all;simp_all
theorem EQS.aops{P:Program}{o:aj}{T:Tm}{L:List Blk}{v:AV}{M:List Blk->Prop}(a:EQS P o T L v M):ma P (λT' L'=>T'=bz o.dst v T/\M L') [o] T L:=by unfold EQS at a;simp only[ma];split at a;rename_i c;simp only[c];exact a.aop;rename_i t b c;simp only[c];split at a;rename_i x d;rw[d,xI];split at a;rename_i e;rw[if_pos e];exact a.aop;simp[*];rename_i d;rw[d,Qc];exact⟨by rw[a.1],a.2⟩;simp_all
section
variable {P:Program}{r:Option Nat}{w0:World}{S0:SB}{N:Nat}{own:Nat->Nat}{ops:Array Oper}{L:List Blk}
end
section
variable {P:Program}{w0:World}{S0:SB}{N:Nat}{own:Nat->Nat->Nat}{Q:Exit->Tm->List Blk->Prop}{T:Tm}{L:List Blk}
end
section
variable {P:Program}{K:Tm->List Blk->Prop}{T:Tm}{d:Option Nat}{op:LOp}{t:Nat}{b:Bool}{r:List (aj×Kd)}{M:List Blk->Prop}{Ms:List (List Blk->Prop)}{v:AV}{c:Prop}
end
set_option maxHeartbeats 8000000
set_option maxRecDepth 100000
def aaf(v:List Atr):Prop:=v.length<=1100000/\∀a∈v,a.2.length<=1100000
structure abq(L:List Blk)(it iv mn mi rt:Nat)(nb bn:Int->Nat)(ck ci:Nat)(rs:List TKy)(c:Option Nat)(suf:List Rdn)(last:Int)(l:List aA):Prop where
 ok:TOk suf last l
 code:aU L iv mn mi nb bn ck ci rs suf last l
 it:L[it]?=some (.cells [.ptr iv 0])
 rt:L[rt]?=some (.cells [dnA suf,.sl (aaP l) l.length c,.int .i64 last])
 ne:mn≠mi
 l0:0<=last
 l1:last<=100
 len:l.length<=100
 av:∀x∈l,aaf x.av
theorem aU.noOf{L:List Blk}{iv mn mi:Nat}{nb bn:Int->Nat}{ck ci:Nat}{rs:List TKy}{suf:List Rdn}{last:Int}{l:List aA}(h:aU L iv mn mi nb bn ck ci rs suf last l){j:Nat}{c:List AV}(b:L[j]?=some (.cells c))(a:c.length≠4\/∃k z r,c=.int k z::r):¬OfT iv mn mi nb l j:=by rintro(e|e|e|⟨x,d,e⟩);rw[e,h.v]at b;simp only[abz,Blk.cells.injEq]at b;rcases a with a|⟨k,z,r,a⟩;exact a (by rw[<- b];rfl);rw[<- b]at a;simp[dnA]at a;rw[e,h.n]at b;simp at b;rw[e,h.i]at b;simp at b;rw[e,h.nd x d]at b;simp only[abz,Blk.cells.injEq]at b;rcases a with a|⟨k,z,r,a⟩;exact a (by rw[<- b];rfl);rw[<- b]at a;simp[kP,dnA]at a
theorem aU.keep{L:List Blk}{iv mn mi:Nat}{nb bn:Int->Nat}{ck ci:Nat}{rs:List TKy}{suf:List Rdn}{last:Int}{l:List aA}(h:aU L iv mn mi nb bn ck ci rs suf last l){rt:Nat}{c:List AV}(hr:L[rt]?=some (.cells c))(j:c.length=3)(d:aL (λi=>i=rt) L L'):aU L' iv mn mi nb bn ck ci rs suf last l:=by
 have no:¬OfT iv mn mi nb l rt:=h.noOf hr (.inl aeu);have key:∀{i:Nat}{b:Blk},OfT iv mn mi nb l i->L[i]?=some b->L'[i]?=some b:=λ{i b} f e=>d.get e λg=>no (by rw[<- g];exact f)
 exact⟨key (.inl rfl) h.v,key (.inr (.inl rfl)) h.n,key (.inr (.inr (.inl rfl))) h.i,λx a=>key (.inr (.inr (.inr ⟨x,a,rfl⟩))) (h.nd x a),h.keys,h.mem,h.bnd,h.blt⟩
def zU(L L':List Blk):Prop:=L.length<=L'.length/\∀(j:Nat) (c:List AV),L[j]?=some (Blk.cells c)->c.length=2->L'[j]?=some (Blk.cells c)
theorem zU.refl(L:List Blk):zU L L:=⟨abA _,λ_ _ h _=>h⟩
theorem zU.app{L:List Blk}(h:zU L L')(X:List Blk):zU L (L'++X):=⟨by have:=h.1;simp;omega,λj c a b=>by have:=h.2 j c a b;rw[abC (aby.1 this).1];exact this⟩
theorem zU.trans{A B C:List Blk}(h:zU A B)(g:zU B C):zU A C:=⟨aca h.1 g.1,λj c b a=>g.2 j c (h.2 j c b a) a⟩
theorem zU.row{A L:List Blk}{rt:Nat}{b:List AV}(h:zU A L)(hr:L[rt]?=some (.cells b))(f:b.length=3)(d:aL (λi=>i=rt) L L'):zU A L':=h.trans ⟨d.len,λj c a g=>d.get a λe=>by subst e;rw[hr]at a;cases a;omega⟩
structure abp(u:Upd):Prop where
 dn:aaN u.dn/\∀r∈u.dn,∀a∈r,(a.1.length:Int)<=140737488351232
 tw:aaN u.tw/\∀r∈u.tw,∀a∈r,(a.1.length:Int)<=140737488351232
 attrs:(u.attrs.length:Int)<=9223372036854775807
 names:∀a∈u.attrs,(a.1.length:Int)<=140737488351232/\(a.2.length:Int)<=9223372036854775807
abbrev Y6:=Int×Int×Nat
structure Qe(rs:List Y6)(W:List Int):Prop where
 nd:(rs.map (·.1)).Nodup
 val:∀r∈rs,r.2.1=(W.count r.1:Int)/\r.1∈W
 all:∀id∈W,id∈rs.map (·.1)
theorem Qe.nil:Qe [] []:=⟨adt,aev,aev⟩
theorem Qe.get{rs:List Y6}(h:Qe rs W)(id:Int):(rs.findIdx? (λr=>decide (r.1=id))=none/\id∉W)\/∃n,n<rs.length/\rs.findIdx? (λr=>decide (r.1=id))=some n/\(rs.getD n (0,0,0)).1=id/\(rs.getD n (0,0,0)).2.1=(W.count id:Int):=by
 rcases hf:rs.findIdx? (λr=>decide (r.1=id))with _|n;refine .inl ⟨hf,λf=>?_⟩;obtain⟨r,hr,e⟩:=abB.1 (h.all id f);have a:=hf;rw[aeh]at a;have:=a r hr;simp[e]at this;have a:=hf;rw[adR]at a;obtain⟨b,c,_⟩:=a;rw[decide_eq_true_eq]at c;have d:rs.getD n (0,0,0)=rs[n]:=by simp[b]
 refine .inr ⟨n,b,hf,by rw[d];exact c,?_⟩;rw[d,(h.val rs[n] (acN b)).1,c]
theorem Qe.new{rs:List Y6}(h:Qe rs W){id:Int}(d:id∉W)(a ck:Nat)(n:0<a):Qe (rs++[(id,(a:Int),ck)]) (W++List.replicate a id):=by
 have f:id∉rs.map (·.1):=λj=>by obtain⟨r,hr,e⟩:=abB.1 j;exact d (e▸(h.val r hr).2)
 refine⟨?_,λr hr=>?_,λk b=>?_⟩;rw[abS,ac7];refine⟨h.nd,aev,λx m y i=>?_⟩;simp only[abO,acw,abV]at i;rw[i];exact λe=>f (e▸m)
 rcases abD.1 hr with hr|hr;obtain⟨l,g⟩:=h.val r hr;have c:¬id=r.1:=λe=>d (e▸g)
 refine⟨?_,ac3 _ g⟩;rw[l,List.count_append,adZ];simp[c];rw[abV.1 hr];refine⟨?_,adj _ (by simp;omega)⟩;simp only;rw[List.count_append,adZ,List.count_eq_zero.2 d];simp;rw[abS];rcases abD.1 b with b|b;exact ac3 _ (h.all k b);rw[aem b];simp
theorem Qe.len{rs:List Y6}(h:Qe rs W)(a:ids.Nodup)(d:∀x,x∈W↔x∈ids):rs.length=ids.length:=by
 have b:(rs.map (·.1)).Perm ids:=(List.perm_ext_iff_of_nodup h.nd a).2 λx=>by rw[<- d x];constructor;intro c;obtain⟨r,hr,e⟩:=abB.1 c;exact e▸(h.val r hr).2;exact h.all x
 have:=b.length_eq;rwa[abM]at this
def Fb(suf:List Rdn)(l:List aA):List aA:=match atE l suf with|some r=>scL l r 2|none=>[]
theorem Y2{suf:List Rdn}{last:Int}{l:List aA}(a:TOk suf last l):scT l (aO l suf) 2=(Fb suf l).map (·.id):=by
 unfold Fb aO;rcases h:atE l suf with _|r;have:zW l 0=none:=by rcases he:zW l 0 with _|y;rfl;obtain⟨b,c⟩:=U5 he;have:=(a.ids y b).1;omega
 unfold scT;simp only[this];rfl;exact MI (a.ent (bY h).2.1)
theorem Xo{suf:List Rdn}{l:List aA}(h:x∈Fb suf l):x∈l:=by unfold Fb at h;split at h;exact(acj.1 ((acZ _ _).mem_iff.1 h)).1;cases h
theorem Rw(suf:List Rdn)(l:List aA):(Fb suf l).length<=l.length:=by unfold Fb;split;exact Px _ _ _;simp
def NO(x:aA):Upd:=⟨1,x.nm,[],x.av⟩
def LW(ws:List aA):List (List UInt8):=ws.map λx=>(wrU (NO x)).1
theorem Z7{L:List Blk}{iv mn mi:Nat}{nb bn:Int->Nat}{ck ci:Nat}{rs:List TKy}{suf:List Rdn}{last:Int}{l:List aA}(p:TOk suf last l)(O:l.length<=1000000)(E:∀x∈l,aaf x.av)(B:∀x∈l,vf (NO x))(A:aU L iv mn mi nb bn ck ci rs suf last l){K:abx}(h:K (.sl ((LW (Fb suf l)).map AV.str) (Fb suf l).length none) L):
  abw 30 [.ptr iv 0] L K:=by
 have t:=p.sok.m.b;obtain⟨s,J⟩:=abr (aO l suf);obtain⟨ws,f⟩:=abr (Fb suf l);have v:=Y2 p;rw[J,f]at v;have Q:ws.length<=l.length:=by rw[<- f];exact Rw _ _
 have g:∀x∈ws,x∈l:=λx d=>Xo (by rw[f];exact d)
 rw[f]at h;have kk1:Hid (∀{K:abx},K (dnA suf) L->abw 33 [.ptr iv 0] L K):=@hid _ (by intro K q;exact ZC t A q);have kk2:Hid (∀{K:abx},K (.int .i64 s) L->abw 26 [.ptr iv 0,dnA suf] L K):=@hid _ (by intro K q;exact pW t p A (by rw[J];exact q))
 obtain⟨F,k⟩:=abr ((ws.map (·.id)).map (AV.int .i64));have kk3:Hid (∀{K:abx},K (.sl F ws.length none) L->abw 32 [.ptr iv 0,.int .i64 s,.int .i64 2] L K):=@hid _ (by intro K q;exact MA p aeu A (by rw[v,abM,k];exact q))
 have M:F.length=ws.length:=by rw[<- k];simp
 have I:Hid (∀i,i<ws.length->F.getD i .undef=.int .i64 (ws.getD i default).id):=hid (λi R=>by rw[<- k,abR,abR];simp[R])
 have W:Hid (∀x∈ws,∀{X:List Blk}{K:abx},K (.tup [dnA x.nm,.sl (cj x.av) x.av.length none]) (L++X)->abw 34 [.ptr iv 0,.int .i64 x.id] (L++X) K):=hid (λx d {X K} q=>by refine Vx p E (A.app X) (λe=>?_) (λy e=>?_);rw[p.ent (g x d)]at e;cases e;rw[p.ent (g x d)]at e;cases e;exact q)
 have P:Hid (∀x∈ws,∀{c:Option Nat}{L:List Blk}{K:abx},K (.tup [.str (wrU (NO x)).1,.int .i64 (wrU (NO x)).2]) L->abw 14 [.agg [.int .i64 1,dnA x.nm,.sl [] 0 c,.sl (cj x.av) x.av.length none]] L K):=hid (λx d {c L K} q=>by
  refine dQ ?_;have e:AV.frzL [.agg [.int .i64 1,dnA x.nm,.sl [] 0 c,.sl (cj x.av) x.av.length none]]=[AV.agg (gp (NO x))]:=by simp only[AV.frzL,AV.frz,dnA,cF,xG,gp,NO];rfl
  rw[e];exact Pu (u:=NO x) (p.ok x (g x d)).m.b ⟨by simp[NO],by simp[NO]⟩ (B x (g x d)) q)
 replace h:=hid h;clear E B A p t J f v k g;refine abv Ko ?_;clear kk1 kk2 kk3;refine cB (l:=[]) (n:=0) 3 1 rfl (acg 1).symm ?_;refine ar (λm T' L'=>∃(j:Nat) (C:List AV) (X:List Blk),m=ws.length-j/\j<=ws.length/\Hid (C=(LW (ws.take j)).map AV.str)/\T'=[(17,.int .i64 (j:Int)),(16,.int .i64 ws.length),(15,.sl F ws.length none),(3,.gsl C j L.length 1),(0,.ptr iv 0)]/\L'=L++(.spare j 1::X)) aey ⟨0,[],[],rfl,abJ _,hid rfl,rfl,aev⟩ ?_;rintro _ _ _ ⟨j,C,X,rfl,Z,z,rfl,rfl⟩;by_cases a:j<ws.length;have U:(j:Int)<(ws.length:Int):=aeu;have j2:=abu j aeu;have S:=I.o j a;have T:j<F.length:=aeu;have r:ws.getD j default∈ws:=by simp[a]
 obtain⟨x,d⟩:=abr (ws.getD j default);rw[d]at S r;have kk1:=@hid _ (λ{X:List Blk}{K:abx}=>W.o x r (X:=X) (K:=K));have kk2:=@hid _ (λ{c:Option Nat}{L:List Blk}{K:abx}=>P.o x r (c:=c) (L:=L) (K:=K));have D:Hid (C++[.str (wrU (NO x)).1]=(LW (ws.take (j+1))).map AV.str):=hid (by have:ws[j]=x:=(by rw[<- d];simp[a]);rw[ab6 a,this];unfold LW at z⊢;rw[abS,abS,<- z.o];rfl)
 obtain⟨⟨w,Y⟩,N⟩:∃q,wrU (NO x)=q:=⟨_,rfl⟩;rw[N]at kk2 D;clear d r z N;refine wk ?_;exact aez aeu aex ⟨j+1,_,_,rfl,a,D,rfl,rfl⟩;have G:j=ws.length:=aeu;subst G;have U:¬(ws.length:Int)<(ws.length:Int):=aeu;have V:=jo (LW ws);rw[abX]at z;have H:=z.o;subst H;clear z;refine wk ?_;refine aB ?_;simp only[AV.frz,V];refine ae ?_ h.o;simp only[AV.refs,jM]
set_option maxHeartbeats 1000000
abbrev cA(n:Nat)(lim:Int):Int:=if(n:Int)<lim then(n:Int)else lim
structure HD(L:List Blk)(dp lp wp:Nat)(lim:Int)(S:List Sec):Prop where
 d:∃cp x y z,L[dp]?=some (.cells (fX lp wp S.length cp lim false 0 x y z))
 l:L[lp]?=some (.cells (S.map AV.str))
 w:∃ck,L[wp]?=some (.map [] ck)
 n4:4<=S.length
 n8:S.length<=8192
 all:∀s∈S,s.length=128
 lm:0<=lim/\lim<=9000
theorem HD.ne{L:List Blk}{dp lp wp:Nat}{lim:Int}{S:List Sec}(h:HD L dp lp wp lim S):dp≠lp/\dp≠wp/\lp≠wp:=by
 obtain⟨cp,x,y,z,hd⟩:=h.d;obtain⟨ck,b⟩:=h.w;have a:=h.l;refine⟨λe=>?_,λe=>?_,λe=>?_⟩;rw[e,a]at hd;have h4:=h.n4
 match S,h4 with
 |s::t,_=>simp at hd
 rw[e,b]at hd;simp at hd;rw[e,b]at a;simp at a
structure z7(L:List Blk)(jp dp lp wp:Nat)(lim:Int)(S:List Sec)(j:Jst)(recs:List (List UInt8)):Prop where
 k:HD L dp lp wp lim S
 jb:L[jp]?=some (.cells (j9 dp j false))
 inv:Ok az S j recs
abbrev OfJ(jp lp wp i:Nat):Prop:=i=jp\/i=lp\/i=wp
theorem z7.ne{L:List Blk}{jp dp lp wp:Nat}{lim:Int}{S:List Sec}{j:Jst}{recs:List (List UInt8)}(h:z7 L jp dp lp wp lim S j recs):jp≠dp/\jp≠lp/\jp≠wp:=by
 obtain⟨cp,x,y,z,hd⟩:=h.k.d;obtain⟨ck,b⟩:=h.k.w;have c:=h.k.l;have a:=h.jb;refine⟨λe=>?_,λe=>?_,λe=>?_⟩;rw[e,hd]at a;simp at a;rw[e,c]at a;have h4:=h.k.n4
 match S,h4 with
 |s::t,_=>simp at a
 rw[e,b]at a;simp at a
theorem HD.keep{L M:List Blk}{dp lp wp:Nat}{lim:Int}{S:List Sec}(h:HD L dp lp wp lim S)(e:∀i,i=dp\/i=lp\/i=wp->M[i]?=L[i]?):HD M dp lp wp lim S:=by obtain⟨cp,x,y,z,hd⟩:=h.d;obtain⟨ck,a⟩:=h.w;exact⟨⟨cp,x,y,z,by rw[e dp (.inl rfl)];exact hd⟩,by rw[e lp (.inr (.inl rfl))];exact h.l,⟨ck,by rw[e wp (.inr (.inr rfl))];exact a⟩,h.n4,h.n8,h.all,h.lm⟩
theorem z7.keep{L M:List Blk}{jp dp lp wp:Nat}{lim:Int}{S:List Sec}{j:Jst}{recs:List (List UInt8)}(h:z7 L jp dp lp wp lim S j recs)(e:∀i,i=dp\/OfJ jp lp wp i->M[i]?=L[i]?):z7 M jp dp lp wp lim S j recs :=
 ⟨h.k.keep λi q=>e i (q.elim .inl λq=>.inr (.inr q)),by rw[e jp (.inr (.inl rfl))];exact h.jb,h.inv⟩
theorem Nj{S ss:List Sec}{a:Nat}(c:∀s∈S,s.length=128)(d:∀s∈ss,s.length=128):∀s∈fK S a ss,s.length=128:=λs b=>by unfold fK at b;rcases abD.1 b with b|b;exact c s (adG b);rcases abD.1 b with b|b;exact d s b;exact c s (acY b)
theorem NU:∀s,az s<2^32:=PW
theorem Xp{gen:Nat}(d:1<=gen/\gen<2^32)(g:bs.length<=1000000)(e:∀b∈bs,b.length<=262144):∀s∈(gq gen 0 bs).map (fq az),s.length=128:=λs a=>by obtain⟨c,f,rfl⟩:=abB.1 a;exact HO c (JS d bs 0 aeu e c f).1.len
theorem V4{S:List Sec}{j:Jst}(h:(aX az S room j bs).1≠0):((aX az S room j bs).1=5\/(aX az S room j bs).1=11)/\(aX az S room j bs).2=(j,S):=by unfold aX at h⊢;split;exact⟨.inl rfl,rfl⟩;split;exact⟨.inr rfl,rfl⟩;rename_i a b;rw[if_neg a,if_neg b]at h;exact absurd rfl h
theorem aai{S:List Sec}{j:Jst}{b:List UInt8}(h:(iB az S room j b).1≠0):((iB az S room j b).1=5\/(iB az S room j b).1=11)/\(iB az S room j b).2=(j,S):=by unfold iB at h⊢;split;exact⟨.inl rfl,rfl⟩;split;exact⟨.inr rfl,rfl⟩;rename_i a b;rw[if_neg a,if_neg b]at h;exact absurd rfl h
theorem OX{S:List Sec}{j:Jst}(g:∀s∈S,s.length=128)(k:S.length<=8192)(h:(aX az S room j bs).1=0):(∀s∈(aX az S room j bs).2.2,s.length=128)/\(aX az S room j bs).2.1.gen=j.gen+1:=by
 unfold aX at h⊢;split;rename_i a;rw[if_pos a]at h;cases h;split;rename_i a b;rw[if_neg a,if_pos b]at h;cases h;rename_i a b;simp only[not_or,Nat.not_lt]at b;have i:=lQ bs;have f:aQ S.length=(S.length-2)/2:=rfl;have d:∀x∈bs,x.length<=262144:=λx e=>by rw[Bool.not_eq_true,adc]at a;have:=a x e;simpa using this
 exact⟨Nj (Nj g (Xp ⟨aeu,aeu⟩ aeu d)) (λs c=>by rw[abV.1 c];exact Qo _ _),rfl⟩
theorem Y0{S:List Sec}{j:Jst}{b:List UInt8}(a:∀s∈S,s.length=128)(e:1<=j.gen/\j.gen<2^32)(d:j.n<2^32):(∀s∈(iB az S room j b).2.2,s.length=128)/\(iB az S room j b).2.1.gen=j.gen:=by unfold iB;split;exact⟨a,rfl⟩;split;exact⟨a,rfl⟩;refine⟨Nj a λs f=>?_,rfl⟩;obtain⟨c,g,rfl⟩:=abB.1 f;exact HO c (Oa e d aeu c g).len
section
variable {L:List Blk}{jp dp lp wp:Nat}{lim:Int}{S:List Sec}{j:Jst}{recs:List (List UInt8)}
theorem z7.small(h:z7 L jp dp lp wp lim S j recs):j.used<=4095/\j.n<=4095/\recs.length<=4095:=by have a:=h.inv.used;have b:=h.inv.n;have c:=lQ recs;have h4:=h.k.n8;have:aQ S.length=(S.length-2)/2:=rfl;omega
theorem UN(h:z7 L jp dp lp wp lim S j recs){bs:List (List UInt8)}{c:Option Nat}(I:bs.length<=1000000){K:abx}(r:∀M H s a,z7 M jp dp lp wp lim H s a->H.length=S.length->s.gen<=j.gen+1->((aX az S (cA S.length lim) j bs).1=0->a=bs)->((aX az S (cA S.length lim) j bs).1≠0->a=recs/\s=j/\((aX az S (cA S.length lim) j bs).1=5\/(aX az S (cA S.length lim) j bs).1=11))->(∀i,¬OfJ jp lp wp i->i<L.length->M[i]?=L[i]?)->L.length<=M.length->K (.int .i64 (aX az S (cA S.length lim) j bs).1) M):
  abw 29 [.ptr jp 0,.sl (bs.map AV.str) bs.length c] L K:=by
 obtain⟨F,B,a3⟩:=h.k.ne;obtain⟨a4,a5,N⟩:=h.ne;obtain⟨cp,x,y,z,hd⟩:=h.k.d;obtain⟨ck,J⟩:=h.k.w;obtain⟨C,b⟩:=abr (aX az S (cA S.length lim) j bs);rw[b]at r;refine QX h.jb hd h.k.l J F B a3 a5 N a4 h.k.n8 h.k.n4 h.inv.half h.k.lm.2 I (λM m p o A u v=>?_);have G:M[dp]?=L[dp]?:=u dp (Ne.symm a4) F B (aby.1 hd).1;rw[show aX az S (cA S.length lim) j bs=C from b]at p o⊢;by_cases e:C.1=0;obtain⟨n,f⟩:=OW (room:=cA S.length lim) (bs:=bs) NU (h.inv.old NU h.k.n8) h.k.n8 (by rw[b];exact e);obtain⟨D,E⟩:=OX (room:=cA S.length lim) (j:=j) (bs:=bs) h.k.all h.k.n8 (by rw[b];exact e);rw[b]at n f D E;refine r M _ _ bs ⟨⟨⟨cp,x,y,z,?_⟩,o,⟨m,A⟩,by rw[f];exact h.k.n4,by rw[f];exact h.k.n8,D,h.k.lm⟩,p,n⟩ f (by rw[E];exact abA _) (λ_=>rfl) (λq=>absurd e q) (λi g t=>u i (λe=>g (.inl e)) (λe=>g (.inr (.inl e))) (λe=>g (.inr (.inr e))) t) v;rw[G,f];exact hd;obtain⟨n,f⟩:=V4 (S:=S) (room:=cA S.length lim) (j:=j) (bs:=bs) (by rw[b];exact e);rw[b]at n f;rw[f]at p o;exact r M S j recs ⟨⟨⟨cp,x,y,z,by rw[G];exact hd⟩,o,⟨m,A⟩,h.k.n4,h.k.n8,h.k.all,h.k.lm⟩,p,h.inv⟩ rfl (adp _) (λq=>absurd q e) (λ_=>⟨rfl,rfl,n⟩) (λi g t=>u i (λe=>g (.inl e)) (λe=>g (.inr (.inl e))) (λe=>g (.inr (.inr e))) t) v
theorem No(h:z7 L jp dp lp wp lim S j recs){b:List UInt8}{K:abx}(r:∀M v s a,z7 M jp dp lp wp lim v s a->v.length=S.length->s.gen=j.gen->((iB az S (cA S.length lim) j b).1=0->a=recs++[b])->((iB az S (cA S.length lim) j b).1≠0->a=recs/\v=S/\s=j/\((iB az S (cA S.length lim) j b).1=5\/(iB az S (cA S.length lim) j b).1=11))->(∀i,¬OfJ jp lp wp i->i<L.length->M[i]?=L[i]?)->L.length<=M.length->K (.int .i64 (iB az S (cA S.length lim) j b).1) M):
  abw 28 [.ptr jp 0,.str b] L K:=by
 obtain⟨G,C,a3⟩:=h.k.ne;obtain⟨a4,a5,J⟩:=h.ne;obtain⟨cp,x,y,z,hd⟩:=h.k.d;obtain⟨ck,I⟩:=h.k.w;obtain⟨N,P,O⟩:=h.small;obtain⟨D,c⟩:=abr (iB az S (cA S.length lim) j b);rw[c]at r;refine UO h.jb hd h.k.l I G C a3 a5 J a4 h.k.n8 h.k.n4 h.inv.half aeu h.k.lm.1 h.k.lm.2 h.inv.gen aeu (λM m p o B u A=>?_);have H:M[dp]?=L[dp]?:=u dp (Ne.symm a4) G C (aby.1 hd).1;obtain⟨E,F⟩:=Y0 (S:=S) (room:=cA S.length lim) (j:=j) (b:=b) h.k.all h.inv.gen aeu;rw[c]at E F;rw[show iB az S (cA S.length lim) j b=D from c]at p o⊢;by_cases e:D.1=0;obtain⟨n,f⟩:=YZ (room:=cA S.length lim) (b:=b) NU h.inv h.k.n8 (by rw[c];exact e);rw[c]at n f;refine r M _ _ (recs++[b]) ⟨⟨⟨cp,x,y,z,?_⟩,o,⟨m,B⟩,by rw[f];exact h.k.n4,by rw[f];exact h.k.n8,E,h.k.lm⟩,p,n⟩ f F (λ_=>rfl) (λq=>absurd e q) (λi g t=>u i (λe=>g (.inl e)) (λe=>g (.inr (.inl e))) (λe=>g (.inr (.inr e))) t) A;rw[H,f];exact hd;obtain⟨n,f⟩:=aai (S:=S) (room:=cA S.length lim) (j:=j) (b:=b) (by rw[c];exact e);rw[c]at n f;rw[f]at p o;exact r M S j recs ⟨⟨⟨cp,x,y,z,by rw[H];exact hd⟩,o,⟨m,B⟩,h.k.n4,h.k.n8,h.k.all,h.k.lm⟩,p,h.inv⟩ rfl rfl (λq=>absurd q e) (λ_=>⟨rfl,rfl,rfl,n⟩) (λi g t=>u i (λe=>g (.inl e)) (λe=>g (.inr (.inl e))) (λe=>g (.inr (.inr e))) t) A
end
set_option maxHeartbeats 2000000
set_option maxRecDepth 100000
def avW(v:List Atr):Prop:=vf ⟨1,[],[],v⟩
theorem avW.ok{v:List Atr}(h:avW v):aaf v:=⟨h.1,λa b=>(h.2 a b).2.1⟩
theorem W0{Q:List Atr->Prop}{suf:List Rdn}{l:List aA}{last:Int}{v:List Atr}(c:∀x∈l,Q x.av)(f:Q v):∀x∈(doT suf l last k dn tn v).1,Q x.av:=by
 have b:∀(l:List aA) (i:Int),(∀x∈l,Q x.av)->∀x∈xY l i v,Q x.av:=λl i h x a=>by obtain⟨y,e,rfl⟩:=abB.1 a;split;exact f;exact h y e
 have d:∀x∈pX l dn tn,Q x.av:=λx a=>by obtain⟨y,e,rfl⟩:=abB.1 a;split;exact c y e;exact c y e
 unfold doT;split;exact c;split;intro x a;rcases abD.1 a with a|a;exact c x a;rw[abV.1 a];exact f;split;intro x a;exact c x (acj.1 a).1;split;exact b l _ c;exact b _ _ d
theorem aU.stay{L M:List Blk}{iv mn mi:Nat}{nb bn:Int->Nat}{ck ci:Nat}{rs:List TKy}{suf:List Rdn}{last:Int}{l:List aA}(h:aU L iv mn mi nb bn ck ci rs suf last l)(e:∀i,OfT iv mn mi nb l i->M[i]?=L[i]?):aU M iv mn mi nb bn ck ci rs suf last l :=
 ⟨by rw[e iv (.inl rfl)];exact h.v,by rw[e mn (.inr (.inl rfl))];exact h.n,by rw[e mi (.inr (.inr (.inl rfl)))];exact h.i,λx a=>by rw[e _ (.inr (.inr (.inr ⟨x,a,rfl⟩)))];exact h.nd x a,h.keys,h.mem,h.bnd,h.blt⟩
structure Adr where
 sp:Nat
 it:Nat
 iv:Nat
 mn:Nat
 mi:Nat
 jp:Nat
 dp:Nat
 lp:Nat
 wp:Nat
structure sh(L:List Blk)(A:Adr)(lim:Int)(suf:List Rdn)(last:Int)(l:List aA)(S:List Sec)(j:Jst)(recs:List (List UInt8)):Prop where
 c:∃nb bn ck ci rs,aU L A.iv A.mn A.mi nb bn ck ci rs suf last l
 s:L[A.sp]?=some (.cells [.ptr A.iv 0,.ptr A.it 0,.ptr A.jp 0,.bool false])
 t:L[A.it]?=some (.cells [.ptr A.iv 0])
 m:z7 L A.jp A.dp A.lp A.wp lim S j recs
 n:A.mn≠A.mi/\A.wp≠A.mn/\A.wp≠A.mi
 tok:TOk suf last l
 l0:0<=last/\last<=900000
 ln:l.length<=900000
 av:∀x∈l,avW x.av
def NoJ(b:Blk):Prop:=∃c,b=.cells c/\c.length≠8/\∀s t,c≠.str s::t
theorem z7.off{L:List Blk}{jp dp lp wp:Nat}{lim:Int}{S:List Sec}{j:Jst}{recs:List (List UInt8)}(h:z7 L jp dp lp wp lim S j recs){b:Blk}(a:L[i]?=some b)(g:NoJ b):¬OfJ jp lp wp i/\i≠dp:=by
 obtain⟨c,rfl,f,m⟩:=g;obtain⟨cp,x,y,z,hd⟩:=h.k.d;obtain⟨ck,n⟩:=h.k.w;have o:=h.k.l;refine⟨?_,λe=>?_⟩;rintro(e|e|e);rw[e,h.jb]at a;simp only[abz,Blk.cells.injEq]at a;exact f (by rw[<- a];rfl);rw[e,o]at a;have h4:=h.k.n4
 match S,h4 with
 | s::t,_ =>
   simp only[abz,Blk.cells.injEq,abO]at a;exact m s _ a.symm
 rw[e,n]at a;simp at a;rw[e,hd]at a;simp only[abz,Blk.cells.injEq]at a;exact f (by rw[<- a];rfl)
theorem aU.offJ{L:List Blk}{iv mn mi:Nat}{nb bn:Int->Nat}{ck ci:Nat}{rs:List TKy}{suf:List Rdn}{last:Int}{l:List aA}(b:aU L iv mn mi nb bn ck ci rs suf last l){jp dp lp wp:Nat}{lim:Int}{S:List Sec}{j:Jst}{recs:List (List UInt8)}(h:z7 L jp dp lp wp lim S j recs)(p:wp≠mn)(g:wp≠mi)(r:OfT iv mn mi nb l i):¬OfJ jp lp wp i/\i≠dp:=by
 have map:∀{i:Nat}{m:List (AV×AV×Nat)}{c:Nat},L[i]?=some (.map m c)->wp≠i->¬OfJ jp lp wp i/\i≠dp:=λ{i m c} a f=>by obtain⟨cp,x,y,z,hd⟩:=h.k.d;refine⟨?_,λe=>by rw[e,hd]at a;simp at a⟩;rintro(e|e|e);rw[e,h.jb]at a;simp at a;rw[e,h.k.l]at a;simp at a;exact f e.symm
 rcases r with e|e|e|⟨x,o,e⟩;exact h.off (by rw[e];exact b.v) ⟨_,rfl,(by intro q;cases q),λs t q=>by cases q⟩;rw[e];exact map b.n p;rw[e];exact map b.i g;exact h.off (by rw[e];exact b.nd x o) ⟨_,rfl,(by intro q;cases q),λs t q=>by unfold kP at q;cases q⟩
def NoS(b:Blk):Prop:=∃k v t,b=.cells (.int k v::t)/\t.length≠7
theorem NoS.noJ{b:Blk}(h:NoS b):NoJ b:=by obtain⟨k,v,t,rfl,h⟩:=h;exact⟨_,rfl,by simp;omega,λs t q=>by cases q⟩
section
variable {L:List Blk}{A:Adr}{lim:Int}{suf:List Rdn}{last:Int}{l:List aA}{S:List Sec}{j:Jst}{recs:List (List UInt8)}
theorem sh.noT(h:sh L A lim suf last l S j recs){nb bn:Int->Nat}{ck ci:Nat}{rs:List TKy}(b:aU L A.iv A.mn A.mi nb bn ck ci rs suf last l){i:Nat}{c:List AV}(a:L[i]?=some (.cells c))(hd:∀d t,c≠dnA d::t):¬OfT A.iv A.mn A.mi nb l i:=by rintro(e|e|e|⟨x,f,e⟩);rw[e,b.v]at a;simp only[abz,Blk.cells.injEq]at a;exact hd _ _ a.symm;rw[e,b.n]at a;simp at a;rw[e,b.i]at a;simp at a;rw[e,b.nd x f]at a;simp only[abz,Blk.cells.injEq]at a;exact hd x.nm _ (by rw[<- a];rfl)
theorem sh.app(h:sh L A lim suf last l S j recs)(X:List Blk):sh (L++X) A lim suf last l S j recs:=by
 obtain⟨nb,bn,ck,ci,rs,f⟩:=h.c;have key:∀{i:Nat}{b:Blk},L[i]?=some b->(L++X)[i]?=L[i]?:=λ{i b} e=>abC (aby.1 e).1
 obtain⟨cp,x,y,z,hd⟩:=h.m.k.d;obtain⟨a,g⟩:=h.m.k.w;refine⟨⟨nb,bn,ck,ci,rs,f.app X⟩,by rw[key h.s];exact h.s,by rw[key h.t];exact h.t,h.m.keep λi q=>?_,h.n,h.tok,h.l0,h.ln,h.av⟩;rcases q with q|q|q|q;rw[q];exact key hd;rw[q];exact key h.m.jb;rw[q];exact key h.m.k.l;rw[q];exact key g
theorem sh.jrn(h:sh L A lim suf last l S j recs){M:List Blk}{o:List Sec}{k:Jst}{d:List (List UInt8)}(p:z7 M A.jp A.dp A.lp A.wp lim o k d)(g:∀i,¬OfJ A.jp A.lp A.wp i->i<L.length->M[i]?=L[i]?):sh M A lim suf last l o k d:=by
 obtain⟨nb,bn,ck,ci,rs,f⟩:=h.c;have a:∀{i:Nat}{b:Blk},L[i]?=some b->i<L.length:=λ{i b} e=>(aby.1 e).1
 refine⟨⟨nb,bn,ck,ci,rs,f.stay λi q=>g i (f.offJ h.m h.n.2.1 h.n.2.2 q).1 ?_⟩,?_,?_,p,h.n,h.tok,h.l0,h.ln,h.av⟩;rcases q with e|e|e|⟨x,r,e⟩;rw[e];exact a f.v;rw[e];exact a f.n;rw[e];exact a f.i;rw[e];exact a (f.nd x r);rw[g _ (h.m.off h.s ⟨_,rfl,(by intro q;cases q),λs t q=>by cases q⟩).1 (a h.s)];exact h.s;rw[g _ (h.m.off h.t ⟨_,rfl,(by intro q;cases q),λs t q=>by cases q⟩).1 (a h.t)];exact h.t
theorem sh.tre(h:sh L A lim suf last l S j recs){nb bn:Int->Nat}{ck ci:Nat}{rs:List TKy}(v:aU L A.iv A.mn A.mi nb bn ck ci rs suf last l){M:List Blk}{a:Int}{g:List aA}{f o:Int->Nat}{b p:Nat}{c:List TKy}(u:aU M A.iv A.mn A.mi f o b p c suf a g)(r:M[A.it]?=some (.cells [.ptr A.iv 0]))(B:aL (OfT A.iv A.mn A.mi nb l) L M)(H:TOk suf a g)(J:0<=a/\a<=900000)(E:g.length<=900000)(I:∀x∈g,avW x.av):sh M A lim suf a g S j recs:=by
 obtain⟨cp,x,y,z,hd⟩:=h.m.k.d;obtain⟨G,K⟩:=h.m.k.w;refine⟨⟨f,o,b,p,c,u⟩,?_,r,h.m.keep λi q=>?_,h.n,H,J,E,I⟩;exact B.get h.s (h.noT v h.s λd t q=>by cases q);have D:¬OfT A.iv A.mn A.mi nb l i:=λe=>by obtain⟨C,F⟩:=v.offJ h.m h.n.2.1 h.n.2.2 e;rcases q with q|q;exact F q;exact C q
 have N:i<L.length:=by rcases q with q|q|q|q;rw[q];exact(aby.1 hd).1;rw[q];exact(aby.1 h.m.jb).1;rw[q];exact(aby.1 h.m.k.l).1;rw[q];exact(aby.1 K).1
 exact B.eq i N D
end
end Go.Proofs.YtajkbcmleihaoaaGreatDoor.Av
