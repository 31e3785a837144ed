/- Joined texts of the walk, made small by a program. -/
import Derived.Test.YtdnfjhflkkpokaaGreatDoorFk13
import Derived.Test.YtdnfjhflkkpokaaGreatDoorFk12
import Derived.Test.YtdnfjhflkkpokaaGreatDoorFk4
import Derived.Test.YtdnfjhflkkpokaaGreatDoorRows
import Derived.KernelRfl
import Derived.Test.YtdnfjhflkkpokaaGreatDoorFk5
import Derived.Test.YtdnfjhflkkpokaaGreatDoorFk10
import Derived.Test.YtdnfjhflkkpokaaGreatDoorFk11
set_option linter.unusedSimpArgs false
set_option linter.unusedVariables false
namespace Go.Proofs.YtdnfjhflkkpokaaGreatDoor.Av
open Go
variable {x y:aC}{dn tn:List Rdn}{ids:List Int}{i rt ib n:Nat}{L' A:List Blk}{wh:AV}{w m s:List AV}{ts:List Typ}{names:List (List UInt8)}{tonly:Bool}{time size id:Int}{out:List Fnd}
set_option maxHeartbeats 8000000
set_option maxRecDepth 100000
theorem ag4{a b:List Rdn}(h:NK a=NK b):bp true a=bp true b:=by unfold bp;unfold NK at h;rw[h]
theorem ZQ(l:List aC)(i:Int):(iQ l i:Int)<=l.length:=by
 unfold iQ bF;cases o7 l i with
 |none=>simp
 |some x=>simp only;exact Int.ofNat_le.2 (apR (aqL _ _) (by simp[d8]))
theorem TOk.parI{suf:List Rdn}{last:Int}{l:List aC}(h:TOk suf last l)(a:x∈l){d:List Rdn}(b:OkD d):x.id=bC l d.tail↔(NK d).tail=NK x.nm:=by
 rw[<- Ws];constructor;intro e;unfold bC at e;cases hq:atE l d.tail with
 |none=>rw[hq]at e;have:=(h.ids x a).1;simp only at e;omega
 | some y =>
   rw[hq]at e;obtain⟨_,c,f⟩:=cQ hq;rw[h.byI a c e,f]
 intro e;unfold bC;rw[h.at a b.tail e]
section
variable {L:List Blk}{iv mn mi it:Nat}{nb bn:Int->Nat}{ck ci:Nat}{rs:List TKy}{suf:List Rdn}{last:Int}{l:List aC}
theorem aoE(m:TOk suf last l)(G:mn≠mi)(a_:l.length<=1000000)(j:L[it]?=some (.cells [.ptr iv 0]))(O:b9 L iv mn mi nb bn ck ci rs suf last l){dn tn:List Rdn}{v:AV}(p:dnB dn)(a0:dnB tn){x:aC}(S:atE l dn=some x)(F:fY suf l 2 dn tn=0){K:apr}(h:∀L' t y,b9 L' iv mn mi nb bn ck t y suf last (Wf l x.id)->L'[it]?=some (.cells [.ptr iv 0])->aZ (OfT iv mn mi nb l) L L'->K (.int .i64 0) L'):
  apq 34 [.ptr it 0,.agg [.int .i64 2,dnA dn,dnA tn,v]] L K:=by
 obtain⟨J,f,R⟩:=cQ S;have ap:bF (d8 l) (NK x.nm)=0:=by unfold fY at F;rw[if_neg (by decide),if_neg (by decide),S]at F;simp only[if_true]at F;by_cases c:bF (d8 l) (NK x.nm)=0;exact c;rw[if_pos c]at F;exact absurd F (by decide)
 obtain⟨u,al⟩:=m.del f ap;have U:bC l dn=x.id:=by unfold bC;rw[S]
 have Z:=O.toK m;have V:bp true dn=bp true x.nm:=ag4 R.symm;have hu:∀z∈l,bp true z.nm=bp true x.nm↔z.id=x.id:=λz s=>⟨λe=>by rw[m.byN s f ((kD (m.ok z s) (m.ok x f)).1 e)],λe=>by rw[m.byI s f e]⟩
 obtain⟨j1,a,T⟩:=Z.delk G f hu;obtain⟨j2,v2,a5,I⟩:=T.deln G (by have hn:=m.inv.ids;unfold d8 at hn;rw[apS]at hn;exact hn) f
 have w:=O.v;have Q:=O.n;have N:=O.i;have E:iv<L.length:=(aps.1 w).1;have D:mn<L.length:=(aps.1 Q).1;have B:mi<L.length:=(aps.1 N).1;have r:it<L.length:=(aps.1 j).1;have M:=Z.noIt j;have n1:mi≠it:=λe=>M (.inr (.inr (.inl e.symm)))
 have n2:mn≠it:=λe=>M (.inr (.inl e.symm))
 have n3:=Z.nemi;have n4:=Z.nemn;have av:∀X:List Blk,(L++X)[iv]?=some (.cells [dnA suf,.lmap mn,.lmap mi,.int .i64 last]):=λX=>by rw[apx E];exact w
 have a':∀X:List Blk,(L++X)[it]?=some (.cells [.ptr iv 0]):=λX=>by rw[apx r];exact j
 have ai:∀X:List Blk,(L++X)[mi]?=some (.map (rs.map kyA) ci):=λX=>by rw[apx B];exact N
 have si:∀(X:List Blk) b,(L++X).set mi b=L.set mi b++X:=λX b=>aqB _ _ B
 have bi:∀(X:List Blk) b,(L.set mi b++X)[iv]?=some (.cells [dnA suf,.lmap mn,.lmap mi,.int .i64 last]):=λX b=>by rw[apx (by simpa using E),apM (Ne.symm n3)];exact w
 have a9:∀(X:List Blk) b,(L.set mi b++X)[it]?=some (.cells [.ptr iv 0]):=λX b=>by rw[apx (by simpa using r),apM n1];exact j
 have a7:∀(X:List Blk) b,(L.set mi b++X)[mn]?=some (.map (l.map (gL nb bn)) ck):=λX b=>by rw[apx (by simpa using D),apM (Ne.symm G)];exact Q
 have a8:∀(X:List Blk) b c,(L.set mi b++X).set mn c=(L.set mi b).set mn c++X:=λX b c=>aqB _ _ (by simpa using D)
 have bb:∀(X:List Blk) (b c d:Blk),((L.set mi b).set mn d++c::X)[L.length]?=some c:=λX b c d=>by rw[apH asQ];simp
 have kk1:Hid (∀{X:List Blk}{K:apr},K (.int .i64 0) (L++X)->apq 78 [.ptr iv 0,.agg [.int .i64 2,dnA dn,dnA tn,v]] (L++X) K):=@hid _ (by intro X K q;exact Tt m asP (O.app X) p a0 (by rw[F];exact q))
 have kk2:Hid (∀{X:List Blk}{K:apr},K (.int .i64 x.id) (L++X)->apq 24 [.ptr iv 0,dnA dn] (L++X) K):=@hid _ (by intro X K q;exact tQ p m (O.app X) (by rw[U];exact q))
 have kk3:Hid (Ctr Tryz.prog 58 [dnA dn] (.tup [.str (bp true dn),.int .i64 0])):=@hid _ (by intro L K q;exact SG p.1 p.2 (by rw[iP J];exact q))
 obtain⟨k,ad⟩:∃k:Blk,k=.cells [.int .i64 2,dnA dn,dnA tn,v]:=⟨_,rfl⟩;obtain⟨A,hA⟩:=apl ((L.set mi (.map ((rs.map kyA).eraseIdx j1) ci)).set mn (.map ((l.map (gL nb bn)).eraseIdx j2) ck));rw[hA]at I;have a6:A.length=L.length:=by rw[<- hA];simp
 have bk:∀(X:List Blk) (c:Blk),(A++c::X)[L.length]?=some c:=λX c=>by rw[apH asP,a6];simp
 have H:aZ (OfT iv mn mi nb l) L A:=by rw[<- hA];exact(aZ.set L (.inr (.inr (.inl rfl))) _).trans (aZ.set _ (.inr (.inl rfl)) _)
 have P:=I.app [k];have g:(A++[k])[it]?=some (.cells [.ptr iv 0]):=by have a3:it<A.length:=(by rw[<- hA];simpa using r);rw[apx a3];exact H.get j M
 have kk4:Hid (∀{K:apr},(∀L' t y,b9 L' iv mn mi nb bn ck t y suf last (Wf l x.id)->L'[it]?=some (.cells [.ptr iv 0])->aZ (OfT iv mn mi nb l) L L'->K (.tup []) L')->apq 80 [.ptr it 0,dnA dn,.int .i64 (-1)] (A++[k]) K):=@hid _ (by
  intro K q;have a1:dn≠[]:=λe=>m.inv.ne (gM f) (by rw[R,e];rfl)
  refine OL p a1 u (λx S=>⟨x,S,rfl⟩) (λz s=>(u.ids z s).1) g P asP (λi=>by have:=ZQ l i;omega) λL' a2 hb=>?_
  refine q L' _ _ (a2.toT λz s=>?_) (hb.get g (P.noIt g)) (((H.trans (aZ.app A [k])).trans2 hb λi hi=>?_));have a4:z∈l:=(ap8.1 s).1;have h1:=al (NK z.nm);rw[<- m.kidsE a4,R]at h1;have C:=u.parI s J;by_cases hp:(NK dn).tail=NK z.nm;rw[if_pos hp]at h1;rw[if_pos (C.2 hp)];omega;rw[if_neg hp]at h1;rw[if_neg (λe=>hp (C.1 e))];omega;rintro(e|e|e|⟨z,s,e⟩);exact .inl e;exact .inr (.inl e);exact .inr (.inr (.inl e));exact .inr (.inr (.inr ⟨z,(ap8.1 s).1,e⟩)))
 have W:bT .str (.str (bp true dn))=true:=rfl;have an:bT .int (.int .i64 x.id)=true:=rfl;rw[<- V]at a;obtain⟨tk,Y⟩:=apl (bp true dn);obtain⟨xi,ar⟩:=apl (x.id);rw[Y]at a kk3 W;rw[ar]at a a5 kk2 an h;replace h:=hid h;replace a:=hid a;clear Z T I P H g hu V Y w Q N j O m u al ap U J F;have a:=a.o;subst ad;refine apo fV ?_;intro L' t y q1 q2 q3;replace q1:=hid q1;replace q2:=hid q2;replace q3:=hid q3;refine wk ?_;exact aa (h.o L' _ _ q1.o q2.o q3.o)
theorem aoF(p:TOk suf last l)(W:l.length<=1000000)(e:L[it]?=some (.cells [.ptr iv 0]))(k:b9 L iv mn mi nb bn ck ci rs suf last l){dn tn:List Rdn}{v:List Atr}(A:dnB dn)(M:dnB tn)(I:v.length<=1100000)(F:∀a∈v,a.2.length<=1100000){x:aC}(H:atE l dn=some x){K:apr}(h:∀L',b9 L' iv mn mi nb bn ck ci rs suf last (rD l x.id v)->L'[it]?=some (.cells [.ptr iv 0])->aZ (OfT iv mn mi nb l) L L'->K (.int .i64 0) L'):
  apq 34 [.ptr it 0,.agg [.int .i64 3,dnA dn,dnA tn,atR v]] L K:=by
 obtain⟨G,d,Z⟩:=cQ H;have O:fY suf l 3 dn tn=0:=by unfold fY;rw[if_neg (by decide),if_neg (by decide),H];rfl
 have u:bC l dn=x.id:=by unfold bC;rw[H]
 have E:=k.toK p;have t:=E.cha d v;have j:aZ (OfT iv mn mi nb l) L (L.set (nb x.id) (.cells [dnA x.nm,.sl (aG (pth x)) x.nm.length none,atR v,.int .i64 (iQ l x.id:Nat)])):=aZ.set L (.inr (.inr (.inr ⟨x,d,rfl⟩))) _;have J:=E.noIt e;have N:b9 (L.set (nb x.id) (.cells [dnA x.nm,.sl (aG (pth x)) x.nm.length none,atR v,.int .i64 (iQ l x.id:Nat)])) iv mn mi nb bn ck ci rs suf last (rD l x.id v):=t.toT λz T=>by obtain⟨y,S,rfl⟩:=apz.1 T;rw[ZI];have R:(if y.id=x.id then{y with av:=v}else y).id=y.id:=(by split<;>rfl);have U:(if y.id=x.id then{y with av:=v}else y).nm=y.nm:=(by split<;>rfl);rw[R,U,p.kidsE S]
 have c:=h _ (N.app [.cells [.int .i64 3,dnA dn,dnA tn,atR v]]) ((j.trans (aZ.app _ _)).get e J) (j.trans (aZ.app _ _));have i:=k.v;have m:=k.n;have B:iv<L.length:=(aps.1 i).1;have r:mn<L.length:=(aps.1 m).1;have C:it<L.length:=(aps.1 e).1;have f:=E.nd x d;have g:nb x.id<L.length:=(aps.1 f).1;unfold dJ at f;have av:∀X:List Blk,(L++X)[iv]?=some (.cells [dnA suf,.lmap mn,.lmap mi,.int .i64 last]):=λX=>by rw[apx B];exact i
 have Q:∀X:List Blk,(L++X)[it]?=some (.cells [.ptr iv 0]):=λX=>by rw[apx C];exact e
 have an:∀X:List Blk,(L++X)[mn]?=some (.map (l.map (gL nb bn)) ck):=λX=>by rw[apx r];exact m
 have ad:∀X:List Blk,(L++X)[nb x.id]?=some (.cells [dnA x.nm,.sl (aG (pth x)) x.nm.length none,atR x.av,.int .i64 (iQ l x.id:Nat)]):=λX=>by rw[apx g];exact f
 have Y:∀(X:List Blk) b,(L++X).set (nb x.id) b=L.set (nb x.id) b++X:=λX b=>aqB _ _ g
 have kk1:Hid (∀{X:List Blk}{K:apr},K (.int .i64 0) (L++X)->apq 78 [.ptr iv 0,.agg [.int .i64 3,dnA dn,dnA tn,atR v]] (L++X) K):=@hid _ (by intro X K q;exact Tt p asP (k.app X) A M (by rw[O];exact q))
 have kk2:Hid (∀{X:List Blk}{K:apr},K (.int .i64 x.id) (L++X)->apq 24 [.ptr iv 0,dnA dn] (L++X) K):=@hid _ (by intro X K q;exact tQ A p (k.app X) (by rw[u];exact q))
 have kk3:Hid (Ctr Tryz.prog 60 [atR v] (atR v)):=@hid _ (by intro L K q;exact YP I F q);have w:bT .int (.int .i64 x.id)=true:=rfl;rcases k.node x.id with⟨D,_⟩|⟨x',n,D,_,_,V,_⟩;rw[p.ent d]at D;cases D;obtain⟨q,P⟩:∃q:Int,(iQ l x.id:Nat)=q:=⟨_,rfl⟩;rw[P]at ad c;obtain⟨xi,s⟩:=apl (x.id);rw[s]at w V kk2 ad Y c;replace h:=hid c;clear c E t j i m e k p u G O s P d D f;unfold atR at kk1 kk3 h⊢;refine apo fV ?_;exact aa h.o
end
set_option maxHeartbeats 8000000
set_option maxRecDepth 100000
def SU(l:List aC)(dn:List Rdn):List aC:=l.filter λz => !cC z.nm dn
theorem nM{l:List aC}{z:aC}:z∈SU l dn↔z∈l/\cC z.nm dn=false:=by unfold SU;rw[ap8];simp
theorem TOk.cut{suf:List Rdn}{last:Int}{l:List aC}(h:TOk suf last l)(n:OkD dn):TOk suf last (SU l dn):=by
 have sub:∀z∈SU l dn,z∈l:=λz a=>(nM.1 a).1
 have d:(d8 (SU l dn)).Sublist (d8 l):=List.filter_sublist.map _;refine⟨h.sok,λz a=>h.ok z (sub z a),⟨h.inv.sne,(d.map _).nodup h.inv.nd,(d.map _).nodup h.inv.ids,λm c=>h.inv.un m (d.subset c),λm c=>?_⟩,λz a=>h.ids z (sub z a)⟩;obtain⟨z,a,rfl⟩:=apz.1 c;obtain⟨b,g⟩:=nM.1 a;rcases h.inv.par _ (gM b)with e|⟨k,i,e⟩;simp_all;obtain⟨w,j,rfl⟩:=apz.1 i;refine .inr ⟨_,gM (nM.2 ⟨j,?_⟩),e⟩;cases hu:cC w.nm dn with
 |false=>rfl
 | true =>
   have f:=(cD.1 hu).2.2;simp only at e;rw[e]at f;have:cC z.nm dn=true:=cD.2 ⟨h.ok z b,n,f.trans (arD _)⟩;simp_all
def ZL(l:List aC)(dn tn:List Rdn)(ids:List Int):List aC:=l.map λz=>if z.id∈ids then{z with nm:=iB z.nm dn.length tn}else z
theorem alP(l:List aC)(dn tn:List Rdn):ZL l dn tn []=l:=by unfold ZL;simp
theorem ajA{suf:List Rdn}{last:Int}{l:List aC}(h:TOk suf last l)(dn tn:List Rdn)(a:y∈l)(c:y.id∉ids):nmT (ZL l dn tn ids) y.id (iB y.nm dn.length tn)=ZL l dn tn (ids++[y.id]):=by
 unfold nmT ZL;rw[apS];refine aqJ λz b=>?_
 by_cases e:z.id=y.id;have:=h.byI b a e;simp[*]
 grind
theorem anp{l:List aC}(dn tn:List Rdn)(b:y∈l)(a:y.id∉ids):y∈ZL l dn tn ids:=apz.2 ⟨y,b,if_neg a⟩
theorem alQ{l:List aC}(dn tn:List Rdn)(h:∀z∈l,z.id∈ids↔cC z.nm dn=true):ZL l dn tn ids=nu l dn tn:=by unfold ZL nu;simp_all
theorem Zi{l:List aC}{z:aC}(h:z∈nu l dn tn):∃y∈l,y.id=z.id/\z=(if cC y.nm dn=true then{y with nm:=iB y.nm dn.length tn}else y):=by
 obtain⟨y,a,rfl⟩:=apz.1 h
 grind
theorem ai9{suf:List Rdn}{last:Int}{l:List aC}(h:TOk suf last l){dn tn:List Rdn}(a:OkD dn){y:aC}(b:y∈l):NK (if cC y.nm dn=true then{y with nm:=iB y.nm dn.length tn}else y).nm=ren (NK dn) (NK tn) (NK y.nm):=by by_cases c:cC y.nm dn=true;rw[if_pos c,agB c];rw[if_neg c,gW λd=>c (cD.2 ⟨h.ok y b,a,d⟩)]
theorem TOk.movK{suf:List Rdn}{last:Int}{l:List aC}(h:TOk suf last l)(a:an5 suf l x dn tn)(b:y∈l):
  (bF (d8 (nu l dn tn)) (NK (if cC y.nm dn=true then{y with nm:=iB y.nm dn.length tn}else y).nm):Int)=(if y.id=bC (nu l dn tn) tn.tail then(if y.id=bC (SU l dn) dn.tail then(iQ l y.id:Int) + -1 else iQ l y.id)+1 else(if y.id=bC (SU l dn) dn.tail then(iQ l y.id:Int) + -1 else iQ l y.id)):=by
 obtain⟨g,j⟩:=h.mov a;have d:=h.cut a.ok;rw[ai9 h a.ok b,j y b,h.kidsE b];have p:y.id=bC (SU l dn) dn.tail↔NK y.nm=(NK dn).tail:=by
  cases hu:cC y.nm dn with
  |false=>rw[d.parI (nM.2 ⟨b,hu⟩) a.ok];exact eq_comm
  | true =>
    constructor
    .intro e;unfold bC at e;cases hq:atE (SU l dn) dn.tail with
     |none=>rw[hq]at e;have:=(h.ids y b).1;simp only at e;omega
     | some w =>
       rw[hq]at e;obtain⟨m,n⟩:=nM.1 (cQ hq).2.1;have:=h.byI b m e;simp_all
    .intro e;have c:=(cD.1 hu).2.2.length_le;rw[e,arc]at c;have:NK dn≠[]:=λf=>h.inv.ne (gM a.mem) (by rw[a.nk,f])
     have:=aqi.2 this;omega
 have c2:y.id=bC (nu l dn tn) tn.tail↔NK y.nm=(NK tn).tail:=by have k:(if cC y.nm dn=true then{y with nm:=iB y.nm dn.length tn}else y)∈nu l dn tn:=apz.2 ⟨y,b,rfl⟩;have c:=g.parI k a.tok;rw[ai9 h a.ok b]at c;rw[show(if cC y.nm dn=true then{y with nm:=iB y.nm dn.length tn}else y).id=y.id by split<;>rfl]at c;rw[c];constructor;intro e;by_cases i:NK dn <:+ NK y.nm;obtain⟨w,o⟩:=i;rw[<- o,iO]at e;have:=congrArg List.length e;rw[arc,apB]at this;have:=aqi.2 (λf=>a.tne (Tl.1 f));omega;rw[gW i]at e;exact e.symm;intro e;rw[e,gW a.nun]
 grind
section
variable {L:List Blk}{iv mn mi it:Nat}{nb bn:Int->Nat}{ck ci:Nat}{rs:List TKy}{suf:List Rdn}{last:Int}{l lk:List aC}{kd:Int->Int}
theorem bY.lkE(h:bY L iv mn mi nb bn ck ci rs suf last l lk kd){lk':List aC}(e:∀z,z∈lk↔z∈lk'):bY L iv mn mi nb bn ck ci rs suf last l lk' kd :=
 ⟨h.v,h.n,h.i,h.nd,h.inj,h.keys,λk id=>by rw[h.mem k id];exact⟨λ⟨x,b,a⟩=>⟨x,(e x).1 b,a⟩,λ⟨x,b,a⟩=>⟨x,(e x).2 b,a⟩⟩,h.bnd,h.blt⟩
def lkD(l:List aC)(ys:List aC):List aC:=l.filter λz => !ys.any λy=>decide (y.id=z.id)
theorem ON{l a:List aC}{z:aC}:z∈lkD l a↔z∈l/\∀y∈a,y.id≠z.id:=by unfold lkD;simp
theorem ajH(l a:List aC)(y:aC):∀z,z∈Wf (lkD l a) y.id↔z∈lkD l (a++[y]):=λz=>by
 unfold Wf;rw[ap8,ON,ON]
 grind
end
set_option maxHeartbeats 8000000
set_option maxRecDepth 100000
theorem OfT.lt{L:List Blk}{iv mn mi:Nat}{nb bn:Int->Nat}{ck ci:Nat}{rs:List TKy}{suf:List Rdn}{last:Int}{l lk:List aC}{kd:Int->Int}(h:bY L iv mn mi nb bn ck ci rs suf last l lk kd)(b:OfT iv mn mi nb l i):i<L.length:=by rcases b with rfl|rfl|rfl|⟨x,a,rfl⟩;exact(aps.1 h.v).1;exact(aps.1 h.n).1;exact(aps.1 h.i).1;exact(aps.1 (h.nd x a)).1
theorem aiZ{suf:List Rdn}{last:Int}{l:List aC}(b:TOk suf last l)(x:aC)(s:Int):((scL l x s).map (·.id)).Nodup:=by have a:=b.inv.ids;unfold d8 at a;rw[apS]at a;have:((l.filter (iE x s)).map (·.id)).Nodup:=(List.filter_sublist.map _).nodup a;exact((aq8 _ _).map _).nodup_iff.2 this
section
variable {L:List Blk}{iv mn mi it:Nat}{nb bn:Int->Nat}{ck ci:Nat}{rs:List TKy}{suf:List Rdn}{last:Int}{l:List aC}
theorem aoy(r:TOk suf last l)(c5:mn≠mi)(ex:l.length<=1000000)(bk:L[it]?=some (.cells [.ptr iv 0]))(hc:b9 L iv mn mi nb bn ck ci rs suf last l){dn tn:List Rdn}{v:List Atr}(cx:dnB dn)(c3:dnB tn)(er:v.length<=1100000)(en:∀a∈v,a.2.length<=1100000){x:aC}(hx:atE l dn=some x)(cl:acz suf l x.id dn tn=0){K:apr}(h:∀L' cv G,b9 L' iv mn mi nb bn ck cv G suf last (rD (nu l dn tn) x.id v)->L'[it]?=some (.cells [.ptr iv 0])->aZ (OfT iv mn mi nb l) L L'->K (.int .i64 0) L'):
  apq 34 [.ptr it 0,.agg [.int .i64 4,dnA dn,dnA tn,atR v]] L K:=by
 obtain⟨cn,ai,ec⟩:=cQ hx;have ap:=r.canM hx cl;have ha:fY suf l 4 dn tn=0:=by unfold fY;rw[if_neg (by decide),if_neg (by decide),hx];exact cl
 have d1:bC l dn=x.id:=by unfold bC;rw[hx]
 have s:=hc.toK r;have co:=s.noIt bk;have I:=hc.v;have eb:iv<L.length:=(aps.1 I).1;have ev:mi<L.length:=(aps.1 hc.i).1;have ce:it<L.length:=(aps.1 bk).1;have bx:¬OfT iv mn mi nb l L.length:=λe=>Nat.lt_irrefl _ (OfT.lt s e)
 have av:∀X:List Blk,(L++X)[iv]?=some (.cells [dnA suf,.lmap mn,.lmap mi,.int .i64 last]):=λX=>by rw[apx eb];exact I
 have ej:∀X:List Blk,(L++X)[it]?=some (.cells [.ptr iv 0]):=λX=>by rw[apx ce];exact bk
 have kk1:Hid (∀{X:List Blk}{K:apr},K (.int .i64 0) (L++X)->apq 78 [.ptr iv 0,.agg [.int .i64 4,dnA dn,dnA tn,.sl (aJ v) v.length none]] (L++X) K):=@hid _ (by intro X K q;exact Tt r asP (hc.app X) cx c3 (by rw[ha];exact q))
 have kk2:Hid (∀{X:List Blk}{K:apr},K (.int .i64 x.id) (L++X)->apq 24 [.ptr iv 0,dnA dn] (L++X) K):=@hid _ (by intro X K q;exact tQ cx r (hc.app X) (by rw[d1];exact q))
 obtain⟨d,a8⟩:=apl (scL l x 2);have kk3:Hid (∀{X:List Blk}{K:apr},K (.sl ((d.map (·.id)).map (AV.int .i64)) d.length none) (L++X)->apq 23 [.ptr iv 0,.int .i64 x.id,.int .i64 2] (L++X) K):=@hid _ (by intro X K q;refine Y9 r asP (hc.app X) ?_;rw[adu (r.ent ai),a8,apQ];exact q)
 have c':=ago l x 2;have k:=λy=>YR (y:=y) r hx
 have a5:=aiZ r x 2;rw[a8]at c' k a5;have V:∀(j:Nat) (y:aC),d[j]?=some y->(((d.map (·.id)).map (AV.int .i64)).getD j .undef=.int .i64 y.id)/\y∈l/\cC y.nm dn=true/\(∀z∈d.take j,z.id≠y.id)/\d.take (j+1)=d.take j++[y]:=λj y hj=>by obtain⟨c2,e⟩:=aps.1 hj;have hm:=aqj hj;obtain⟨J,T⟩:=(k y).1 hm;refine⟨by simp[hj],J,T,λz f e2=>?_,by rw[apK c2,e]⟩;obtain⟨i,R,e3⟩:=aqn.1 f;rw[ar8]at e3;rw[aqK]at R;have el:i<j:=asP;have:=aqC.1 a5 i j (by simp;omega) (by simpa using c2) el;exact this (by simp[e3,e,e2])
 have ew:=cn.len;obtain⟨M,d_⟩:∃M:Blk,M=.cells [.int .i64 4,dnA dn,dnA tn,.sl (aJ v) v.length none]:=⟨_,rfl⟩;have hu:∀y∈l,∀z∈l,bp true z.nm=bp true y.nm↔z.id=y.id:=λy hy z f=>⟨λe=>by rw[r.byN f hy ((kD (r.ok z f) (r.ok y hy)).1 e)],λe=>by rw[r.byI f hy e]⟩
 have cu:bY (L++[M]) iv mn mi nb bn ck ci rs suf last l (lkD l (d.take 0)) (λid=>(iQ l id:Nat)):=(s.app [M]).lkE λz=>by rw[ON];simp
 have c1:aZ (OfT iv mn mi nb l) L (L++[M]):=aZ.app L [M];have cr:(L++[M])[L.length]?=some M:=asQ;obtain⟨xi,ar⟩:=apl (x.id);have d5:=bk;unfold atR;rw[ar]at kk2 kk3;replace h:=hid h;replace r:=hid r;replace ap:=hid ap;replace V:=hid V;replace hu:=hid hu;replace k:=hid k;replace cu:=hid cu;replace c1:=hid c1;replace cr:=hid cr;clear hc s I d1 ha cl a8 a5 bk;subst d_;refine apo fV ?_;have cf:∀{L':List Blk}{G:List TKy}{lk:List aC}{cv:Nat}{l':List aC}{kd:Int->Int},bY L' iv mn mi nb bn ck cv G suf last l' lk kd->L'[it]?=some (.cells [.ptr iv 0])->L'[L.length]?=some (.cells [.int .i64 4,dnA dn,dnA tn,.sl (aJ v) v.length none])->∀b,(L'.set mi b)[it]?=some (.cells [.ptr iv 0])/\(L'.set mi b)[L.length]?=some (.cells [.int .i64 4,dnA dn,dnA tn,.sl (aJ v) v.length none]):=λs J T b=>⟨by rw[apM (λe=>s.noIt J (.inr (.inr (.inl e.symm))))];exact J,by rw[apM asP];exact T⟩
 replace cf:=@hid _ @cf;refine aj (λn T' L'=>∃j:Nat,n=d.length-j/\j<=d.length/\Hid (∃G,bY L' iv mn mi nb bn ck ci G suf last l (lkD l (d.take j)) (λid=>(iQ l id:Nat)))/\Hid (aZ (OfT iv mn mi nb l) L L')/\L'[L.length]?=some (.cells [.int .i64 4,dnA dn,dnA tn,.sl (aJ v) v.length none])/\L'[it]?=some (.cells [.ptr iv 0])/\T'=[(137,.int .i64 (j:Int)),(136,.int .i64 d.length),(135,.sl ((d.map (·.id)).map (AV.int .i64)) d.length none),(9,.sl ((d.map (·.id)).map (AV.int .i64)) d.length none),(6,.int .i64 xi),(3,.ptr L.length 0),(0,.ptr it 0)]) asT ⟨0,rfl,apv _,hid ⟨rs,cu.o⟩,hid c1.o,cr.o,by rw[apx ce];exact d5,rfl⟩ ?_;rintro _ _ L' ⟨j,rfl,hj,hI,hB,hb,R,rfl⟩;obtain⟨G,s⟩:=hI.o;have b5:L.length+1<=L'.length:=(aps.1 hb).1;have I:=s.v;have a9:=s.n;have b0:=s.i;by_cases P:j<d.length;have g1:(j:Int)<(d.length:Int):=asP;have g2:=apn j asP;have Q:d[j]?=some d[j]:=apD P;obtain⟨y,hy⟩:=apl (d[j]);rw[hy]at Q;obtain⟨e1,p,a4,a0,bo⟩:=V.o j y Q;have e2:j<((d.map (·.id)).map (AV.int .i64)).length:=by simpa using P
 obtain⟨j1,c4,al⟩:=s.delk c5 (y:=y) (ON.2 ⟨p,a0⟩) (λz f=>hu.o y p z (ON.1 f).1);have t:=al.lkE (ajH l (d.take j) y);rw[<- bo]at t;obtain⟨b1,b2⟩:=cf.o s R hb (.map ((G.map kyA).eraseIdx j1) ci);have E:=hB.o.trans (aZ.set L' (B:=OfT iv mn mi nb l) (.inr (.inr (.inl rfl))) (.map ((G.map kyA).eraseIdx j1) ci));rcases s.node y.id with⟨f1,_⟩|⟨y',n,f1,_,_,f2,f3,_⟩;rw[r.o.ent p]at f1;cases f1;rw[r.o.ent p]at f1;cases f1;unfold dJ at f3;have b6:=r.o.ok y p;have kk4:Hid (Ctr Tryz.prog 58 [dnA y.nm] (.tup [.str (bp true y.nm),.int .i64 0])):=@hid _ (by intro L K q;exact SG b6.m.b.1 b6.m.b.2 (by rw[iP b6];exact q))
 have d2:bT .str (.str (bp true y.nm))=true:=rfl;have dk:bT .int (.int .i64 y.id)=true:=rfl;obtain⟨tk,cc⟩:=apl (bp true y.nm);obtain⟨yi,a6⟩:=apl (y.id);rw[cc]at c4 kk4 d2;rw[a6]at e1 f2 f3 dk c4;have ds:=hid b5;replace b1:=hid b1;replace b2:=hid b2;replace t:=hid t;replace E:=hid E;clear s al hI hB b6 cc a6 p a4 a0 bo Q hy kk1 kk2 kk3 av ej bx;refine wk ?_;exact asU asP (CutL (b:=by have:=ds.o;simp;omega)) ⟨j+1,rfl,P,hid ⟨_,t.o⟩,hid E.o,b2.o,b1.o,rfl⟩;have c0:j=d.length:=asP;subst c0;have g1:¬(d.length:Int)<(d.length:Int):=asP;rw[apJ]at s;have ch:=s.lkE (lk':=SU l dn) λz=>by
  rw[ON,nM];refine and_congr_right λf=>?_
  constructor;intro e;cases cm:cC z.nm dn with
  |false=>rfl
  |true=>exact absurd rfl (e z ((k.o z).2 ⟨f,cm⟩))
  intro e y hy e2;obtain⟨y1,y2⟩:=(k.o y).1 hy;rw[r.o.byI y1 f e2,e]at y2;cases y2
 have eg:=r.o.cut cn;have ei:dn≠[]:=λe=>r.o.inv.ne (gM ai) (by rw[ec,e];rfl)
 obtain⟨F,W⟩:∃F:Int->Int,F=λi=>if i=bC (SU l dn) dn.tail then(iQ l i:Int) + -1 else iQ l i:=⟨_,rfl⟩
 have eq:∀i,-10000000<=F i/\F i<=10000000:=λi=>by have:=ZQ l i;rw[W];dsimp only;split<;>omega
 have kk4:Hid (∀{K:apr},(∀L2,Hid (bY L2 iv mn mi nb bn ck ci G suf last l (SU l dn) F)->Hid (aZ (OfT iv mn mi nb l) L L2)->L2[it]?=some (.cells [.ptr iv 0])->L2[L.length]?=some (.cells [.int .i64 4,dnA dn,dnA tn,.sl (aJ v) v.length none])->K (.tup []) L2)->apq 80 [.ptr it 0,dnA dn,.int .i64 (-1)] L' K):=@hid _ (by
  intro K q;refine OL cx ei eg (λz f=>⟨z,(nM.1 f).1,rfl⟩) (λz f=>(r.o.ids z f).1) R ch asP (λi=>by have:=ZQ l i;omega) λL2 t E=>?_
  refine q L2 (hid (by rw[W];exact t)) (hid (hB.o.trans E)) (E.get R (ch.noIt R)) (E.get hb bx))
 clear ch s hI hB;have es:=hid W;clear W;refine wk ?_;intro L2 t E ea ct;clear kk4;clear I a9 b0 hb R b5;have b5:L.length+1<=L2.length:=(aps.1 ct).1;refine wk ?_;obtain⟨A,g⟩:∃A:aC->aC,A=λy=>{y with nm:=iB y.nm dn.length tn}:=⟨_,rfl⟩
 replace g:=hid g;refine aj (λn T' L3=>∃j:Nat,n=d.length-j/\j<=d.length/\Hid (L2.length<=L3.length)/\Hid (∃O a3,bY L3 iv mn mi nb bn ck O a3 suf last (ZL l dn tn ((d.take j).map (·.id))) (SU l dn++(d.take j).map A) F)/\Hid (aZ (OfT iv mn mi nb l) L L3)/\L3[L.length]?=some (.cells [.int .i64 4,dnA dn,dnA tn,.sl (aJ v) v.length none])/\L3[it]?=some (.cells [.ptr iv 0])/\T'=[(172,.int .i64 (j:Int)),(171,.int .i64 d.length),(170,.sl ((d.map (·.id)).map (AV.int .i64)) d.length none),(6,.int .i64 xi),(3,.ptr L.length 0),(0,.ptr it 0)]) (CutS (b:=apt _)) ⟨0,rfl,apv _,hid (apt _),hid ⟨ci,G,by rw[aqX,ara,alP,ara,ap4];exact t.o⟩,E,ct,ea,rfl⟩ ?_;rintro _ _ L3 ⟨j,rfl,hj,c6,hI,hB,hb,R,rfl⟩;obtain⟨O,a3,s⟩:=hI.o;have cd:L.length+1<=L3.length:=(aps.1 hb).1;have I:=s.v;have a9:=s.n;have b0:=s.i;clear t E ea ct b5;by_cases P:j<d.length;have g1:(j:Int)<(d.length:Int):=asP;have g2:=apn j asP;have Q:d[j]?=some d[j]:=apD P;obtain⟨y,hy⟩:=apl (d[j]);rw[hy]at Q;obtain⟨e1,p,a4,a0,bo⟩:=V.o j y Q;have e2:j<((d.map (·.id)).map (AV.int .i64)).length:=by simpa using P
 have Y:y.id∉(d.take j).map (·.id):=λhm=>by obtain⟨z,f,e⟩:=apz.1 hm;exact a0 z f e
 have cp:=anp dn tn p Y;have D:=(r.o.mov ap.o).1;have hZ:A y∈nu l dn tn:=apz.2 ⟨y,p,by rw[if_pos a4,g.o]⟩;have dg:(A y).id=y.id:=by rw[g.o]
 have cw:∀z∈SU l dn++(d.take j).map A,bp true z.nm≠bp true (iB y.nm dn.length tn):=λz f e=>by
  have cy:z∈nu l dn tn/\z.id≠y.id:=by rcases apy.1 f with f|f;obtain⟨J,T⟩:=nM.1 f;refine⟨apz.2 ⟨z,J,by rw[if_neg (by rw[T];decide)]⟩,λe3=>?_⟩;rw[r.o.byI J p e3,a4]at T;cases T;obtain⟨w,U,rfl⟩:=apz.1 f;obtain⟨J,T⟩:=(k.o w).1 (asd U);refine⟨apz.2 ⟨w,J,by rw[if_pos T,g.o]⟩,λe3=>?_⟩;rw[show(A w).id=w.id by rw[g.o]]at e3;exact a0 w U e3
  have e4:NK z.nm=NK (A y).nm:=by rw[show(A y).nm=iB y.nm dn.length tn by rw[g.o]];exact(kD (D.ok z cy.1) (by have:=D.ok _ hZ;rw[g.o]at this;exact this)).1 e
  have:=D.byN cy.1 hZ e4;exact cy.2 (by rw[this,dg])
 have bi:OkD (iB y.nm dn.length tn):=by have:=D.ok _ hZ;rw[g.o]at this;exact this
 obtain⟨Z,an⟩:=apl (iB y.nm dn.length tn);rw[an]at cw bi;obtain⟨L4,b3⟩:=apl ((L3.set (nb y.id) (.cells [dnA Z,.sl (aG (NK Z).reverse) Z.length none,atR y.av,.int .i64 (F y.id)])).set mi (.map ((a3++[(bp true Z,y.id,O)]).map kyA) (O+1))++[.cells [.sl (aG (NK Z).reverse) Z.length none]]);obtain⟨c7,al⟩:=s.ren c5 cp cw [.cells [.sl (aG (NK Z).reverse) Z.length none]];rw[b3,<- an,ajA r.o dn tn p Y,an]at al;have t:bY L4 iv mn mi nb bn ck (O+1) (a3++[(bp true Z,y.id,O)]) suf last (ZL l dn tn ((d.take (j+1)).map (·.id))) (SU l dn++(d.take (j+1)).map A) F:=by rw[bo,ap1,ap1,<- apG];rw[show[y].map A=[{y with nm:=Z}]by rw[g.o,<- an];rfl];exact al
 have bs:aZ (OfT iv mn mi nb l) L3 L4:=by rw[<- b3];exact((aZ.set L3 (B:=OfT iv mn mi nb l) (.inr (.inr (.inr ⟨y,p,rfl⟩))) _).trans (aZ.set _ (.inr (.inr (.inl rfl))) _)).trans (aZ.app _ _)
 have bl:=hid (apR c6.o bs.len);have a7:=bs.get R co;have bt:=bs.get hb bx;have C:=hB.o.trans bs;rcases s.node y.id with⟨f1,_⟩|⟨y',n,f1,f4,f5,f2,f3,_⟩;exact absurd (aq2.1 f1 y cp) asQ;have b':y'=y:=by obtain⟨w,U,e⟩:=apz.1 f4;have ep:w.id=y.id:=(by rw[<- f5,<- e];split<;>rfl);have:=r.o.byI U p ep;subst this;rw[if_neg Y]at e;exact e.symm
 rw[b']at f3;unfold dJ at f3;have c9:dn.length<=y.nm.length:=by have:=(cD.1 a4).2.2.length_le;rwa[bD,bD]at this
 have d':=(r.o.ok y p).len;have kk5:Hid (∀{K:apr},K (.tup []) L4->apq 79 [.ptr it 0,.int .i64 y.id,dnA Z] L3 K):=@hid _ (by intro K q;refine aiI bi R I a9 f2 f3 b0 c7 ?_;rw[b3];exact q)
 obtain⟨q,hq⟩:=apl (y.nm.length-dn.length);have w1:IntKind.i64.wrap ((y.nm.length:Int)-(dn.length:Int))=(q:Int):=by rw[ae asP asP];omega
 have w2:(q:Int)<=(y.nm.length:Int):=asP;have ca:bT .int (.int .i64 y.id)=true:=rfl;have d0:y.nm.take q++tn=Z:=by rw[<- an,<- hq];rfl
 have kk6:Hid (∀{c:Option Nat}{L:List Blk}{K:apr},K (dnA Z) L->apq 59 [dnA tn,.sl (List.take q (y.nm.map aq)) q c] L K):=@hid _ (by intro c L K u;rw[<- asb];exact agE d0 (by rw[aqK];omega) rfl bi.m.b.1 bi.m.b.2 u)
 obtain⟨yi,a6⟩:=apl (y.id);obtain⟨yn,H⟩:=apl (y.nm);obtain⟨ya,a_⟩:=apl (atR y.av);obtain⟨yp,a2⟩:=apl (aG (pth y));rw[a6]at e1 f2 f3 kk5 ca;rw[H]at f3 kk6 w1 w2;rw[a_,a2]at f3;have et:=hid cd;replace t:=hid t;replace C:=hid C;replace a7:=hid a7;replace bt:=hid bt;clear s al hI hB bs b3 cw bi hZ dg D cp Y p a4 a0 bo Q hy f1 f4 f5 b' c9 d' hq d0 an a6 H a_ a2 c7;refine wk ?_;exact asU asP (CutL (b:=bl.o)) ⟨j+1,rfl,P,bl,hid ⟨_,_,t.o⟩,hid C.o,bt.o,a7.o,rfl⟩;have c0:j=d.length:=asP;subst c0;have g1:¬(d.length:Int)<(d.length:Int):=asP;rw[apJ]at s;have c_:ZL l dn tn (d.map (·.id))=nu l dn tn:=alQ dn tn λz f=>by constructor;intro hm;obtain⟨w,U,e⟩:=apz.1 hm;obtain⟨J,T⟩:=(k.o w).1 U;rw[<- r.o.byI J f e];exact T;intro a1;exact apz.2 ⟨z,(k.o z).2 ⟨f,a1⟩,rfl⟩
 rw[c_]at s;have c8:=s.lkE (lk':=nu l dn tn) λz=>by rw[apy];constructor;rintro(f|f);obtain⟨J,T⟩:=nM.1 f;exact apz.2 ⟨z,J,by rw[if_neg (by rw[T];decide)]⟩;obtain⟨w,U,rfl⟩:=apz.1 f;obtain⟨J,T⟩:=(k.o w).1 U;exact apz.2 ⟨w,J,by rw[if_pos T,g.o]⟩;intro f;obtain⟨w,U,_,e⟩:=Zi f;by_cases a1:cC w.nm dn=true;rw[if_pos a1]at e;exact .inr (apz.2 ⟨w,(k.o w).2 ⟨U,a1⟩,by rw[e,g.o]⟩);rw[if_neg a1]at e;rw[e];exact .inl (nM.2 ⟨U,by simpa using a1⟩)
 have D:=(r.o.mov ap.o).1;obtain⟨a',bb⟩:∃a':Int->Int,a'=λi=>if i=bC (nu l dn tn) tn.tail then F i+1 else F i:=⟨_,rfl⟩
 have b4:∀i,OfT iv mn mi nb (nu l dn tn) i->OfT iv mn mi nb l i:=λi R=>by rcases R with e|e|e|⟨z,f,e⟩;exact .inl e;exact .inr (.inl e);exact .inr (.inr (.inl e));obtain⟨w,U,e2,_⟩:=Zi f;exact .inr (.inr (.inr ⟨w,U,by rw[e,e2]⟩))
 obtain⟨x2,cs⟩:∃x2,x2={x with nm:=iB x.nm dn.length tn}:=⟨_,rfl⟩;have d3:cC x.nm dn=true:=cD.2 ⟨r.o.ok x ai,cn,by rw[ec];exact arB _⟩;have ad:x2∈nu l dn tn:=apz.2 ⟨x,ai,by rw[if_pos d3,cs]⟩;have N:x2.id=xi:=by rw[cs];exact ar
 have kk4:Hid (∀{K:apr},(∀L4,Hid (bY L4 iv mn mi nb bn ck O a3 suf last (nu l dn tn) (nu l dn tn) a')->Hid (aZ (OfT iv mn mi nb l) L L4)->L4[it]?=some (.cells [.ptr iv 0])->L4[L.length]?=some (.cells [.int .i64 4,dnA dn,dnA tn,.sl (aJ v) v.length none])->K (.tup []) L4)->apq 80 [.ptr it 0,dnA tn,.int .i64 1] L3 K):=@hid _ (by
  intro K q;refine OL c3 ap.o.tne D (λz f=>⟨z,f,rfl⟩) (λz f=>(D.ids z f).1) R c8 asP eq λL4 S C=>?_
  refine q L4 (hid (by rw[bb];exact S)) (hid (hB.o.trans2 C λi _=>b4 i)) (C.get R λe=>co (b4 _ e)) (C.get hb λe=>bx (b4 _ e)))
 have d4:=hid bb;clear bb s c8 hI hB;refine wk ?_;intro L4 S C a7 bt;clear kk4 I a9 b0 hb R cd;have I:=S.o.v;have a9:=S.o.n;have kk5:Hid (Ctr Tryz.prog 60 [.sl (aJ v) v.length none] (.sl (aJ v) v.length none)):=@hid _ (by intro L K q;exact YP er en q);rcases S.o.node xi with⟨f1,_⟩|⟨y',n,f1,f4,f5,f2,f3,_⟩;exact absurd (aq2.1 f1 x2 ad) (by simp[N]);have b':y'=x2:=D.byI f4 ad (by rw[f5,N]);subst b';unfold dJ at f3;rw[N]at f3;have ca:bT .int (.int .i64 xi)=true:=rfl;have b_:=S.o.cha ad v;rw[N]at b_;have cb:=h.o (L4.set (nb xi) (.cells [dnA y'.nm,.sl (aG (pth y')) y'.nm.length none,atR v,.int .i64 (a' xi)])) O a3 (by
  rw[<- ar]at b_⊢;refine b_.toT λz f=>?_
  obtain⟨w,U,rfl⟩:=apz.1 f;obtain⟨u,cm,e2,e3⟩:=Zi U;have J:=r.o.movK ap.o cm;rw[ZI];have e4:(if w.id=x.id then{w with av:=v}else w).id=w.id:=(by split<;>rfl);have e5:(if w.id=x.id then{w with av:=v}else w).nm=w.nm:=(by split<;>rfl);rw[e4,e5,d4.o,es.o];dsimp only;rw[<- e3]at J;rw[<- e2];exact J.symm) (by rw[apM (λe=>co (.inr (.inr (.inr ⟨x,ai,by rw[ar];exact e.symm⟩))))];exact a7) (C.o.trans (aZ.set _ (.inr (.inr (.inr ⟨x,ai,by rw[ar]⟩))) _))
 replace h:=hid cb;unfold atR at h;obtain⟨ya,a_⟩:=apl (atR y'.av);obtain⟨yp,a2⟩:=apl (aG (pth y'));obtain⟨yn,H⟩:=apl (y'.nm);obtain⟨kq,cB⟩:=apl (a' xi);rw[a_,a2,H,cB]at f3;rw[a2,H,cB]at h;clear cb b_ a2 a_ H cB f1 f4 f5 S C D b4 ad N d3 cs c_ ar;refine wk ?_;exact aa h.o
end
set_option maxHeartbeats 8000000
set_option maxRecDepth 100000
section
variable {L:List Blk}{iv mn mi it:Nat}{nb bn:Int->Nat}{ck ci:Nat}{rs:List TKy}{suf:List Rdn}{last:Int}{l:List aC}
theorem aoz(g:TOk suf last l)(j:l.length<=1000000)(a:L[it]?=some (.cells [.ptr iv 0]))(f:b9 L iv mn mi nb bn ck ci rs suf last l){k:Int}{dn tn:List Rdn}{v:AV}(c:dnB dn)(d:dnB tn)(m:fY suf l k dn tn≠0){K:apr}(h:K (.int .i64 (fY suf l k dn tn)) L):
  apq 34 [.ptr it 0,.agg [.int .i64 k,dnA dn,dnA tn,v]] L K:=by
 have b:it<L.length:=(aps.1 a).1;have i:∀X:List Blk,(L++X)[it]?=some (.cells [.ptr iv 0]):=λX=>by rw[apx b];exact a
 obtain⟨z,e⟩:=apl (fY suf l k dn tn);have kk1:Hid (∀{X:List Blk}{K:apr},K (.int .i64 z) (L++X)->apq 78 [.ptr iv 0,.agg [.int .i64 k,dnA dn,dnA tn,v]] (L++X) K):=@hid _ (by intro X K q;exact Tt g asP (f.app X) c d (by rw[e];exact q))
 rw[e]at m h;replace h:=hid h;clear e f g a;refine apo fV ?_;exact ac rfl h.o
theorem aof(r:TOk suf last l)(o:mn≠mi)(d:l.length<=1000000)(y:0<=last)(t:last<=1000000)(c:L[it]?=some (.cells [.ptr iv 0]))(q:b9 L iv mn mi nb bn ck ci rs suf last l){k:Int}{dn tn:List Rdn}{v:List Atr}(f:dnB dn)(g:dnB tn)(j:v.length<=1100000)(i:∀a∈v,a.2.length<=1100000){K:apr}(h:∀L' u z w m p,b9 L' iv mn mi u z w m p suf (doT suf l last k dn tn v).2 (doT suf l last k dn tn v).1->L'[it]?=some (.cells [.ptr iv 0])->aZ (OfT iv mn mi nb l) L L'->K (.int .i64 (fY suf l k dn tn)) L'):
  apq 34 [.ptr it 0,.agg [.int .i64 k,dnA dn,dnA tn,atR v]] L K:=by
 by_cases n:fY suf l k dn tn=0;rotate_left;unfold doT at h;rw[if_pos n]at h;exact aoz r d c q f g n (h L _ _ _ _ _ q c (aZ.refl L));unfold doT at h;rw[if_neg (λe=>e n)]at h;rw[n]at h;by_cases s:k=1;subst s;rw[if_pos rfl]at h;exact aoG r o d y t c q f g j i n h;rw[if_neg s]at h;have b:=n;unfold fY at b;by_cases B:k<1\/4<k;rw[if_pos B]at b;exact absurd b (by decide);rw[if_neg B,if_neg s]at b;cases hx:atE l dn with
 |none=>rw[hx]at b;simp at b
 | some x =>
   rw[hx]at b;simp only at b;have E:bC l dn=x.id:=(by unfold bC;rw[hx]);rw[E]at h;by_cases A:k=2
   .subst A;rw[if_pos rfl]at h;exact aoE r o d c q f g hx n λL' m p=>h L' _ _ _ _ _
   rw[if_neg A]at h b;by_cases C:k=3
   .subst C;rw[if_pos rfl]at h;exact aoF r d c q f g j i hx λL'=>h L' _ _ _ _ _
   rw[if_neg C]at h b;have D:k=4:=asP;subst D;exact aoy r o d c q f g j i hx b λL' m p=>h L' _ _ _ _ _
end
set_option maxHeartbeats 8000000
set_option maxRecDepth 100000
theorem b9.start(L:List Blk)(d:List Rdn):b9 (L++[.map [] 0,.map [] 0,.cells [dnA d,.lmap L.length,.lmap (L.length+1),.int .i64 0],.cells [.ptr (L.length+2) 0]]) (L.length+2) L.length (L.length+1) (λ_=>0) (λ_=>0) 0 0 [] d 0 []:=by refine⟨?_,?_,?_,?_,?_,?_,?_,?_⟩;rw[apH asP];simp;rw[apH asP];simp;rw[apH asP];simp;simp;simp;simp;simp;simp
def adb(P:Program)(o:aw)(T:Tm)(L:List Blk)(v:AV)(M:List Blk->Prop):Prop :=
 match o.op with
 | .call f xs=>match je T xs with
   |some args=>af P f args L λav L'=>av=v/\M L'
   |none=>False
 |_=>False
def EQS(P:Program)(o:aw)(T:Tm)(L:List Blk)(v:AV)(M:List Blk->Prop):Prop :=
 match o.guard with
 |none=>adb P o T L v M
 | some (t,b)=>match ay T t with
   |some (.bool x)=>if x=b then adb P o T L v M else v=.tup []/\M L
   |some (.tup [])=>v=.tup []/\M L
   |_=>False
theorem adb.congr{P:Program}{o:aw}{T T':Tm}{L:List Blk}{v:AV}{M:List Blk->Prop}(b:∀t∈o.op.tmps,ay T t=ay T' t)(a:adb P o T L v M):adb P o T' L v M:=by unfold adb at a⊢;split at a;rename_i f xs e;rw[e]at b;rw[<- jJ (l:=xs) b];exact a;omega
theorem EQS.congr{P:Program}{o:aw}{T T':Tm}{L:List Blk}{v:AV}{M:List Blk->Prop}(h:∀t∈o.reads,ay T t=ay T' t)(a:EQS P o T L v M):EQS P o T' L v M:=by
 have c:∀t∈o.op.tmps,ay T t=ay T' t:=λt f=>h t (by simp[aw.reads,f])
 unfold EQS at a⊢;split at a;exact a.congr c;rename_i t b d;rw[<- h t (by simp[aw.reads,d])];split at a;split at a;rename_i e;rw[if_pos e];exact a.congr c;simp[*];omega;omega
theorem adb.aop{P:Program}{o:aw}{T:Tm}{L:List Blk}{v:AV}{M:List Blk->Prop}(a:adb P o T L v M):AOp P o (λT' L'=>T'=dj o.dst v T/\M L') T L:=by
 unfold adb at a;unfold AOp;split at a;rename_i f xs e;simp only[e];split at a;rename_i args b;rw[b];exact af.mono a λav L' ⟨d,c⟩=>⟨by rw[d],c⟩
 simp_all;simp_all
theorem EQS.aops{P:Program}{o:aw}{T:Tm}{L:List Blk}{v:AV}{M:List Blk->Prop}(a:EQS P o T L v M):nG P (λT' L'=>T'=dj o.dst v T/\M L') [o] T L:=by unfold EQS at a;simp only[nG];split at a;rename_i c;simp only[c];exact a.aop;rename_i t b c;simp only[c];split at a;rename_i x d;rw[d,ED];split at a;rename_i e;rw[if_pos e];exact a.aop;simp[*];rename_i d;rw[d,ac9];exact⟨by rw[a.1],a.2⟩;simp_all
section
variable {P:Program}{r:Option Nat}{w0:World}{S0:SB}{N:Nat}{own:Nat->Nat}{ops:Array Oper}{L:List Blk}
end
section
variable {P:Program}{w0:World}{S0:SB}{N:Nat}{own:Nat->Nat->Nat}{Q:Exit->Tm->List Blk->Prop}{T:Tm}{L:List Blk}
end
section
variable {P:Program}{K:Tm->List Blk->Prop}{T:Tm}{d:Option Nat}{op:LOp}{t:Nat}{b:Bool}{r:List (aw×Kd)}{M:List Blk->Prop}{Ms:List (List Blk->Prop)}{v:AV}{c:Prop}
end
set_option maxHeartbeats 8000000
set_option maxRecDepth 100000
def aaH(v:List Atr):Prop:=v.length<=1100000/\∀a∈v,a.2.length<=1100000
theorem anG{suf:List Rdn}{l:List aC}{last k:Int}{v:List Atr}(c:∀x∈l,aaH x.av)(f:aaH v):∀x∈(doT suf l last k dn tn v).1,aaH x.av:=by
 have b:∀(l:List aC) (i:Int),(∀x∈l,aaH x.av)->∀x∈rD l i v,aaH x.av:=λl i h x a=>by obtain⟨y,e,rfl⟩:=apz.1 a;split;exact f;exact h y e
 have d:∀x∈nu l dn tn,aaH x.av:=λx a=>by obtain⟨y,e,rfl⟩:=apz.1 a;split;exact c y e;exact c y e
 unfold doT;split;exact c;split;intro x a;rcases apy.1 a with a|a;exact c x a;rw[apT.1 a];exact f;split;intro x a;exact c x (ap8.1 a).1;split;exact b l _ c;exact b _ _ d
structure aeQ(L:List Blk)(it iv mn mi rt:Nat)(nb bn:Int->Nat)(ck ci:Nat)(rs:List TKy)(c:Option Nat)(suf:List Rdn)(last:Int)(l:List aC):Prop where
 ok:TOk suf last l
 code:b9 L iv mn mi nb bn ck ci rs suf last l
 it:L[it]?=some (.cells [.ptr iv 0])
 rt:L[rt]?=some (.cells [dnA suf,.sl (bE l) l.length c,.int .i64 last])
 ne:mn≠mi
 l0:0<=last
 l1:last<=100
 len:l.length<=100
 av:∀x∈l,aaH x.av
theorem b9.noOf{L:List Blk}{iv mn mi:Nat}{nb bn:Int->Nat}{ck ci:Nat}{rs:List TKy}{suf:List Rdn}{last:Int}{l:List aC}(h:b9 L iv mn mi nb bn ck ci rs suf last l){j:Nat}{c:List AV}(b:L[j]?=some (.cells c))(a:c.length≠4\/∃k z r,c=.int k z::r):¬OfT iv mn mi nb l j:=by rintro(e|e|e|⟨x,d,e⟩);rw[e,h.v]at b;simp only[apu,Blk.cells.injEq]at b;rcases a with a|⟨k,z,r,a⟩;exact a (by rw[<- b];rfl);rw[<- b]at a;simp[dnA]at a;rw[e,h.n]at b;simp at b;rw[e,h.i]at b;simp at b;rw[e,h.nd x d]at b;simp only[apu,Blk.cells.injEq]at b;rcases a with a|⟨k,z,r,a⟩;exact a (by rw[<- b];rfl);rw[<- b]at a;simp[nC,dnA]at a
theorem b9.keep{L:List Blk}{iv mn mi:Nat}{nb bn:Int->Nat}{ck ci:Nat}{rs:List TKy}{suf:List Rdn}{last:Int}{l:List aC}(h:b9 L iv mn mi nb bn ck ci rs suf last l){c:List AV}(j:L[rt]?=some (.cells c))(k:c.length=3)(d:aZ (λi=>i=rt) L L'):b9 L' iv mn mi nb bn ck ci rs suf last l:=by
 have no:¬OfT iv mn mi nb l rt:=h.noOf j (.inl asP);have key:∀{i:Nat}{b:Blk},OfT iv mn mi nb l i->L[i]?=some b->L'[i]?=some b:=λ{i b} f e=>d.get e λg=>no (by rw[<- g];exact f)
 exact⟨key (.inl rfl) h.v,key (.inr (.inl rfl)) h.n,key (.inr (.inr (.inl rfl))) h.i,λx a=>key (.inr (.inr (.inr ⟨x,a,rfl⟩))) (h.nd x a),h.keys,h.mem,h.bnd,h.blt⟩
def tM(L L':List Blk):Prop:=L.length<=L'.length/\∀(j:Nat) (c:List AV),L[j]?=some (Blk.cells c)->c.length=2->L'[j]?=some (Blk.cells c)
theorem tM.refl(L:List Blk):tM L L:=⟨apt _,λ_ _ h _=>h⟩
theorem tM.app{L:List Blk}(h:tM L L')(X:List Blk):tM L (L'++X):=⟨by have:=h.1;simp;omega,λj c b a=>by have:=h.2 j c b a;rw[apx (aps.1 this).1];exact this⟩
theorem tM.trans{B C:List Blk}(h:tM A B)(g:tM B C):tM A C:=⟨apR h.1 g.1,λj c b a=>g.2 j c (h.2 j c b a) a⟩
theorem tM.tree{L:List Blk}{iv mn mi:Nat}{nb bn:Int->Nat}{ck ci:Nat}{rs:List TKy}{suf:List Rdn}{last:Int}{l:List aC}(h:tM A L)(d:b9 L iv mn mi nb bn ck ci rs suf last l)(b:aZ (OfT iv mn mi nb l) L L'):tM A L':=h.trans ⟨b.len,λj c a e=>b.get a (d.noOf a (.inl asP))⟩
theorem tM.row{L:List Blk}{c0:List AV}(h:tM A L)(d:L[rt]?=some (.cells c0))(f:c0.length=3)(b:aZ (λi=>i=rt) L L'):tM A L':=h.trans ⟨b.len,λj c a g=>b.get a λe=>by subst e;rw[d]at a;cases a;omega⟩
structure afZ(u:Upd):Prop where
 dn:OZ u.dn/\∀r∈u.dn,∀a∈r,(a.1.length:Int)<=140737488351232
 tw:OZ u.tw/\∀r∈u.tw,∀a∈r,(a.1.length:Int)<=140737488351232
 attrs:(u.attrs.length:Int)<=9223372036854775807
 names:∀a∈u.attrs,(a.1.length:Int)<=140737488351232/\(a.2.length:Int)<=9223372036854775807
theorem ads{d:List Rdn}(h:smD d=true)(c:∀r∈d,∀a∈r,(a.1.length:Int)<=140737488351232):dnM d:=by simp only[smD,apw,decide_eq_true_eq,apF]at h;refine⟨asP,λr b=>⟨?_,c r b⟩⟩;have:=h.2 r b;rcases r with _|⟨a,t⟩;simp;simp only[smR,aqE,apw,smA,decide_eq_true_eq]at this;have:=this.1.1;simp only[apC]at this⊢;omega
theorem aoi{u:Upd}(b:afZ u)(h:smU u=true):dnM u.dn/\dnM u.tw/\aaH u.attrs:=by simp only[smU,apw]at h;obtain⟨g,f,d⟩:=h;obtain⟨i,c⟩:=agI d;exact⟨ads g b.dn.2,ads f b.tw.2,asP,λa e=>by have:=(c a e).1;omega⟩
theorem ag2(us:List Upd):(us.flatMap rA).length=us.length*4:=by
 induction us with
 |nil=>rfl
 |cons u us ih=>rw[ap5,apB,ih,apC];simp only[apC,ap9];omega
theorem adn:∀{us:List Upd}{k:Nat},k<us.length->((us.flatMap rA).drop (k*4)).take 4=rA (us.getD k aju)
 |u::us,0,_=>by rw[ap5];rfl
 |u::us,k+1,h=>by have a:=adn (us:=us) (k:=k) (by simpa using h);rw[ap5,arG];show((us.flatMap rA).drop (k*4)).take 4=_;rw[a];rfl
def am4(v:Int×List Rdn):AV:=.tup [.int .i64 v.1,dnA v.2]
theorem aix{α:Type}{P:List Rdn->Bool}{l:List (Ent α)}{d:List Rdn}(h:¬OkD d):J7 P l d=(0,[]):=by
 obtain⟨i,f,a⟩:=Tq P d l [];have e:Za P d [] l=[]:=by rcases a with e|⟨y,g,b,_,e⟩;exact e;exact absurd (cD.1 b).1 h
 unfold J7;rw[e,if_neg];intro c;have:d=[]:=by simpa using c.symm
 subst this;exact h OkD.nil
theorem aiy{α:Type}{P:List Rdn->Bool}{l:List (Ent α)}{b:Bool}:wQ P l b []=(0,[]):=by cases b<;>rfl
theorem abj{P:List Rdn->Bool}{l:List aC}{d:List Rdn}{k:Nat}{R:Int×List Rdn}(b:∀x,atE l (d.drop k)=some x->P x.nm=true->False)(f:k<=d.length)(h:wQ P l (decide (k=0)) (d.drop k)=R):
  (k+1<=d.length->wQ P l (decide (k+1=0)) (d.drop (k+1))=R)/\(k+1=d.length+1->R=(0,[])):=by
 constructor;intro c;have e:d.drop k=d[k]::d.drop (k+1):=apY asP;rw[e]at b h;rw[wQ]at h;rw[show decide (k+1=0)=false from by simp,<- h];cases hf:atE l (d[k]::d.drop (k+1))with
 |none=>rfl
 | some x =>
   simp only;by_cases a:P x.nm=true
   .exact(b x hf a).elim
   .rw[if_neg a]
 intro c;rw[aro asP,aiy]at h;exact h.symm
theorem abl{P:List Rdn->Bool}{l:List aC}{d:List Rdn}{k:Nat}{R:Int×List Rdn}(e:aeN l)(a:atE l (d.drop k)=some x)(c:P x.nm=true)(h:wQ P l (decide (k=0)) (d.drop k)=R):
  R=if k=0 then(x.id,[])else(0,x.nm):=by
 cases hs:d.drop k with
 | nil =>
   rw[hs]at a;obtain⟨_,f,b⟩:=cQ a;exact absurd (Tl.1 (by rw[b];rfl)) (e.ne x f)
 | cons r s =>
   rw[hs]at a h;rw[wQ,a]at h;simp only[c,if_true,decide_eq_true_eq]at h;exact h.symm
theorem aoe{L:List Blk}{iv mn mi:Nat}{nb bn:Int->Nat}{ck ci:Nat}{rs:List TKy}{suf:List Rdn}{last:Int}{l:List aC}(z:TOk suf last l)(M:∀x∈l,x.av.length<=1100000/\∀a∈x.av,a.2.length<=1100000)(J:b9 L iv mn mi nb bn ck ci rs suf last l){P:List Rdn->Bool}(N:∀x∈l,Hid (∀{K:apr},K (.bool (P x.nm)) L->apq 26 [.ptr ib 0,wh,.sl (x.nm.map aq) x.nm.length none,.str [],.int .i64 1] L K)){d:List Rdn}{Q:Option Nat}(I:dnB d){K:apr}(h:K (am4 (J7 P l d)) L):
  apq 10 [.ptr iv 0,.ptr ib 0,wh,.sl (d.map aq) d.length Q] L K:=by
 have kk1:Hid (Ctr Tryz.prog 36 [.sl (d.map aq) d.length Q] (kG (prS d))):=@hid _ (λ{L K} q=>lM I.1 I.2 q);obtain⟨⟨p1,V⟩,B⟩:∃q,prS d=q:=⟨_,rfl⟩;have o1:OkD d↔V=0:=by unfold OkD;rw[B]
 rw[B]at kk1;simp only[kG]at kk1;by_cases T:V=0;have O:=o1.2 T;subst T;rw[<- ak3 z.nms O]at h;obtain⟨R,H⟩:=apl (wQ P l true d);rw[H]at h;replace h:=hid h;replace H:=hid H;replace M:=hid M;replace z:=hid z;replace J:=hid J;replace N:=hid N;have ad:=I.1;have ai:IntKind.i64.wrap ((d.length:Int)+1)=(d.length:Int)+1:=ae asP asP;clear B o1;refine apo wg ?_;refine aj (λm T' L'=>∃k:Nat,m=d.length+1-k/\k<=d.length+1/\Hid (k<=d.length->wQ P l (decide (k=0)) (d.drop k)=R)/\Hid (k=d.length+1->R=(0,[]))/\T'=[(26,.int .i64 (k:Int)),(25,.int .i64 ((d.length:Int)+1)),(0,.ptr iv 0),(1,.ptr ib 0),(2,wh),(3,.sl (d.map aq) d.length Q)]/\L=L') asT ⟨0,rfl,apv _,hid (λ_=>H.o),hid (λc=>asP),rfl,rfl⟩ ?_;clear H kk1;rintro _ _ _ ⟨k,rfl,hk,E,n,rfl,rfl⟩;by_cases an:k<d.length+1;have g1:(k:Int)<(d.length:Int)+1:=asP;have g2:=apn k asP;have g3:k<=d.length:=asP;have G:dnB (d.drop k):=⟨by simp;omega,λr hr=>I.2 r (List.mem_of_mem_drop hr)⟩;have w:=E.o g3;have g:=E.o g3;obtain⟨s,f⟩:=apl (d.drop k);have S:s.length=d.length-k:=by rw[<- f];simp
 have W:(d.map aq).drop k=s.map aq:=by rw[<- f,List.map_drop]
 rw[f]at G w;have kk1:Hid (∀{c:Option Nat}{K:apr},K (.int .i64 (bC l s)) L->apq 24 [.ptr iv 0,.sl (s.map aq) (d.length-k) c] L K):=@hid _ (λ{c K} q=>by rw[<- S];exact tQ G z.o J.o q);have al:List.take (d.length-k) (s.map aq)=s.map aq:=ap2 (by simp;omega);obtain⟨id,b⟩:=apl (bC l s);rw[b]at kk1;by_cases X:id=0;have j:=abj (P:=P) (λx C _=>by rw[f]at C;have:=z.o.ids x (cQ C).2.1;unfold bC at b;rw[C]at b;simp only at b;omega) g3 g;have F:=hid j.1;have D:=hid j.2;clear j;subst X;clear E n w g f b G;refine wk ?_;exact asU asP asS ⟨k+1,rfl,asP,F,D,rfl,rfl⟩;obtain⟨x,C,A,u⟩:∃x,x∈l/\x.id=id/\atE l s=some x:=by
  unfold bC at b;cases hf:atE l s with
  |none=>rw[hf]at b;exact absurd b.symm X
  |some x=>rw[hf]at b;exact⟨x,(cQ hf).2.1,b,rfl⟩
 have kk2:Hid (∀{K:apr},K (.tup [dnA x.nm,atR x.av]) L->apq 25 [.ptr iv 0,.int .i64 id] L K):=@hid _ (λ{K} q=>adk z.o M.o J.o (λe=>by rw[<- A,z.o.ent C]at e;cases e) (λy e=>by rw[<- A,z.o.ent C]at e;cases e;exact q));have kk3:=@Hid.o _ N x C;obtain⟨Y,i⟩:=apl (P x.nm);rw[i]at kk3;have v:atE l (d.drop k)=some x:=by rw[f];exact u
 obtain⟨xi,xn,xv⟩:=x;simp only at kk2 kk3 A;cases Y with
 | false =>
   have j:=abj (P:=P) (λy U Z=>by rw[f,u]at U;cases U;have:=i.symm.trans Z;cases this) g3 g;have F:=hid j.1;have D:=hid j.2;clear j;clear E n w g f b G u v i;refine wk ?_;exact asU asP asS ⟨k+1,rfl,asP,F,D,rfl,rfl⟩
 | true =>
   by_cases p:k=0
   .have t:=hid (show R=(id,[])by have:=abl z.o.nms v i g;rw[if_pos p]at this;rw[this,<- A]);have g5:decide ((k:Int)=0)=true:=(by simp[p]);clear E n w g f b G u v i p;refine wk ?_;refine aY ?_;exact aa (by have:=h.o;rw[t.o]at this;exact this)
   .have t:=hid (show R=(0,xn)by have:=abl z.o.nms v i g;rw[if_neg p]at this;exact this);have g5:decide ((k:Int)=0)=false:=(by simp[p]);clear E n w g f b G u v i p;refine wk ?_;exact aa (by have:=h.o;rw[t.o]at this;exact this)
 have g1:¬(k:Int)<(d.length:Int)+1:=asP;have t:=hid (n.o asP);clear E n;refine wk ?_;refine aY ?_;exact aa (by have:=h.o;rw[t.o]at this;exact this);rw[aix (λc=>T (o1.1 c))]at h;replace h:=hid h;clear B o1;refine apo wg ?_;refine aY ?_;exact aa h.o
variable {L:List Blk}{K:apr}
def eJ:List Rdn:=[[([100,99],[122])]]
theorem adq:OkD eJ:=by unfold OkD eJ;kernel_rfl
theorem agk(h:K (dnA eJ) L):apq 31 [] L K:=by replace h:=hid h;refine apo Wm ?_;exact aY (aa h.o)
theorem aiX{d:List Rdn}(b:OZ d){L:List Blk}{c0 a c2:Option Nat}{K:apr}(h:K (.bool (smU ⟨0,d,[],[]⟩)) L):
  apq 8 [.agg [.int .i64 0,.sl (d.map aq) d.length c0,.sl [] 0 a,.sl [] 0 c2]] L K:=by
 refine iL ?_;have:=Zd (u:=⟨0,d,[],[]⟩) b ⟨asQ,asQ⟩ asQ asQ h;have e:AV.frzL [.agg [.int .i64 0,.sl (d.map aq) d.length c0,.sl [] 0 a,.sl [] 0 c2]]=[AV.agg (rA ⟨0,d,[],[]⟩)]:=by simp only[AV.frzL,AV.frz,bB,rA,dnA];rfl
 rw[e];exact this
def Kp(L:List Blk)(i ib:Nat)(w m s b:List AV):Prop:=(L[i]?=some (.cells w)/\w.length=3)/\(L[i+1]?=some (.cells m)/\m.length=5)/\(L[i+2]?=some (.cells s)/\s.length=2)/\(L[ib]?=some (.cells b)/\b.length=2)
theorem Kp.app{L:List Blk}{b:List AV}(h:Kp L i ib w m s b)(X:List Blk):Kp (L++X) i ib w m s b:=by
 obtain⟨⟨g,k⟩,⟨f,z2⟩,⟨d,z3⟩,h4,z4⟩:=h;have a:∀{j:Nat}{c:List AV},L[j]?=some (Blk.cells c)->(L++X)[j]?=some (Blk.cells c):=λe=>apm e
 exact⟨⟨a g,k⟩,⟨a f,z2⟩,⟨a d,z3⟩,a h4,z4⟩
theorem Kp.tree{L:List Blk}{b:List AV}(h:Kp L i ib w m s b){iv mn mi:Nat}{nb bn:Int->Nat}{ck ci:Nat}{rs:List TKy}{suf:List Rdn}{last:Int}{l:List aC}(f:b9 L iv mn mi nb bn ck ci rs suf last l)(n:aZ (OfT iv mn mi nb l) L L'):Kp L' i ib w m s b:=by
 obtain⟨⟨k,g⟩,⟨o,z2⟩,⟨d,z3⟩,h4,z4⟩:=h;have a:∀{j:Nat}{c:List AV},L[j]?=some (Blk.cells c)->c.length≠4->L'[j]?=some (Blk.cells c):=λe z=>n.get e (f.noOf e (.inl z))
 exact⟨⟨a k asP,g⟩,⟨a o asP,z2⟩,⟨a d asP,z3⟩,a h4 asP,z4⟩
theorem Kp.row{L:List Blk}{b:List AV}(h:Kp L i ib w m s b){c:List AV}(p:L[rt]?=some (.cells c))(o:c.length=3)(k:i≠rt)(n:aZ (λj=>j=rt) L L'):Kp L' i ib w m s b:=by
 obtain⟨⟨l,r⟩,⟨g,z2⟩,⟨f,z3⟩,h4,z4⟩:=h;have a:∀{j:Nat}{c:List AV},L[j]?=some (Blk.cells c)->j≠rt->L'[j]?=some (Blk.cells c):=λe z=>n.get e z
 have ne:∀{j:Nat}{d:List AV},L[j]?=some (Blk.cells d)->d.length≠3->j≠rt:=λ{j d} e z q=>by subst q;rw[p]at e;cases e;exact z o
 exact⟨⟨a l k,r⟩,⟨a g (ne g asP),z2⟩,⟨a f (ne f asP),z3⟩,a h4 (ne h4 asP),z4⟩
def aeD(S:List Rdn)(s:List aC×Int)(u:Upd):List aC×Int:=if(wl aX [] u.attrs).2≠0 then s else doT S s.1 s.2 u.kind u.dn u.tw (wl aX [] u.attrs).1
def Fs(S:List Rdn)(us:List Upd):List aC×Int:=us.foldl (aeD S) ([],0)
def nj(L L':List Blk):Prop:=L.length<=L'.length/\∀(j:Nat) (c:List AV),L[j]?=some (Blk.cells c)->c.length=12->L'[j]?=some (Blk.cells c)
theorem nj.refl(L:List Blk):nj L L:=⟨apt _,λ_ _ h _=>h⟩
theorem nj.app{L:List Blk}(h:nj L L')(X:List Blk):nj L (L'++X):=⟨by have:=h.1;simp;omega,λj c b a=>by have:=h.2 j c b a;rw[apx (aps.1 this).1];exact this⟩
theorem nj.trans{B C:List Blk}(h:nj A B)(g:nj B C):nj A C:=⟨apR h.1 g.1,λj c b a=>g.2 j c (h.2 j c b a) a⟩
def af4(us:List Upd)(adm:List Rdn)(rs:List Rul):Prop:=us.length<=30/\rs.length<=20/\smU ⟨0,adm,[],[]⟩=true/\OkD adm/\Tj aX rs=0/\∀u∈us,smU u=true
theorem agL{us:List Upd}{cu:Option Nat}{adm:List Rdn}{ca:Option Nat}{rs:List Rul}{M:Option Nat}(hu:∀u∈us,afZ u)(dk:(us.length:Int)<=9223372036854775807)(ds:(rs.length:Int)<=9223372036854775807)(a7:∀r∈rs,bS r.at_)(J:OZ adm/\∀r∈adm,∀a∈r,(a.1.length:Int)<=140737488351232){L:List Blk}{K:apr}(h0:¬af4 us adm rs->∀L',K (.tup [.agg [.nilptr,.nilptr,.nilptr,.sl [] 0 (some 0),.sl [] 0 (some 0)],.bool false]) L')(h1:∀L' it iv mn mi rt nb bn ck ci s c last l ib cb,aeQ L' it iv mn mi rt nb bn ck ci s c eJ last l->L'[ib]?=some (.cells [dnA adm,.sl (kr rs) rs.length cb])->dnM adm->(∀r∈rs,bkE aX r=0)->rs.length<=20->(l,last)=Fs eJ us->us.length<=30->nj L L' ->
   K (.tup [.agg [.ptr it 0,.ptr ib 0,.ptr rt 0,.sl (adm.map aq) adm.length ca,.sl (ii rs) rs.length M],.bool true]) L'):
  apq 7 [.agg [.sl (us.flatMap rA) us.length cu,.sl (adm.map aq) adm.length ca,.sl (ii rs) rs.length M]] L K:=by
 obtain⟨sm,Q⟩:=apl (smU ⟨0,adm,[],[]⟩);have kk1:Hid (Ctr Tryz.prog 31 [] (dnA eJ)):=@hid _ (λ{L K} q=>agk q);obtain⟨TS,P⟩:=apl (cV aX);obtain⟨tl,O⟩:=apl (aX.length);obtain⟨CS,R⟩:=apl (abY);have kk2:Hid (Ctr Tryz.prog 15 [] (.agg [.sl TS tl none,.sl CS 9 none])):=@hid _ (λ{L K} q=>afT (by rw[P,R,O];exact q));have kk3:Hid (∀{L:List Blk}{c1 c2:Option Nat}{K:apr},K (.bool sm) L->apq 8 [.agg [.int .i64 0,.sl (adm.map aq) adm.length ca,.sl [] 0 c1,.sl [] 0 c2]] L K):=@hid _ (λ{L c1 c2 K} q=>aiX J.1 (by rw[Q];exact q));have kA:Hid (us.length<=us.length->dnB adm->rs.length<=20->∀{L:List Blk}{K:apr},(∀e,e≠0->(¬OkD adm\/Tj aX rs≠0)->K (.tup [.nilptr,.int .i64 e]) L)->(OkD adm->Tj aX rs=0->∀ib X c,(L++X)[ib]?=some (.cells [dnA adm,.sl (kr rs) rs.length c])->K (.tup [.ptr ib 0,.int .i64 0]) (L++X))->apq 33 [.agg [.sl TS tl none,.sl CS 9 none],.sl (adm.map aq) adm.length ca,.sl (ii rs) rs.length M] L K):=@hid _ (λ_ hd hn {L K} q0 q1=>by rw[<- P,<- R,<- O];exact anQ ⟨rC.1,rC.2.1⟩ hd asP a7 q0 q1);have kM:Hid (∀(l:List Atr) (cap:Option Nat),l.length<=100->(∀a∈l,bS a.1/\a.2.length<=9000)->∀{L:List Blk}{K:apr},K (.tup [.sl (aJ (wl aX [] l).1) (wl aX [] l).1.length none,.int .i64 (wl aX [] l).2]) L->apq 14 [.agg [.sl TS tl none,.sl CS 9 none],.sl (aJ l) l.length cap] L K):=@hid _ (λl cap hl hv {L K} q=>by rw[<- P,<- R,<- O];exact aly rC hl hv rfl q);obtain⟨d,hS⟩:=apl (eJ);have ho:OkD d:=by rw[<- hS];exact adq
 have N:d≠[]:=by rw[<- hS];decide
 have ap:dnM d:=ho.m;rw[hS]at h1 kk1;have c3:=ag2 us;have a0:=hid (λk (q:k<us.length)=>adn q);obtain⟨US,cf⟩:=apl (us.flatMap rA);rw[cf]at c3 a0⊢;replace h0:=hid h0;replace h1:=hid h1;replace a7:=hid a7;replace hu:=hid hu;replace Q:=hid Q;replace J:=hid J;replace P:=hid P;replace R:=hid R;replace O:=hid O;replace hS:=hid hS;replace N:=hid N;replace ho:=hid ho;replace ap:=hid ap;clear cf;refine apo Fn ?_;refine ak9 ap.o.b (λe=>absurd ho.o e) (λe=>absurd e N.o) λ_ _=>?_
 refine asX ?_;refine ang ap.o (λe=>absurd ho.o e) (λe=>absurd e N.o) λ_ _=>?_
 refine sk ?_;by_cases hc:us.length<=30/\rs.length<=20/\sm=true;rotate_left;have q1:(decide ((30:Int)<(us.length:Int)\/(20:Int)<(rs.length:Int)) || !sm)=true:=by rcases sm with _|_;simp;simp only[arg,arv,decide_eq_true_eq];simp only[and_true,not_and]at hc;omega
 replace hc:=hid hc;refine wk ?_;exact aa (h0.o (λg=>hc.o ⟨g.1,g.2.1,by rw[<- Q.o];exact g.2.2.1⟩) _);obtain⟨c1,c2,rfl⟩:=hc;have q1:decide ((30:Int)<(us.length:Int)\/(20:Int)<(rs.length:Int))=false:=decide_eq_false asP;refine wk ?_;have F:dnM adm:=by have:=Q.o;simp only[smU,apw]at this;exact ads this.1 J.o.2
 replace F:=hid F;clear kk3 q1;refine kA.o (apt _) F.o.b c2 (λe he a'=>?_) (λcB hz ib X c b'=>?_);replace a':=hid a';refine asX ?_;exact aa (h0.o (λg=>a'.o.elim (λq=>q g.2.2.2.1) λq=>q g.2.2.2.2.1) _);refine asX ?_;have cx:=hid (ab9.1 hz);obtain⟨L2,w⟩:=apl (L++Blk.cells [AV.sl US us.length cu,AV.sl (adm.map aq) adm.length ca,AV.sl (ii rs) rs.length M]::Blk.cells [AV.nilptr,AV.nilptr,AV.nilptr,AV.sl [] 0 (some 0),AV.sl [] 0 (some 0)]::Blk.cells [AV.sl TS tl none,AV.sl CS 9 none]::Blk.map [] 0::Blk.map [] 0::Blk.cells [dnA d,AV.lmap (L.length+3),AV.lmap (L.length+3+1),AV.int IntKind.i64 0]::Blk.cells [AV.ptr (L.length+3+2) 0]::Blk.cells [dnA d,AV.sl [] 0 (some 0),AV.int IntKind.i64 0]::X);have bo:Hid (Kp L2 L.length ib [AV.sl US us.length cu,AV.sl (adm.map aq) adm.length ca,AV.sl (ii rs) rs.length M] [AV.nilptr,AV.nilptr,AV.nilptr,AV.sl [] 0 (some 0),AV.sl [] 0 (some 0)] [AV.sl TS tl none,AV.sl CS 9 none] [dnA adm,.sl (kr rs) rs.length c]):=hid ⟨⟨by rw[<- w];simp,rfl⟩,⟨by rw[<- w];simp,rfl⟩,⟨by rw[<- w];simp,rfl⟩,by rw[<- b',<- w];simp,rfl⟩;have bk:Hid (∃nb bn ck ci s c last l,aeQ L2 (L.length+3+3) (L.length+3+2) (L.length+3) (L.length+3+1) (L.length+7) nb bn ck ci s c d last l/\last<=(0:Nat)/\l.length<=0/\(l,last)=Fs d (us.take 0)):=hid (by have cp:=b9.start (L++[Blk.cells [AV.sl US us.length cu,AV.sl (adm.map aq) adm.length ca,AV.sl (ii rs) rs.length M],Blk.cells [AV.nilptr,AV.nilptr,AV.nilptr,AV.sl [] 0 (some 0),AV.sl [] 0 (some 0)],Blk.cells [AV.sl TS tl none,AV.sl CS 9 none]]) d;have a1:=cp.app ([Blk.cells [dnA d,AV.sl [] 0 (some 0),AV.int IntKind.i64 0]]++X);simp only[apB,apC,ap9,apG,aqa,apZ,aqA,Nat.reduceAdd]at a1;refine⟨λ_=>0,λ_=>0,0,0,[],some 0,0,[],⟨TOk.nil ho.o N.o,?_,?_,?_,asP,asc _,by decide,asQ,asQ⟩,asc _,apt _,rfl⟩;rw[<- w];exact a1;rw[<- w,apH asP,show L.length+3+3-L.length=6 by omega];rfl;rw[<- w,apH asP,show L.length+7-L.length=7 by omega];rfl)
 have a_:L.length+8<=L2.length:=by rw[<- w];simp
 have cw:Hid (nj L L2):=hid (by rw[<- w];exact(nj.refl L).app _);replace a_:=hid a_;rw[w];clear w b' kk1 kk2 hz kA cB;refine aj (λm T' L'=>∃j:Nat,m=us.length-j/\j<=us.length/\Hid (nj L2 L')/\Hid (∃nb bn ck ci s c last l,aeQ L' (L.length+3+3) (L.length+3+2) (L.length+3) (L.length+3+1) (L.length+7) nb bn ck ci s c d last l/\last<=(j:Int)/\l.length<=j/\(l,last)=Fs d (us.take j))/\Hid (Kp L' L.length ib [AV.sl US us.length cu,AV.sl (adm.map aq) adm.length ca,AV.sl (ii rs) rs.length M] [AV.nilptr,AV.nilptr,AV.nilptr,AV.sl [] 0 (some 0),AV.sl [] 0 (some 0)] [AV.sl TS tl none,AV.sl CS 9 none] [dnA adm,.sl (kr rs) rs.length c])/\T'=[(70,.int .i64 (j:Int)),(69,.int .i64 us.length),(68,.sl US us.length cu),(9,.ptr ib 0),(7,.ptr (L.length+7) 0),(5,.ptr (L.length+3+3) 0),(4,.ptr (L.length+2) 0),(3,.bool false),(2,.ptr (L.length+1) 0),(1,.ptr L.length 0)]) (CutS (b:=apt _)) ⟨0,rfl,apv _,hid (nj.refl _),bk,bo,rfl⟩ ?_;clear bk bo;rintro _ _ L' ⟨j,rfl,hj,an,hM,hK,rfl⟩;obtain⟨⟨k1,_⟩,⟨k2,_⟩,⟨k3,_⟩,k4,_⟩:=hK.o;by_cases G:j<us.length
 .have j3:(j:Int)<(us.length:Int):=asP;have j4:=apn j asP;have e4:j*4+4<=US.length:=asP;have e5:=a0.o j G;have hq:=hu.o (us.getD j aju) (by simp[G]);obtain⟨u,al⟩:=apl (us.getD j aju);rw[al]at e5 hq;have D:Fs d (us.take (j+1))=aeD d (Fs d (us.take j)) u:=by have c0:us.take (j+1)=us.take j++[u]:=(by rw[apK G,<- al];simp[G]);rw[c0,Fs,arP];rfl
  obtain⟨sm,z⟩:=apl (smU u);have kk1:Hid (Ctr Tryz.prog 8 [.agg (rA u)] (.bool sm)):=@hid _ (by intro L K q;exact Zd hq.dn.1 hq.tw.1 hq.attrs (λa J=>(hq.names a J).2) (by rw[z];exact q));obtain⟨Lb,C⟩:=apl (L'++[Blk.cells (rA u)]);have bb:Hid (Kp Lb L.length ib _ _ _ _):=hid (by rw[<- C];exact hK.o.app _);obtain⟨⟨b1,_⟩,⟨b2,_⟩,⟨b3,_⟩,b4,_⟩:=bb.o;have ad:Lb[L'.length]?=some (.cells (rA u)):=(by rw[<- C];simp);have c8:=an.o.1;have dg:=a_.o;have c_:Lb.length=L'.length+1:=(by rw[<- C];simp);have ct:Hid (sm=false->¬af4 us adm rs):=hid (λe g=>by have:=g.2.2.2.2.2 u (by rw[<- al];simp[G]);rw[z,e]at this;cases this);obtain⟨uk,ud,ut,ua⟩:=u;simp only[rA]at e5 kk1 C ad;clear al k1 k2 k3 k4;cases sm with
  | false =>
    have b0:∀b,(Lb.set (L.length+1) b)[L.length+1]?=some b:=λb=>by rw[arF asP]
    clear hM z hq b4 D;refine wk ?_;exact aa (h0.o (ct.o rfl) _)
  | true =>
    obtain⟨ce,bs,cy⟩:=aoi hq z;obtain⟨f1,f2⟩:=agI (show afR ua=true by have:=z;simp only[smU,apw]at this;exact this.2.2);have kk2:Hid (∀{cap:Option Nat}{L:List Blk}{K:apr},K (.tup [.sl (aJ (wl aX [] ua).1) (wl aX [] ua).1.length none,.int .i64 (wl aX [] ua).2]) L->apq 14 [.agg [.sl TS tl none,.sl CS 9 none],.sl (aJ ua) ua.length cap] L K):=@hid _ (λ{cap L K} q=>kM.o ua cap asP (λa J=>⟨(hq.names a J).1,by have:=(f2 a J).1;omega⟩) q);have U:=ajE (ts:=aX) (B:=60) (l:=ua) (out:=[]) (i:=0) asQ asQ (λa J=>(f2 a J).1);obtain⟨⟨H,code⟩,ar⟩:∃p,wl aX [] ua=p:=⟨_,rfl⟩;rw[ar]at kk2 U;have a6:=hid (λe:code≠0=>(show Fs d (us.take (j+1))=Fs d (us.take j)by rw[D,aeD,ar,if_pos e]));have a5:=hid (λe:code=0=>(show Fs d (us.take (j+1))=doT d (Fs d (us.take j)).1 (Fs d (us.take j)).2 uk ud ut H by rw[D,aeD,ar,if_neg (by simpa using e)]));simp only at U;have t:aaH H:=⟨by have:=U.1;omega,λa J=>by have:=U.2 a J;omega⟩;replace t:=hid t;simp only at kk2;clear ar U f1 f2 z hq cy D;by_cases Z:code=0;rotate_left
    .have hK2:=bb;have b_:Hid (nj L2 Lb):=hid (by rw[<- C];exact an.o.app _);have ch:Hid (∃nb bn ck ci s c last l,aeQ Lb (L.length+3+3) (L.length+3+2) (L.length+3) (L.length+3+1) (L.length+7) nb bn ck ci s c d last l/\last<=((j+1:Nat):Int)/\l.length<=j+1/\(l,last)=Fs d (us.take (j+1))):=hid (by obtain⟨nb,bn,ck,ci,s,c,last,l,f,h1,h2,h3⟩:=hM.o;refine⟨nb,bn,ck,ci,s,c,last,l,?_,asP,asP,by rw[a6.o Z];exact h3⟩;rw[<- C];exact⟨f.ok,f.code.app _,apm f.it,apm f.rt,f.ne,f.l0,f.l1,f.len,f.av⟩)
     clear hM b4 b1 b2 a6 a5;refine wk ?_;exact asU asP (CutL (b:=asP)) ⟨j+1,rfl,asP,b_,ch,hK2,rfl⟩
    .subst Z;have S:∀b,(Lb.set L'.length b)[L'.length]?=some b:=λb=>by rw[arF asP]
     refine wk ?_;obtain⟨L3,W⟩:=apl (Lb.set L'.length (Blk.cells [AV.int .i64 uk,dnA ud,dnA ut,AV.sl (aJ H) H.length none]));have a8:L3[L'.length]?=some (Blk.cells [AV.int .i64 uk,dnA ud,dnA ut,AV.sl (aJ H) H.length none]):=(by rw[<- W];exact S _);obtain⟨nb,bn,ck,ci,s,c',last,l,f,c4,cv,V⟩:=hM.o;have E:((doT d l last uk ud ut H).1,(doT d l last uk ud ut H).2)=Fs d (us.take (j+1)):=(by rw[a5.o rfl,<- V]);have a9:aZ (λi=>i=L'.length) Lb L3:=(by rw[<- W];exact⟨asQ,λi hi hn=>by rw[apM asP]⟩);have y:b9 Lb (L.length+3+2) (L.length+3) (L.length+3+1) nb bn ck ci s d last l:=(by rw[<- C];exact f.code.app _);have no:¬OfT (L.length+3+2) (L.length+3) (L.length+3+1) nb l L'.length:=y.noOf ad (.inr ⟨_,_,_,rfl⟩);have key:∀{i:Nat}{b:Blk},OfT (L.length+3+2) (L.length+3) (L.length+3+1) nb l i->Lb[i]?=some b->L3[i]?=some b:=λ{i b} ho e=>a9.get e λY=>no (by rw[<- Y];exact ho)
     have I:b9 L3 (L.length+3+2) (L.length+3) (L.length+3+1) nb bn ck ci s d last l:=⟨key (.inl rfl) y.v,key (.inr (.inl rfl)) y.n,key (.inr (.inr (.inl rfl))) y.i,λx hx=>key (.inr (.inr (.inr ⟨x,hx,rfl⟩))) (y.nd x hx),y.keys,y.mem,y.bnd,y.blt⟩;have up:∀{i:Nat}{b:Blk},L'[i]?=some b->L3[i]?=some b:=λ{i b} e=>a9.get (by rw[<- C,apx (aps.1 e).1];exact e) (by have:=(aps.1 e).1;omega)
     have b5:Kp L3 L.length ib _ _ _ _:=⟨⟨up hK.o.1.1,hK.o.1.2⟩,⟨up hK.o.2.1.1,hK.o.2.1.2⟩,⟨up hK.o.2.2.1.1,hK.o.2.2.1.2⟩,up hK.o.2.2.2.1,hK.o.2.2.2.2⟩;have cm:=f.l1;have bi:=f.len;have T:=up f.rt;have b6:L3.length=L'.length+1:=(by rw[<- W];simp;omega);obtain⟨d1,d2,d3,d4⟩:=f.ok.done f.l0 uk ud ut H;rw[W];refine aof f.ok f.ne asP f.l0 asP (up f.it) I ce.b bs.b t.o.1 t.o.2 λL4 cn cl c6 cs bx q1 q2 q3=>?_
     have c9:L4[L'.length]?=some (Blk.cells [AV.int .i64 uk,dnA ud,dnA ut,AV.sl (aJ H) H.length none]):=q3.get a8 (I.noOf a8 (.inr ⟨_,_,_,rfl⟩));have cd:=b5.tree I q3;have A:=q3.get T (I.noOf T (.inl asQ));have ai:nj L2 L4:=⟨by have a3:=q3.len;omega,λj c e1 Y=>by have e3:=up (an.o.2 j c e1 Y);exact q3.get e3 (I.noOf e3 (.inl asP))⟩;have kk3:Hid (∀{K:apr},(∀L5,Hid (∃nb bn ck ci s c last l,aeQ L5 (L.length+3+3) (L.length+3+2) (L.length+3) (L.length+3+1) (L.length+7) nb bn ck ci s c d last l/\last<=((j+1:Nat):Int)/\l.length<=j+1/\(l,last)=Fs d (us.take (j+1)))->Hid (Kp L5 L.length ib [AV.sl US us.length cu,AV.sl (adm.map aq) adm.length ca,AV.sl (ii rs) rs.length M] [AV.nilptr,AV.nilptr,AV.nilptr,AV.sl [] 0 (some 0),AV.sl [] 0 (some 0)] [AV.sl TS tl none,AV.sl CS 9 none] [dnA adm,.sl (kr rs) rs.length c])->Hid (nj L2 L5)->K (.int .i64 (fY d l uk ud ut)) L5)->apq 35 [.ptr (L.length+7) 0,.agg [.int .i64 uk,dnA ud,dnA ut,.sl (aJ H) H.length none]] L4 K):=@hid _ (by
      intro K q;refine aoj f.ok asP f.l0 asP A ce bs t.o.1 t.o.2 λL5 c5 r1 r2=>?_
      refine q L5 (hid ⟨cn,cl,c6,cs,bx,c5,_,_,⟨d1,q1.keep A rfl r2,r2.get q2 λe=>?_,r1,f.ne,Int.le_trans f.l0 d2,asP,asP,anG f.av t.o⟩,asP,asP,E⟩) (hid (cd.row A rfl asP r2)) (hid ?_)
      .rw[e,A]at q2;simp at q2
      .exact⟨by have a2:=r2.len;have:=ai.1;omega,λj c e1 Y=>r2.get (ai.2 j c e1 Y) λe=>by have e3:=ai.2 j c e1 Y;rw[e,A]at e3;cases e3;simp at Y⟩)
     clear ai a6 a5 V E a9 y no key I up b5 cm bi T d1 d2 d3 d4 f c4 cv cd A q1 q2 q3 W b6 a8 S C ad b1 b2 b3 b4 bb;refine asX ?_;intro L5 co c7 cc;refine wk ?_;exact asU asP (CutL (b:=cc.o.1)) ⟨j+1,rfl,G,cc,co,c7,rfl⟩
 have j3:¬(j:Int)<(us.length:Int):=asP;have b0:∀b,(L'.set (L.length+1) b)[L.length+1]?=some b:=λb=>by rw[arF (aps.1 k2).1]
 obtain⟨nb,bn,ck,ci,s,c',last,l,f,_,_,V⟩:=hM.o;have E:(l,last)=Fs d us:=by rw[V,ap2 asP]
 have bt:aeQ (L'.set (L.length+1) (Blk.cells [AV.ptr (L.length+3+3) 0,AV.ptr ib 0,AV.ptr (L.length+7) 0,AV.sl (adm.map aq) adm.length ca,AV.sl (ii rs) rs.length M])) (L.length+3+3) (L.length+3+2) (L.length+3) (L.length+3+1) (L.length+7) nb bn ck ci s c' d last l:=by
  have hb:aZ (λi=>i=L.length+1) L' (L'.set (L.length+1) (Blk.cells [AV.ptr (L.length+3+3) 0,AV.ptr ib 0,AV.ptr (L.length+7) 0,AV.sl (adm.map aq) adm.length ca,AV.sl (ii rs) rs.length M])):=⟨asQ,λi hi hn=>by rw[apM asP]⟩;have no:¬OfT (L.length+3+2) (L.length+3) (L.length+3+1) nb l (L.length+1):=f.code.noOf k2 (.inl asQ);have key:∀{i:Nat}{b:Blk},OfT (L.length+3+2) (L.length+3) (L.length+3+1) nb l i->L'[i]?=some b->(L'.set (L.length+1) (Blk.cells [AV.ptr (L.length+3+3) 0,AV.ptr ib 0,AV.ptr (L.length+7) 0,AV.sl (adm.map aq) adm.length ca,AV.sl (ii rs) rs.length M]))[i]?=some b:=λ{i b} ho e=>hb.get e λY=>no (by rw[<- Y];exact ho)
  have h:=f.code;exact⟨f.ok,⟨key (.inl rfl) h.v,key (.inr (.inl rfl)) h.n,key (.inr (.inr (.inl rfl))) h.i,λx hx=>key (.inr (.inr (.inr ⟨x,hx,rfl⟩))) (h.nd x hx),h.keys,h.mem,h.bnd,h.blt⟩,hb.get f.it asP,hb.get f.rt asP,f.ne,f.l0,f.l1,f.len,f.av⟩
 have a4:(L'.set (L.length+1) (Blk.cells [AV.ptr (L.length+3+3) 0,AV.ptr ib 0,AV.ptr (L.length+7) 0,AV.sl (adm.map aq) adm.length ca,AV.sl (ii rs) rs.length M]))[ib]?=some (.cells [dnA adm,.sl (kr rs) rs.length c]):=by rw[apM (λe=>by rw[e,k4]at k2;cases k2)];exact k4
 have bl:=hid (h1.o _ _ _ _ _ _ _ _ _ _ _ _ _ _ _ _ bt a4 F.o cx.o c2 E c1 (by
  have hk:=cw.o.trans an.o;exact⟨by have:=hk.1;simp;omega,λj c e1 Y=>by have hj:=(aps.1 e1).1;rw[apM asP];exact hk.2 j c e1 Y⟩))
 clear bt a4 f hM k4 hK V E;refine wk ?_;exact aa bl.o
def iS(Q:List UInt8->Bool)(l:List Atr):List Atr:=l.filter λa=>Q a.1
theorem anb{Q:List UInt8->Bool}{j:AV}{c:Int}{l:List Atr}{u:Option Nat}(E:l.length<=1100000)(y:∀a∈l,a.2.length<=1100000){L:List Blk}{A:List AV}(B:L[ib]?=some (.cells A))(x:Hid (∀a∈l,∀{X:List Blk}{K:apr},K (.bool (Q a.1)) (L++X)->apq 26 [.ptr ib 0,wh,j,.str a.1,.int .i64 c] (L++X) K)){K:apr}(h:K (.sl (aJ (iS Q l)) (iS Q l).length none) L):
  apq 28 [.ptr ib 0,wh,j,.sl (aJ l) l.length u,.int .i64 c] L K:=by
 replace h:=hid h;refine apo Ti ?_;refine bR (l:=[]) (n:=0) 11 2 rfl (apU 2).symm ?_;refine aj (λm T' L'=>∃(k z:Nat) (C:List AV) (X:List Blk),m=l.length-k/\k<=l.length/\z<=k/\Hid (C=aJ (iS Q (l.take k))/\z=(iS Q (l.take k)).length)/\T'=[(16,.int .i64 (k:Int)),(15,.int .i64 l.length),(14,.sl (aJ l) l.length u),(11,.gsl C z L.length 2),(0,.ptr ib 0),(1,wh),(2,j),(4,.int .i64 c)]/\L'=L++(.spare z 2::X)) asT ⟨0,0,[],[],rfl,apv _,apt _,hid ⟨rfl,rfl⟩,rfl,rfl⟩ ?_;rintro _ _ _ ⟨k,z,C,X,rfl,F,w,f,rfl,rfl⟩;by_cases d:k<l.length;have g1:(k:Int)<(l.length:Int):=asP;have H:=apn k asP;have v:=jF d;have D:k*2+2<=(aJ l).length:=by rw[iI];omega
 obtain⟨⟨nm,vs⟩,g⟩:∃a,l.getD k ([],[])=a:=⟨_,rfl⟩;have r:(nm,vs)∈l:=by rw[<- g];simp[d]
 have e:l.take (k+1)=l.take k++[(nm,vs)]:=by rw[apK d,<- g];simp[d]
 have t:=y _ r;rw[g]at v;simp only[atA]at v t;obtain⟨q,p⟩:=apl (Q nm);have kk1:Hid (∀{X:List Blk}{K:apr},K (.bool q) (L++X)->apq 26 [.ptr ib 0,wh,j,.str nm,.int .i64 c] (L++X) K):=@hid _ (λ{X K} a=>x.o (nm,vs) r (by rw[p];exact a));have G:AV.frzL (vs.map AV.str)=vs.map AV.str:=iV vs;have s:iS Q (l.take (k+1))=iS Q (l.take k)++(if q=true then[(nm,vs)]else[]):=by rw[e,iS,iS,asv];congr 1;simp only[List.filter_cons,List.filter_nil,p]
 cases q with
 | false =>
   have b:=hid (show C=aJ (iS Q (l.take (k+1)))/\z=(iS Q (l.take (k+1))).length by rw[s];simpa using f.o);clear f s e g r p;refine wk ?_;exact asU asP asS ⟨k+1,z,C,_,rfl,d,asP,b,rfl,rfl⟩
 | true =>
   have b:=hid (show C++[.str nm,.sl (vs.map AV.str) vs.length none]=aJ (iS Q (l.take (k+1)))/\z+1=(iS Q (l.take (k+1))).length by rw[s,f.o.1,f.o.2];simp[aJ,atA]);clear f s e g r p;refine wk ?_;exact asU asP asS ⟨k+1,z+1,_,_,rfl,d,asP,b,rfl,rfl⟩
 have i:k=l.length:=asP;have g1:¬(k:Int)<(l.length:Int):=asP;have b:=f.o;rw[i,apJ]at b;replace b:=hid b;clear f i d;refine wk ?_;refine aY ?_;simp only[AV.frz];rw[b.o.1,fi,b.o.2];exact ac (by simp only[AV.refs,ko]) h.o
theorem anj{d:Option Nat}{c2:List AV}{F:Nat}{e:Option Nat}(D:ts.length<=1100000/\∀t∈ts,bS t.1){l:List Atr}{Z:Option Nat}(hl:l.length<=1100000)(hz:∀a∈l,bS a.1/\a.2.length<=1100000){W:Option Nat}(al:names.length<=1100000)(y:∀n∈names,bS n)(ad:Hid (∀{vs:List (List UInt8)}{c:Option Nat},vs.length<=1100000->∀{L:List Blk}{K:apr},K (.sl (vs.map AV.str) vs.length none) L->apq 47 [.sl (vs.map AV.str) vs.length c] L K)){L:List Blk}{K:apr}(h:K (.sl (aJ (ki ts names tonly l)) (ki ts names tonly l).length none) L):
  apq 17 [.agg [.sl (cV ts) ts.length d,.sl c2 F e],.sl (aJ l) l.length Z,.sl (names.map AV.str) names.length W,.bool tonly] L K:=by
 have u:Hid (∀{n:List UInt8},bS n->∀{L:List Blk}{K:apr},K (tt (gV ts n)) L->apq 45 [.agg [.sl (cV ts) ts.length d,.sl c2 F e],.str n] L K):=@hid _ (λ{n} G {L K} q=>acR D.1 D.2 G q);obtain⟨T,M⟩:=apl (cV ts);obtain⟨V,I⟩:=apl (ts.length);rw[M,I]at u⊢;replace h:=hid h;replace hz:=hid hz;replace y:=hid y;clear D M I;refine apo aaq ?_;refine bR (l:=[]) (n:=0) 9 2 rfl (apU 2).symm ?_;rw[show(L++[Blk.cells [.sl T V d,.sl c2 F e]]).length=L.length+1 from by simp];refine aj (λm T' L'=>∃(k z:Nat) (C:List AV) (X:List Blk),m=l.length-k/\k<=l.length/\z<=k/\Hid (C=aJ (ki ts names tonly (l.take k))/\z=(ki ts names tonly (l.take k)).length)/\T'=[(20,.int .i64 (k:Int)),(19,.int .i64 l.length),(18,.sl (aJ l) l.length Z),(9,.gsl C z (L.length+1) 2),(4,.ptr L.length 0),(2,.sl (names.map AV.str) names.length W),(3,.bool tonly)]/\L'=L++(.cells [.sl T V d,.sl c2 F e] :: .spare z 2::X)) asT ⟨0,0,[],[],rfl,apv _,apt _,hid ⟨rfl,rfl⟩,rfl,asQ⟩ ?_;rintro _ _ _ ⟨k,z,C,X,rfl,hk,ai,r,rfl,rfl⟩;by_cases f:k<l.length;have g1:(k:Int)<(l.length:Int):=asP;have g2:=apn k asP;have e3:=jF f;have e4:k*2+2<=(aJ l).length:=by rw[iI];omega
 obtain⟨⟨nm,vs⟩,U⟩:∃a,l.getD k ([],[])=a:=⟨_,rfl⟩;have hm:(nm,vs)∈l:=by rw[<- U];simp[f]
 have O:l.take (k+1)=l.take k++[(nm,vs)]:=by rw[apK f,<- U];simp[f]
 have s:=hz.o _ hm;rw[U]at e3;simp only[atA]at e3 s;have kk1:Hid (Ctr Tryz.prog 45 [.agg [.sl T V d,.sl c2 F e],.str nm] (tt (gV ts nm))):=@hid _ (λ{L K} q=>u.o s.1 q);have kk2:Hid (∀{c:Option Nat}{L:List Blk}{K:apr},K (.sl (vs.map AV.str) vs.length none) L->apq 47 [.sl (vs.map AV.str) vs.length c] L K):=@hid _ (λ{c L K} q=>ad.o s.2 q);have kk3:Hid (Ctr Tryz.prog 46 [.str nm] (.str (ak nm))):=@hid _ (λ{L K} q=>jD s.1 q);have E:ki ts names tonly (l.take (k+1))=ki ts names tonly (l.take k)++(if adh ts names (nm,vs)=true then[(nm,if tonly then[]else vs)]else[]):=by rw[O,ki,ki,asv,ap1];congr 1;simp only[List.filter_cons,List.filter_nil];cases adh ts names (nm,vs)<;>cases tonly<;>rfl
 obtain⟨⟨t1,t2,t3,o⟩,A⟩:∃t,(gV ts nm).getD Eg=t:=⟨_,rfl⟩;have ho:opM ts nm=o:=by unfold opM;rw[A]
 obtain⟨Y,J⟩:=apl ((gV ts nm).isSome);simp only[tt,A,J,tyC]at kk1;have B:adh ts names (nm,vs)=((decide (names=[]) && !o) ||names.any (Y8 o nm)):=by unfold adh;rw[ho]
 rw[B]at E;have e0:decide ((names.length:Int)=0)=decide (names=[]):=by cases names<;>simp<;>omega
 obtain⟨b0,H⟩:=apl (decide (names=[]));rw[H]at E e0;obtain⟨fn,v⟩:=apl (ak nm);rw[v]at kk3;replace E:=hid E;replace v:=hid v;clear B ho A J H U hm O s;refine wk ?_;refine aj (λm T' L'=>∃(j:Nat) (w:Bool),m=names.length-j/\j<=names.length/\Hid (w=((b0 && !o) ||(names.take j).any (Y8 o nm)))/\T'=[(41,.int .i64 (j:Int)),(40,.int .i64 names.length),(39,.sl (names.map AV.str) names.length W),(14,.bool w),(12,.ptr (L.length+(X.length+1+1+1)) 0),(11,.ptr (L.length+(X.length+1+1)) 0),(20,.int .i64 (k:Int)),(19,.int .i64 l.length),(18,.sl (aJ l) l.length Z),(9,.gsl C z (L.length+1) 2),(4,.ptr L.length 0),(2,.sl (names.map AV.str) names.length W),(3,.bool tonly)]/\L'=L++(.cells [.sl T V d,.sl c2 F e] :: .spare z 2::(X++[.cells [.str nm,.sl (vs.map AV.str) vs.length none],.cells [.str t1,.int .i64 t2,.bool t3,.bool o]]))) asT ⟨0,_,rfl,apv _,hid asQ,rfl,rfl⟩ ?_;rintro _ _ _ ⟨j,w,rfl,hj,B,rfl,rfl⟩;by_cases p:j<names.length;have j1:(j:Int)<(names.length:Int):=asP;have j2:=apn j asP;obtain⟨n,G⟩:=apl (names.getD j []);have j3:(names.map AV.str).getD j .undef=.str n:=by rw[<- G];simp[p]
 have j4:j<(names.map AV.str).length:=by simpa using p
 have S:n∈names:=by rw[<- G];simp[p]
 have N:=y.o n S;have kk4:Hid (Ctr Tryz.prog 46 [.str n] (.str (ak n))):=@hid _ (λ{L K} q=>jD N q);have R:names.take (j+1)=names.take j++[n]:=by rw[apK p,<- G];simp[p]
 obtain⟨f4,x⟩:=apl (ak n);have g:(w ||Y8 o nm n)=((b0 && !o) ||(names.take (j+1)).any (Y8 o nm)):=by rw[R,ar4,B.o,Bool.or_assoc];simp
 rw[x]at kk4;have P:Y8 o nm n=((decide (n=[42]) && !o) ||((decide (n=[43])&&o) ||decide (f4=fn))):=by unfold Y8;rw[x,v.o]
 rw[P]at g;replace g:=hid g;clear B P R S G N x r E;refine wk ?_;exact asU asP asS ⟨j+1,_,rfl,p,hid (by rw[<- g.o];simp only[Bool.or_assoc]),rfl,rfl⟩;have j1:¬(j:Int)<(names.length:Int):=asP;have g:=B.o;rw[ap2 asP]at g;have i:=E.o;rw[<- g]at i;clear B g E;cases w with
 | false =>
   have b:=hid (show C=aJ (ki ts names tonly (l.take (k+1)))/\z=(ki ts names tonly (l.take (k+1))).length by rw[i];simpa using r.o);clear r i;refine wk ?_;exact asU asP asS ⟨k+1,z,C,_,rfl,f,asP,b,rfl,rfl⟩
 | true =>
   have fv:AV.frzL (vs.map AV.str)=vs.map AV.str:=iV vs;cases tonly with
   | false =>
     have b:=hid (show C++[.str nm,.sl (vs.map AV.str) vs.length none]=aJ (ki ts names false (l.take (k+1)))/\z+1=(ki ts names false (l.take (k+1))).length by rw[i,r.o.1,r.o.2];simp[aJ,atA]);clear r i;refine wk ?_;exact asU asP asS ⟨k+1,z+1,_,_,rfl,f,asP,b,rfl,rfl⟩
   | true =>
     have b:=hid (show C++[.str nm,.sl [] 0 none]=aJ (ki ts names true (l.take (k+1)))/\z+1=(ki ts names true (l.take (k+1))).length by rw[i,r.o.1,r.o.2];simp[aJ,atA]);clear r i;refine wk ?_;exact asU asP asS ⟨k+1,z+1,_,_,rfl,f,asP,b,rfl,rfl⟩
 have Q:k=l.length:=asP;have g1:¬(k:Int)<(l.length:Int):=asP;have b:=r.o;rw[Q,apJ]at b;replace b:=hid b;clear r Q f;refine wk ?_;refine aY ?_;simp only[AV.frz];rw[b.o.1,fi,b.o.2];exact ac (by simp only[AV.refs,ko]) h.o
abbrev aos(x:Fnd):List AV:=[dnA x.1,.sl (aJ x.2) x.2.length none]
def iF(l:List Fnd):List AV:=l.flatMap aos
theorem EV(a:Fnd)(l:List Fnd):iF (a::l)=dnA a.1 :: .sl (aJ a.2) a.2.length none::iF l:=rfl
theorem abQ(l m:List Fnd):iF (l++m)=iF l++iF m:=by simp[iF]
theorem WM(l:List Fnd):(iF l).length=l.length*2:=by
 induction l with
 |nil=>rfl
 |cons a l ih=>rw[EV];simp only[apC];omega
theorem EU(p:Nat->Bool):∀l:List Fnd,AV.refsL p (iF l)=true
 |[]=>rfl
 |a::l=>by rw[EV];simp[AV.refsL,AV.refs,dnA,fD,ko p,EU p l]
theorem OQ:∀l:List Fnd,AV.frzL (iF l)=iF l
 |[]=>rfl
 |a::l=>by rw[EV];simp only[AV.frzL,AV.frz,dnA,bB,fi,OQ l]
abbrev CX(Q:List Blk)(f:FuncId)(A:List AV)(v:AV):Prop:=∀{X:List Blk}{K:apr},K v (Q++X)->apq f A (Q++X) K
variable {α:Type}
theorem aiM{f:α->Option Fnd}{x:α}{l:List α}(h:0<time/\time<=((n/100:Nat):Int)):srL f time size n out (x::l)=(out,3):=by rw[srL,if_pos h]
theorem aiO{f:α->Option Fnd}{x:α}{l:List α}(h:¬(0<time/\time<=((n/100:Nat):Int)))(a:f x=none):srL f time size n out (x::l)=srL f time size (n+1) out l:=by rw[srL,if_neg h,a]
theorem aiP{f:α->Option Fnd}{x:α}{l:List α}{y:Fnd}(h:¬(0<time/\time<=((n/100:Nat):Int)))(b:f x=some y)(a:0<size/\(out.length:Int)=size):srL f time size n out (x::l)=(out,4):=by rw[srL,if_neg h,b];simp only[if_pos a]
theorem aiN{f:α->Option Fnd}{x:α}{l:List α}{y:Fnd}(h:¬(0<time/\time<=((n/100:Nat):Int)))(b:f x=some y)(a:¬(0<size/\(out.length:Int)=size)):srL f time size n out (x::l)=srL f time size (n+1) (out++[y]) l:=by rw[srL,if_neg h,b];simp only[if_neg a]
def srA(r:List Fnd×Int×List Rdn):AV:=.tup [.sl (iF r.1) r.1.length none,.int .i64 r.2.1,dnA r.2.2]
def scE(l:List aC)(id s:Int):List aC:=match o7 l id with|some a=>scL l a s|none=>[]
theorem Kc{l:List aC}{P:List Rdn->List UInt8->Int->Bool}{T:List Atr->Int}{base:List Rdn}{scope:Int}:tR ts l P T base scope names tonly size time =
 if scope<0\/2<scope\/size<0\/time<0 then([],2,[])else if ¬OkD base then([],34,[])else if(J7 (P · [] 1) l base).1=0 then([],32,(J7 (P · [] 1) l base).2)else((srL (WN ts P T names tonly) time size 0 [] (scE l (J7 (P · [] 1) l base).1 scope)).1,(srL (WN ts P T names tonly) time size 0 [] (scE l (J7 (P · [] 1) l base).1 scope)).2,[]):=rfl
theorem als{l:List aC}{s:Int}(h:¬(s<0\/2<s)):scT l id s=(scE l id s).map (·.id):=by
 unfold scT scE;cases o7 l id with
 |none=>rfl
 |some a=>simp only[if_neg h]
theorem acm{l:List aC}{s:Int}(h:x∈scE l id s):x∈l:=by
 unfold scE at h;cases hx:o7 l id with
 |none=>rw[hx]at h;cases h
 | some a =>
   rw[hx]at h;simp only[scL,List.mem_mergeSort,ap8]at h;exact h.1
theorem agp{l:List aC}{s:Int}:(scE l id s).length<=l.length:=by
 unfold scE;cases o7 l id with
 |none=>simp
 |some a=>simp only[scL,asw];exact aqL _ _
theorem amR{g:AV}{L:List Blk}{K:apr}(h:K (.bool false) L):apq 51 [.sl [] 0 (some 0),g] L K:=by
 have kk1:Hid (Ctr Tryz.prog 97 [.sl [] 0 (some 0),g] (.int .i64 (-1))):=@hid _ (λ{L K} h=>by replace h:=hid h;refine apo pc ?_;refine aj (λm T' L'=>m=0/\T'=[(8,.int .i64 0),(7,.int .i64 0)]/\L=L') asT ⟨rfl,rfl,rfl⟩ ?_;rintro _ _ _ ⟨rfl,rfl,rfl⟩;refine wk ?_;exact aa h.o)
 replace h:=hid h;refine apo lT ?_;exact aa h.o
theorem adt{w:Option Nat}{c2:List AV}{n2:Nat}{D:Option Nat}(a4:ts.length<=1100000/\∀t∈ts,bS t.1){iv mn mi:Nat}{nb bn:Int->Nat}{ck ci:Nat}{rs:List TKy}{suf:List Rdn}{last:Int}{l:List aC}(ht:TOk suf last l)(a6:l.length<=1100000)(G:∀x∈l,x.av.length<=1100000/\∀a∈x.av,bS a.1/\a.2.length<=1100000){base:List Rdn}{cb:Option Nat}(S:dnB base){scope f0:Int}{f1 f2:List UInt8}{f3 f4:AV}{cn:Option Nat}(a9:names.length<=1100000)(a0:∀n∈names,bS n){P:List Rdn->List UInt8->Int->Bool}{T:List Atr->Int}{bk:List AV}(a5:Hid (∀{vs:List (List UInt8)}{c:Option Nat},vs.length<=1100000->∀{L:List Blk}{K:apr},K (.sl (vs.map AV.str) vs.length none) L->apq 47 [.sl (vs.map AV.str) vs.length c] L K)){L:List Blk}(hc:b9 L iv mn mi nb bn ck ci rs suf last l)(a_:L[ib]?=some (.cells bk))(hP:Hid (∀x∈l,∀n,bS n->∀r,r=1\/r=2\/r=4->∀{X:List Blk}{K:apr},K (.bool (P x.nm n r)) (L++X)->apq 26 [.ptr ib 0,wh,.sl (x.nm.map aq) x.nm.length none,.str n,.int .i64 r] (L++X) K))(hT:Hid (∀x∈l,∀{X:List Blk}{K:apr},K (.int .i64 (T (iS (λn=>P x.nm n 4) x.av))) (L++X)->apq 27 [.agg [.sl (cV ts) ts.length w,.sl c2 n2 D],.agg [.int .i64 f0,.str f1,.str f2,f3,f4],.sl (aJ (iS (λn=>P x.nm n 4) x.av)) (iS (λn=>P x.nm n 4) x.av).length none] (L++X) K)){K:apr}(h:K (srA (tR ts l P T base scope names tonly size time)) L):
  apq 21 [.ptr iv 0,.agg [.sl (cV ts) ts.length w,.sl c2 n2 D],.ptr ib 0,.agg [wh,.sl (base.map aq) base.length cb,.int .i64 scope,.int .i64 f0,.str f1,.str f2,f3,f4,.sl (names.map AV.str) names.length cn,.bool tonly,.int .i64 size,.int .i64 time],.sl [] 0 (some 0)] L K:=by
 have kk1:Hid (Ctr Tryz.prog 36 [.sl (base.map aq) base.length cb] (kG (prS base))):=@hid _ (λ{L K} q=>lM S.1 S.2 q);obtain⟨⟨p1,e1⟩,ar⟩:∃q,prS base=q:=⟨_,rfl⟩;have o1:OkD base↔e1=0:=by unfold OkD;rw[ar]
 rw[ar]at kk1;simp only[kG]at kk1;have kk2:Hid (CX L 10 [.ptr iv 0,.ptr ib 0,wh,.sl (base.map aq) base.length cb] (am4 (J7 (P · [] 1) l base))):=@hid _ (λ{X K} q=>aoe ht (λx d=>⟨(G x d).1,λa I=>((G x d).2 a I).2⟩) (hc.app X) (λx d=>@hid _ (λ{K} q=>hP.o x d [] (by simp[bS]) 1 (.inl rfl) q)) S q);have kk3:Hid (∀{id:Int}{X:List Blk}{K:apr},K (.sl ((scT l id scope).map (AV.int .i64)) (scT l id scope).length none) (L++X)->apq 23 [.ptr iv 0,.int .i64 id,.int .i64 scope] (L++X) K):=@hid _ (λ{id X K} q=>Y9 ht a6 (hc.app X) q);have hE:Hid (∀x∈l,∀{X:List Blk}{K:apr},K (.tup [dnA x.nm,.sl (aJ x.av) x.av.length none]) (L++X)->apq 25 [.ptr iv 0,.int .i64 x.id] (L++X) K):=@hid _ (λx d {X K} q=>adk ht (λx d=>⟨(G x d).1,λa I=>((G x d).2 a I).2⟩) (hc.app X) (λe=>by rw[ht.ent d]at e;cases e) (λy e=>by rw[ht.ent d]at e;cases e;exact q));have hS:Hid (∀x∈l,∀r,r=2\/r=4->∀{X:List Blk}{K:apr},K (.sl (aJ (iS (λn=>P x.nm n r) x.av)) (iS (λn=>P x.nm n r) x.av).length none) (L++X)->apq 28 [.ptr ib 0,wh,.sl (x.nm.map aq) x.nm.length none,.sl (aJ x.av) x.av.length none,.int .i64 r] (L++X) K):=@hid _ (λx d r hr {X K} q=>anb (Q:=λn=>P x.nm n r) (G x d).1 (λa I=>((G x d).2 a I).2) (apm a_) (@hid _ (λa I {Y K} q=>by rw[apG]at q⊢;exact hP.o x d a.1 ((G x d).2 a I).1 r (.inr hr) q)) q);have a7:Hid (∀x∈l,∀{i:List Atr},(∀a∈i,a∈x.av)->i.length<=x.av.length->∀{L:List Blk}{K:apr},K (.sl (aJ (ki ts names tonly i)) (ki ts names tonly i).length none) L->apq 17 [.agg [.sl (cV ts) ts.length w,.sl c2 n2 D],.sl (aJ i) i.length none,.sl (names.map AV.str) names.length cn,.bool tonly] L K):=@hid _ (λx d i h1 J {L K} q=>anj a4 (apR J (G x d).1) (λa I=>(G x d).2 a (h1 a I)) a9 a0 a5 q);obtain⟨V,hV⟩:=apl (J7 (P · [] 1) l base);have hs:tR ts l P T base scope names tonly size time=if scope<0\/2<scope\/size<0\/time<0 then([],2,[])else if e1≠0 then([],34,[])else if V.1=0 then([],32,V.2)else((srL (WN ts P T names tonly) time size 0 [] (scE l V.1 scope)).1,(srL (WN ts P T names tonly) time size 0 [] (scE l V.1 scope)).2,[]):=by rw[Kc,hV];simp only[o1,ne_eq]
 rw[hs]at h;rw[hV]at kk2;obtain⟨vi,vn⟩:=V;simp only[am4]at kk2 h;obtain⟨TS,a2⟩:=apl (cV ts);obtain⟨tl,a1⟩:=apl (ts.length);rw[a2,a1]at a7 hT⊢;replace h:=hid h;replace G:=hid G;clear ar o1 hs hV a2 a1 a4 a0 S a5;refine ab WZ (by simp[wu]) ?_;simp only[wu,ag];by_cases c0:((scope<0\/2<scope)\/size<0)\/time<0;have J:=hid (show K (srA ([],2,[])) L by have:=h.o;rw[if_pos asP]at this;exact this);have g0:decide (((scope<0\/2<scope)\/size<0)\/time<0)=true:=decide_eq_true c0;clear h c0;refine wk ?_;exact aY (ac rfl J.o);have g0:decide (((scope<0\/2<scope)\/size<0)\/time<0)=false:=decide_eq_false c0;have c1:¬(scope<0\/2<scope):=asP;have F:¬(scope<0\/2<scope\/size<0\/time<0):=asP;by_cases O:e1=0;rotate_left;have J:=hid (show K (srA ([],34,[])) L by have:=h.o;rw[if_neg F,if_pos O]at this;exact this);have g1:decide (e1=0)=false:=decide_eq_false O;clear h c0 c1 F O;refine wk ?_;exact aY (ac rfl J.o);by_cases cv:vi=0;have J:=hid (show K (srA ([],32,vn)) L by have:=h.o;rw[if_neg F,if_neg (by simpa using O),if_pos cv]at this;exact this);have g1:decide (e1=0)=true:=decide_eq_true O;have g2:decide (vi=0)=true:=decide_eq_true cv;clear h c0 c1 F O cv;refine wk ?_;refine aY ?_;simp only[AV.frz,AV.frzL,dnA,bB];exact ac (by simp[AV.refs,AV.refsL,fD]) J.o;have g1:decide (e1=0)=true:=decide_eq_true O;have g2:decide (vi=0)=false:=decide_eq_false cv;obtain⟨SL,M⟩:=apl (scE l vi scope);have hm:∀x∈SL,x∈l:=λx d=>acm (by rw[M];exact d)
 have hn:SL.length<=1100000:=by rw[<- M];exact apR agp a6
 obtain⟨R,p⟩:=apl (srL (WN ts P T names tonly) time size 0 [] SL);have J:=hid (show K (srA (R.1,R.2,[])) L by have:=h.o;rw[if_neg F,if_neg (by simpa using O),if_neg cv,M,p]at this;exact this);obtain⟨ad,H⟩:=apl ((SL.map λx=>AV.int .i64 x.id));have kk4:Hid (CX L 23 [.ptr iv 0,.int .i64 vi,.int .i64 scope] (.sl ad SL.length none)):=@hid _ (λ{X K} q=>kk3.o (by rw[als c1,M,apQ,apS,<- H]at *;exact q));have a':Hid (∀k,k<SL.length->ad.getD k .undef=.int .i64 (SL.getD k default).id/\k<ad.length):=hid (λk hk=>by rw[<- H];exact⟨by simp[hk],by simpa using hk⟩);replace hm:=hid hm;replace p:=hid p;have bl:=@amR;clear h kk3 c0 c1 F O cv M H;refine wk ?_;refine bR (l:=[]) (n:=0) 17 2 rfl (apU 2).symm ?_;rw[show ∀A B:Blk,(L++[A,B]).length=L.length+2 from λA B=>by simp];refine aj (λm T' L'=>∃(k:Nat) (out:List Fnd) (C:List AV) (z:Nat) (X:List Blk),m=SL.length-k/\k<=SL.length/\z<=k/\Hid (srL (WN ts P T names tonly) time size k out (SL.drop k)=R)/\Hid (C=iF out/\z=out.length)/\T'=[(69,.int .i64 (k:Int)),(68,.int .i64 SL.length),(67,.sl ad SL.length none),(17,.gsl C z (L.length+2) 2),(8,.ptr (L.length+1) 0),(6,.ptr L.length 0),(0,.ptr iv 0),(2,.ptr ib 0),(4,.sl [] 0 (some 0))]/\L'=L++(.cells [.sl TS tl w,.sl c2 n2 D] :: .cells [wh,.sl (base.map aq) base.length cb,.int .i64 scope,.int .i64 f0,.str f1,.str f2,f3,f4,.sl (names.map AV.str) names.length cn,.bool tonly,.int .i64 size,.int .i64 time] :: .spare z 2::X)) asT ⟨0,[],[],0,[],rfl,apv _,apt _,hid (by simpa using p.o),hid ⟨rfl,rfl⟩,rfl,asQ⟩ ?_;clear p kk1 kk2 kk4;rintro _ _ _ ⟨k,out,C,z,X,rfl,hk,bs,hI,U,rfl,rfl⟩;by_cases u:k<SL.length;have j1:(k:Int)<(SL.length:Int):=asP;have j2:=apn k asP;obtain⟨j3,j4⟩:=a'.o k u;have kk1:Hid (∀{g:AV}{L:List Blk}{K:apr},K (.bool false) L->apq 51 [.sl [] 0 (some 0),g] L K):=@hid _ (λ{g L K} q=>amR q);obtain⟨x,d⟩:=apl (SL.getD k default);rw[d]at j3;have s:x∈l:=hm.o x (by rw[<- d];simp[u]);have a3:SL.drop k=x::SL.drop (k+1):=by rw[apY u,<- d];simp[u]
 have b:=hI.o;rw[a3]at b;clear hI a3 d;obtain⟨q,hq⟩:∃q:Int,((k/100:Nat):Int)=q:=⟨_,rfl⟩;have j5:IntKind.i64.wrap ((k:Int).tdiv 100)=q:=by rw[<- hq,asF asP];exact ae asP asP
 by_cases j:0<time/\time<=q;have p:=aiM (f:=WN ts P T names tonly) (size:=size) (out:=out) (x:=x) (l:=SL.drop (k+1)) (by rw[hq];exact j);rw[p]at b;subst b;have g3:decide (0<time/\time<=q)=true:=decide_eq_true j;clear p j hq;obtain⟨rfl,rfl⟩:=U.o;refine wk ?_;refine aY ?_;simp only[AV.frz,AV.frzL,OQ];exact ac (by simp[AV.refs,AV.refsL,EU]) J.o;have g3:decide (0<time/\time<=q)=false:=decide_eq_false j;rw[<- hq]at j;replace j:=hid j;have bb:=G.o x s;have kk2:=@hid _ (@Hid.o _ hE x s);have kk3:=@hid _ (@Hid.o _ hP x s [] (by simp[bS]) 1 (.inl rfl));have kk4:=@hid _ (@Hid.o _ hS x s 4 (.inr rfl));have kk5:=@hid _ (@Hid.o _ hT x s);have kk6:=@hid _ (@Hid.o _ hS x s 2 (.inl rfl));have kk7:=@hid _ (@Hid.o _ a7 x s (iS (λn=>P x.nm n 2) x.av) (λa I=>(ap8.1 I).1) (aqL _ _));have N:WN ts P T names tonly x=if(P x.nm [] 1&&decide (T (iS (λn=>P x.nm n 4) x.av)=1))=true then some (x.nm,ki ts names tonly (iS (λn=>P x.nm n 2) x.av))else none:=rfl
 obtain⟨pb,an⟩:=apl (P x.nm [] 1);obtain⟨A4,ai⟩:=apl (iS (λn=>P x.nm n 4) x.av);obtain⟨A2,ap⟩:=apl (iS (λn=>P x.nm n 2) x.av);obtain⟨W,hW⟩:=apl (ki ts names tonly A2);obtain⟨tv,al⟩:=apl (T A4);rw[an,ai,ap,al,hW]at N;rw[an]at kk3;rw[ai]at kk4 kk5;rw[al]at kk5;rw[ap]at kk6 kk7;rw[hW]at kk7;obtain⟨xi,xn,xv⟩:=x;simp only[dnA]at kk2 kk3 kk4 kk5 kk6 kk7 N j3;clear hq bb an ai ap hW al s;by_cases v:pb=true/\tv=1;obtain⟨rfl,rfl⟩:=v;rw[if_pos asQ]at N;have Z:=U.o.2;by_cases E:0<size/\(z:Int)=size;have p:=aiP (l:=SL.drop (k+1)) j.o N (size:=size) (out:=out) (by rw[<- Z];exact E);rw[p]at b;subst b;have g4:decide (0<size/\(z:Int)=size)=true:=decide_eq_true E;clear p N E Z;obtain⟨rfl,rfl⟩:=U.o;refine wk ?_;refine aY ?_;simp only[AV.frz,AV.frzL,OQ];exact ac (by simp[AV.refs,AV.refsL,EU]) J.o;have p:=aiN (l:=SL.drop (k+1)) j.o N (size:=size) (out:=out) (by rw[<- Z];exact E);rw[p]at b;have g4:decide (0<size/\(z:Int)=size)=false:=decide_eq_false E;have bi:Hid (C++[.sl (xn.map aq) xn.length none,.sl (aJ W) W.length none]=iF (out++[(xn,W)])/\z+1=(out++[(xn,W)]).length):=hid (by rw[U.o.1,U.o.2,abQ];simp[iF,aos,dnA]);replace b:=hid b;have bt:=bB xn;have bo:=fi W;clear p N E Z U;refine wk ?_;exact asU asP asS ⟨k+1,_,_,z+1,_,rfl,u,asP,b,bi,rfl,rfl⟩;rw[if_neg (by simpa using v)]at N;have p:=aiO (l:=SL.drop (k+1)) j.o N (size:=size) (out:=out);rw[p]at b;replace b:=hid b;clear p N;cases pb with
 | false =>
   clear v;refine wk ?_;exact asU asP asS ⟨k+1,_,_,z,_,rfl,u,asP,b,U,rfl,rfl⟩
 | true =>
   have g4:decide (tv=1)=false:=(by simpa using v);clear v;refine wk ?_;exact asU asP asS ⟨k+1,_,_,z,_,rfl,u,asP,b,U,rfl,rfl⟩
 have a8:k=SL.length:=asP;have j1:¬(k:Int)<(SL.length:Int):=asP;have b:=hI.o;rw[aq6 asP,srL]at b;subst b;clear hI a8 u;obtain⟨rfl,rfl⟩:=U.o;refine wk ?_;refine aY ?_;simp only[AV.frz,AV.frzL,OQ];exact ac (by simp[AV.refs,AV.refsL,EU]) J.o
def awU:List Upd:=[⟨1,eJ,[],[]⟩,⟨1,[([99,110],[97])]::eJ,[],[([99,110],[[97]])]⟩]
def awR:List Rul:=[⟨0,[],[],[],7,true⟩]
def awE:List aC:=[⟨1,eJ,[]⟩,⟨2,[([99,110],[97])]::eJ,[([99,110],[[97]])]⟩]
theorem amo:Fs eJ awU=(awE,2):=asR
theorem akA:af4 awU [] awR:=⟨by decide,by decide,asR,by unfold OkD;kernel_rfl,asR,λu a=>by have:awU.all smU=true:=asR;exact apF.1 this u a⟩
def awP(ent:List Rdn)(n:List UInt8)(r:Int):Bool:=ajB [] awR [] ent n r
theorem alr{suf:List Rdn}{last:Int}{l:List aC}(b:TOk suf last l)(id s:Int):scE l id s=match o7 l id with|some a=>ajP [] (l.filter (iE a s))|none=>[]:=by
 unfold scE;cases o7 l id with
 |none=>rfl
 |some a=>simp only[b.ins]
theorem aoQ{last:Int}(a:TOk eJ last awE):tR aX awE awP (λ_=>1) eJ 2 [] false 1 0=([(eJ,[])],4,[]):=by
 rw[Kc,alr a]
 kernel_rfl
theorem aoP{last:Int}(a:TOk eJ last awE):tR aX awE awP (λ_=>1) eJ 1 [] false 0 0=([([([99,110],[97])]::eJ,[([99,110],[[97]])])],0,[]):=by kernel_rfl
def aeH:Int->List Int->Int
 |o,[]=>o
 |o,v::r=>if v=0 then 0 else if v=1 then aeH o r else aeH 2 r
def ac4(l:List Int):Int:=aeH 1 l
def N0(v:Int):Int:=if v=0 then 1 else if v=1 then 0 else 2
def orV(l:List Int):Int:=N0 (ac4 (l.map N0))
end Go.Proofs.YtdnfjhflkkpokaaGreatDoor.Av
set_option maxRecDepth 100000
namespace Go.Proofs.YtdnfjhflkkpokaaGreatDoor.Av
open Go
def PR:LSO:=[Ac 2 0]
def PQ:LSO:=[Ac 3 1]
def PP:LSO:=[Aa 6 0,Ah 7 6,Ac 8 0]
def PO:LSO:=[Al 9 8 7]
def PN:LSO:=[Am 10 1 6 8,Ab 11 1 10,Aa 5 11]
def PM:LSO:=[Aa 13 5,An 14 13 0,Aa 12 14]
def PL:LSO:=[Ac 2 0]
def PK:LSO:=[Aa 16 5,AB 17 16 1,Aa 15 17]
def PJ:LSO:=[Ac 3 2]
def PI:LSO:=[Ai 18 8 1,Aa 8 18]
def Kq:LSO:=[Aa 19 3,Aa 2 19]
def Of:aK:=⟨20,(asI PR [] (asI PQ [] (.seq (asI PP [] (asL 0 (asI PO [] (.seq (asM 9 0) (.seq (.block 1 (asI PN C6 (.block 2 (asI PM C6 (asJ 12 (asI PL [] .ret) (asI PK C6 (asJ 15 (.sreg PJ []) .skip))))))) (.sreg PI C4)))))) (asI Kq C4 .ret)))),[(.tmp 2)]⟩
attribute [push_cast] PR PQ PP PO PN PM PL PK PJ PI Kq
theorem aan:asN 64=asO Of:=asR
def TU:LSO:=[Ac 2 0]
def TT:LSO:=[Ak 3]
def TQ:LSO:=[Aa 6 0,Ah 7 6,Ac 8 0]
def TP:LSO:=[Al 9 8 7]
def TO:LSO:=[Am 10 1 6 8,Ab 11 1 10,Aa 5 11]
def TN:LSO:=[Aa 12 3,Aa 13 5,Aj 14 66 13,Cx 15 14,o1 16 (.app 1 1 8 [(.int .i64 0)] (tm 12) (tm 15)),Aa 3 16]
def TM:LSO:=[Ai 17 8 1,Aa 8 17]
def TK:LSO:=[Aa 18 3,Aj 19 64 18,Aj 20 66 19,Aa 2 20]
def SW:aK:=⟨21,(asI TU [] (asI TT [] (.seq (asI TQ [] (asL 0 (asI TP [] (.seq (asM 9 0) (.seq (.block 1 (asI TO C6 (.sreg TN CB))) (.sreg TM C4)))))) (asI TK C7 .ret)))),[(.tmp 2)]⟩
attribute [push_cast] TU TT TQ TP TO TN TM TK
theorem aa5:asN 65=asO SW:=asR
def PH:LSO:=[Ac 2 0]
def PG:LSO:=[Aa 3 0]
def PF:LSO:=[An 5 3 0,Aa 4 5]
def PE:LSO:=[Ac 2 1]
def PD:LSO:=[An 7 3 1,Aa 6 7]
def PC:LSO:=[Ac 2 0]
def PB:LSO:=[Ac 2 2]
def Oe:aK:=⟨8,(asI PH [] (.seq (asI PG [] (.block 0 (asI PF C4 (asJ 4 (asI PE [] .ret) (asI PD C4 (asK 6 (.sreg PC []))))))) (asI PB [] .ret))),[(.tmp 2)]⟩
attribute [push_cast] PH PG PF PE PD PC PB
theorem aam:asN 66=asO Oe:=asR
variable {L:List Blk}{K:apr}
set_option maxHeartbeats 8000000
set_option maxRecDepth 100000
theorem VZ{v:Int}(h:K (.int .i64 (N0 v)) L):apq 66 [.int .i64 v] L K:=by
 refine ab aam (by simp[Oe]) ?_;simp only[Oe,ag]
 repeat' first
  |refine bG ?_
  | (first|refine bw asR ?_|refine aN asR ?_|refine aQ ?_|refine cS ?_|refine bJ (fun _=>?_)|refine aF ?_|refine bA ?_)
    refine sm ?_
  | (first|refine bq asR ?_|refine bm ?_|refine aP ?_|refine bz ?_|refine bO (aE ?_))
    refine sl ?_
  |exact bK
  |first|apply bL|apply br|apply bM|apply bu|apply bN|apply bv
  |refine aT ?_
  |refine aO ?_
  |first|refine aR rfl ?_|refine aS rfl ?_|refine aB rfl ?_ ?_|refine aW rfl (λ_=>?_) (λ_=>?_)|refine aV rfl (λ_=>?_) (λ_=>?_)
  |((first|refine aA (λ_=>?_) (λ_=>?_)|refine aD (λ_=>?_) (λ_=>?_))<;>try refine sm ?_)
  |refine And.intro trivial ?_
  |refine And.intro asP ?_
  |refine bd rfl (λ_=>?_) (λ_=>?_)
  |refine And.intro ?_ ?_
 all_goals (first|refine ac rfl (Kto h ?_)|refine aa (Kto h ?_)|refine ac (by simp only[AV.refs,AV.refsL, *];rfl) (Kto h ?_)|refine aY (ac rfl (Kto h ?_))|(trace_state;fail))
 all_goals (first|(simp[N0, *];done)|(simp[N0, *];omega)|(simp[N0, *];intros;omega)|(simp_all[Hid,N0];done)|(simp_all[Hid,N0];omega))
theorem aoU{xs:List Int}{cap:Option Nat}(l:(xs.length:Int)<=1000000)(h:K (.int .i64 (ac4 xs)) L):apq 64 [.sl (xs.map (AV.int .i64)) xs.length cap] L K:=by
 replace h:=hid h;refine ab aan (by simp[Of]) ?_;simp only[Of,ag]
 repeat' first
  |refine bG ?_
  | (first|refine bw asR ?_|refine aN asR ?_|refine aQ ?_|refine cS ?_|refine bJ (fun _=>?_)|refine aF ?_|refine bA ?_)
    refine sm ?_
  | (first|refine bq asR ?_|refine bm ?_|refine aP ?_|refine bz ?_|refine bO (aE ?_))
    refine sl ?_
  |exact bK
  |first|apply bL|apply br|apply bM|apply bu|apply bN|apply bv
  |refine aT ?_
  |refine aO ?_
  |first|refine aR rfl ?_|refine aS rfl ?_|refine aB rfl ?_ ?_|refine aW rfl (λ_=>?_) (λ_=>?_)|refine aV rfl (λ_=>?_) (λ_=>?_)
  |((first|refine aA (λ_=>?_) (λ_=>?_)|refine aD (λ_=>?_) (λ_=>?_))<;>try refine sm ?_)
  |refine And.intro trivial ?_
  |refine And.intro asP ?_
  |refine bd rfl (λ_=>?_) (λ_=>?_)
  |refine And.intro ?_ ?_
 refine aj (λn T' L'=>∃(k:Nat) (o:Int),n=xs.length-k/\k<=xs.length/\Hid (aeH o (xs.drop k)=ac4 xs)/\T'=[(8,.int .i64 (k:Int)),(7,.int .i64 xs.length),(6,.sl (xs.map (AV.int .i64)) xs.length cap),(3,.int .i64 o),(2,.int .i64 0)]/\L'=L) asT ⟨0,1,rfl,apv _,hid rfl,rfl,rfl⟩ ?_;rintro _ _ _ ⟨k,o,rfl,j,a,rfl,rfl⟩;by_cases b:k<xs.length
 .have g:(k:Int)<(xs.length:Int):=asP;have p:=apn k asP;obtain⟨x,c⟩:=apl (xs[k]);have d:xs.drop k=x::xs.drop (k+1):=(by rw[apY b,c]);have m:(xs.map (AV.int .i64)).getD k .undef=.int .i64 x:=(by rw[abP b,c]);have i:k<(xs.map (AV.int .i64)).length:=(by simpa using b);have a:=a.o;rw[d]at a;simp only[aeH]at a;by_cases f:x=0
  .rw[if_pos f]at a;replace a:=hid a;clear c d
   repeat' first
    |refine bG ?_
    | (first|refine bw asR ?_|refine aN asR ?_|refine aQ ?_|refine cS ?_|refine bJ (fun _=>?_)|refine aF ?_|refine bA ?_)
      refine sm ?_
    | (first|refine bq asR ?_|refine bm ?_|refine aP ?_|refine bz ?_|refine bO (aE ?_))
      refine sl ?_
    |exact bK
    |first|apply bL|apply br|apply bM|apply bu|apply bN|apply bv
    |refine aT ?_
    |refine aO ?_
    |first|refine aR rfl ?_|refine aS rfl ?_|refine aB rfl ?_ ?_|refine aW rfl (λ_=>?_) (λ_=>?_)|refine aV rfl (λ_=>?_) (λ_=>?_)
    |((first|refine aA (λ_=>?_) (λ_=>?_)|refine aD (λ_=>?_) (λ_=>?_))<;>try refine sm ?_)
    |refine And.intro trivial ?_
    |refine And.intro asP ?_
    |refine bd rfl (λ_=>?_) (λ_=>?_)
    |refine And.intro ?_ ?_
   refine aa ?_;have h:=h.o;rw[<- a.o]at h;exact h
  .rw[if_neg f]at a;by_cases e:x=1
   .rw[if_pos e]at a;replace a:=hid a;clear c d
    repeat' first
     |refine bG ?_
     | (first|refine bw asR ?_|refine aN asR ?_|refine aQ ?_|refine cS ?_|refine bJ (fun _=>?_)|refine aF ?_|refine bA ?_)
       refine sm ?_
     | (first|refine bq asR ?_|refine bm ?_|refine aP ?_|refine bz ?_|refine bO (aE ?_))
       refine sl ?_
     |exact bK
     |first|apply bL|apply br|apply bM|apply bu|apply bN|apply bv
     |refine aT ?_
     |refine aO ?_
     |first|refine aR rfl ?_|refine aS rfl ?_|refine aB rfl ?_ ?_|refine aW rfl (λ_=>?_) (λ_=>?_)|refine aV rfl (λ_=>?_) (λ_=>?_)
     |((first|refine aA (λ_=>?_) (λ_=>?_)|refine aD (λ_=>?_) (λ_=>?_))<;>try refine sm ?_)
     |refine And.intro trivial ?_
     |refine And.intro asP ?_
     |refine bd rfl (λ_=>?_) (λ_=>?_)
     |refine And.intro ?_ ?_
    exact asU asP asT ⟨k+1,o,rfl,b,a,rfl,rfl⟩
   .rw[if_neg e]at a;replace a:=hid a;clear c d
    repeat' first
     |refine bG ?_
     | (first|refine bw asR ?_|refine aN asR ?_|refine aQ ?_|refine cS ?_|refine bJ (fun _=>?_)|refine aF ?_|refine bA ?_)
       refine sm ?_
     | (first|refine bq asR ?_|refine bm ?_|refine aP ?_|refine bz ?_|refine bO (aE ?_))
       refine sl ?_
     |exact bK
     |first|apply bL|apply br|apply bM|apply bu|apply bN|apply bv
     |refine aT ?_
     |refine aO ?_
     |first|refine aR rfl ?_|refine aS rfl ?_|refine aB rfl ?_ ?_|refine aW rfl (λ_=>?_) (λ_=>?_)|refine aV rfl (λ_=>?_) (λ_=>?_)
     |((first|refine aA (λ_=>?_) (λ_=>?_)|refine aD (λ_=>?_) (λ_=>?_))<;>try refine sm ?_)
     |refine And.intro trivial ?_
     |refine And.intro asP ?_
     |refine bd rfl (λ_=>?_) (λ_=>?_)
     |refine And.intro ?_ ?_
    exact asU asP asT ⟨k+1,2,rfl,b,a,rfl,rfl⟩
 .have hke:k=xs.length:=asP;subst hke;have g:¬(xs.length:Int)<(xs.length:Int):=asP;have a:=a.o;rw[aqe]at a;replace a:=hid (show o=ac4 xs from a)
  repeat' first
   |refine bG ?_
   | (first|refine bw asR ?_|refine aN asR ?_|refine aQ ?_|refine cS ?_|refine bJ (fun _=>?_)|refine aF ?_|refine bA ?_)
     refine sm ?_
   | (first|refine bq asR ?_|refine bm ?_|refine aP ?_|refine bz ?_|refine bO (aE ?_))
     refine sl ?_
   |exact bK
   |first|apply bL|apply br|apply bM|apply bu|apply bN|apply bv
   |refine aT ?_
   |refine aO ?_
   |first|refine aR rfl ?_|refine aS rfl ?_|refine aB rfl ?_ ?_|refine aW rfl (λ_=>?_) (λ_=>?_)|refine aV rfl (λ_=>?_) (λ_=>?_)
   |((first|refine aA (λ_=>?_) (λ_=>?_)|refine aD (λ_=>?_) (λ_=>?_))<;>try refine sm ?_)
   |refine And.intro trivial ?_
   |refine And.intro asP ?_
   |refine bd rfl (λ_=>?_) (λ_=>?_)
   |refine And.intro ?_ ?_
  refine aa ?_;rw[a.o];exact h.o
theorem Xm{xs:List Int}{i:Nat}(a:(xs.length:Int)<=1000000)(h:K (.int .i64 (ac4 xs)) L):apq 64 [.gsl (xs.map (AV.int .i64)) xs.length i 1] L K :=
 iL (by simpa only[AV.frzL,AV.frz,WL]using aoU (cap:=none) a h)
theorem apa{xs:List Int}{cap:Option Nat}(p:(xs.length:Int)<=1000000)(h:K (.int .i64 (orV xs)) L):apq 65 [.sl (xs.map (AV.int .i64)) xs.length cap] L K:=by
 replace h:=hid h;refine ab aa5 (by simp[SW]) ?_;simp only[SW,ag]
 repeat' first
  |refine bG ?_
  | (first|refine bw asR ?_|refine aN asR ?_|refine aQ ?_|refine cS ?_|refine bJ (fun _=>?_)|refine aF ?_|refine bA ?_)
    refine sm ?_
  | (first|refine bq asR ?_|refine bm ?_|refine aP ?_|refine bz ?_|refine bO (aE ?_))
    refine sl ?_
  |exact bK
  |first|apply bL|apply br|apply bM|apply bu|apply bN|apply bv
  |refine aT ?_
  |refine aO ?_
  |first|refine aR rfl ?_|refine aS rfl ?_|refine aB rfl ?_ ?_|refine aW rfl (λ_=>?_) (λ_=>?_)|refine aV rfl (λ_=>?_) (λ_=>?_)
  |((first|refine aA (λ_=>?_) (λ_=>?_)|refine aD (λ_=>?_) (λ_=>?_))<;>try refine sm ?_)
  |refine And.intro trivial ?_
  |refine And.intro asP ?_
  |refine bd rfl (λ_=>?_) (λ_=>?_)
  |refine And.intro ?_ ?_
 refine bR (l:=[]) (n:=0) 3 1 rfl (apU 1).symm ?_;refine aj (λn T' L'=>∃(k:Nat) (d:List Int) (v:List AV) (m:Nat),n=xs.length-k/\k<=xs.length/\m=k/\Hid (d=(xs.take k).map N0)/\v=d.map (AV.int .i64)/\T'=[(8,.int .i64 (k:Int)),(7,.int .i64 xs.length),(6,.sl (xs.map (AV.int .i64)) xs.length cap),(3,.gsl v m L.length 1),(2,.int .i64 0)]/\L'=L++[.spare m 1]) asT ⟨0,[],[],0,rfl,apv _,rfl,hid rfl,rfl,rfl,rfl⟩ ?_;rintro _ _ _ ⟨k,d,v,m,rfl,u,c,j,rfl,rfl,rfl⟩;by_cases b:k<xs.length
 .have r:(k:Int)<(xs.length:Int):=asP;have y:=apn k asP;obtain⟨x,g⟩:=apl (xs[k]);have w:(xs.map (AV.int .i64)).getD k .undef=.int .i64 x:=(by rw[abP b,g]);have t:k<(xs.map (AV.int .i64)).length:=(by simpa using b);have i:=hid (show d++[N0 x]=(xs.take (k+1)).map N0 by rw[j.o,apK b,g,ap1];rfl);clear g;replace c:=hid c;have q:(m+1)*8<=140737488355328:=(by rw[c.o];omega);have s:m+1<=140737488355328:=by rw[c.o];omega
  repeat' first
   |refine bG ?_
   | (first|refine bw asR ?_|refine aN asR ?_|refine aQ ?_|refine cS ?_|refine bJ (fun _=>?_)|refine aF ?_|refine bA ?_|refine VZ ?_|refine bf (VZ ⟨rfl,rfl⟩) (VZ ⟨rfl,rfl⟩) ?_|refine aM (VZ ⟨rfl,rfl⟩) ?_)
     refine sm ?_
   | (first|refine bq asR ?_|refine bm ?_|refine aP ?_|refine bz ?_|refine bO (aE ?_))
     refine sl ?_
   |exact bK
   |first|apply bL|apply br|apply bM|apply bu|apply bN|apply bv
   |refine aT ?_
   |refine aO ?_
   |first|refine aR rfl ?_|refine aS rfl ?_|refine aB rfl ?_ ?_|refine aW rfl (λ_=>?_) (λ_=>?_)|refine aV rfl (λ_=>?_) (λ_=>?_)
   |((first|refine aA (λ_=>?_) (λ_=>?_)|refine aD (λ_=>?_) (λ_=>?_))<;>try refine sm ?_)
   |refine And.intro trivial ?_
   |refine And.intro asP ?_
   |refine bd rfl (λ_=>?_) (λ_=>?_)
   |refine And.intro ?_ ?_
  exact asU asP asT ⟨k+1,d++[N0 x],_,_,rfl,b,by rw[c.o],i,asQ,rfl,rfl⟩
 .have hke:k=xs.length:=asP;subst hke;have r:¬(xs.length:Int)<(xs.length:Int):=asP;have f:m=d.length:=(by rw[c,j.o,apJ,apQ]);have a:(d.length:Int)<=1000000:=(by rw[<- f,c];exact p);have e:orV xs=N0 (ac4 d):=(by rw[orV,j.o,apJ]);replace e:=hid e;subst f;clear c
  repeat' first
   |refine bG ?_
   | (first|refine bw asR ?_|refine aN asR ?_|refine aQ ?_|refine cS ?_|refine bJ (fun _=>?_)|refine aF ?_|refine bA ?_|refine Xm a ?_|refine VZ ?_|refine bf (Xm a ⟨rfl,rfl⟩) (Xm a ⟨rfl,rfl⟩) ?_|refine bf (VZ ⟨rfl,rfl⟩) (VZ ⟨rfl,rfl⟩) ?_|refine aM (Xm a ⟨rfl,rfl⟩) ?_|refine aM (VZ ⟨rfl,rfl⟩) ?_)
     refine sm ?_
   | (first|refine bq asR ?_|refine bm ?_|refine aP ?_|refine bz ?_|refine bO (aE ?_))
     refine sl ?_
   |exact bK
   |first|apply bL|apply br|apply bM|apply bu|apply bN|apply bv
   |refine aT ?_
   |refine aO ?_
   |first|refine aR rfl ?_|refine aS rfl ?_|refine aB rfl ?_ ?_|refine aW rfl (λ_=>?_) (λ_=>?_)|refine aV rfl (λ_=>?_) (λ_=>?_)
   |((first|refine aA (λ_=>?_) (λ_=>?_)|refine aD (λ_=>?_) (λ_=>?_))<;>try refine sm ?_)
   |refine And.intro trivial ?_
   |refine And.intro asP ?_
   |refine bd rfl (λ_=>?_) (λ_=>?_)
   |refine And.intro ?_ ?_
  refine ac rfl ?_;rw[<- e.o];exact h.o
end Go.Proofs.YtdnfjhflkkpokaaGreatDoor.Av
