/- Joined texts of the walk, made small by a program. -/
import Derived.Test.YtdnfjhflkkpokaaGreatDoorGk14
import Derived.Test.YtdnfjhflkkpokaaGreatDoorGk13
import Derived.Test.YtdnfjhflkkpokaaGreatDoorGk4
import Derived.Test.YtdnfjhflkkpokaaGreatDoorRows
import Derived.KernelRfl
import Derived.Test.YtdnfjhflkkpokaaGreatDoorGk5
import Derived.Test.YtdnfjhflkkpokaaGreatDoorGk11
import Derived.Test.YtdnfjhflkkpokaaGreatDoorGk12
set_option linter.unusedSimpArgs false
set_option linter.unusedVariables false
namespace Go.Proofs.YtdnfjhflkkpokaaGreatDoor.Av
open Go
variable {x y:aC}{dn tn:List Rdn}{ids:List Int}{i rt ib n:Nat}{L' A:List Blk}{wh:AV}{w m s:List AV}{ts:List Typ}{names:List (List UInt8)}{tonly:Bool}{time size id:Int}{out:List Fnd}
set_option maxHeartbeats 8000000
set_option maxRecDepth 100000
theorem agE{a b:List Rdn}(h:NK a=NK b):bj true a=bj true b:=by unfold bj;unfold NK at h;rw[h]
theorem Zo(l:List aC)(i:Int):(iP l i:Int)<=l.length:=by
 unfold iP bE;cases o4 l i with
 |none=>simp
 |some x=>simp only;exact Int.ofNat_le.2 (apk (ap4 _ _) (by simp[d7]))
theorem TOk.parI{suf:List Rdn}{last:Int}{l:List aC}(h:TOk suf last l)(a:x∈l){d:List Rdn}(c:OkD d):x.id=bA l d.tail↔(NK d).tail=NK x.nm:=by
 rw[<- V2];constructor;intro e;unfold bA at e;cases hq:atE l d.tail with
 |none=>rw[hq]at e;have:=(h.ids x a).1;simp only at e;omega
 | some y =>
   rw[hq]at e;obtain⟨_,b,f⟩:=cP hq;rw[h.byI a b e,f]
 intro e;unfold bA;rw[h.at a c.tail e]
section
variable {L:List Blk}{iv mn mi it:Nat}{nb bn:Int->Nat}{ck ci:Nat}{rs:List TKy}{suf:List Rdn}{last:Int}{l:List aC}
theorem aob(m:TOk suf last l)(F:mn≠mi)(bi:l.length<=1000000)(j:L[it]?=some (.cells [.ptr iv 0]))(O:bT L iv mn mi nb bn ck ci rs suf last l){dn tn:List Rdn}{v:AV}(p:dnB dn)(a4:dnB tn){x:aC}(hx:atE l dn=some x)(Q:fY suf l 2 dn tn=0){K:aoY}(h:∀L' w t,bT L' iv mn mi nb bn ck w t suf last (VM l x.id)->L'[it]?=some (.cells [.ptr iv 0])->aZ (OfT iv mn mi nb l) L L'->K (.int .i64 0) L'):
  aoX 34 [.ptr it 0,.agg [.int .i64 2,dnA dn,dnA tn,v]] L K:=by
 obtain⟨G,f,J⟩:=cP hx;have T:bE (d7 l) (NK x.nm)=0:=by unfold fY at Q;rw[if_neg (by decide),if_neg (by decide),hx]at Q;simp only[if_true]at Q;by_cases c:bE (d7 l) (NK x.nm)=0;exact c;rw[if_pos c]at Q;exact absurd Q (by decide)
 obtain⟨u,Z⟩:=m.del f T;have V:bA l dn=x.id:=by unfold bA;rw[hx]
 have Y:=O.toK m;have al:bj true dn=bj true x.nm:=agE J.symm;have hu:∀z∈l,bj true z.nm=bj true x.nm↔z.id=x.id:=λz s=>⟨λe=>by rw[m.byN s f ((kw (m.ok z s) (m.ok x f)).1 e)],λe=>by rw[m.byI s f e]⟩
 obtain⟨j1,a,U⟩:=Y.delk F f hu;obtain⟨j2,v2,ar,P⟩:=U.deln F (by have hn:=m.inv.ids;unfold d7 at hn;rw[apq]at hn;exact hn) f
 have y:=O.v;have I:=O.n;have R:=O.i;have E:iv<L.length:=(aoZ.1 y).1;have C:mn<L.length:=(aoZ.1 I).1;have B:mi<L.length:=(aoZ.1 R).1;have r:it<L.length:=(aoZ.1 j).1;have N:=Y.noIt j;have n1:mi≠it:=λe=>N (.inr (.inr (.inl e.symm)))
 have n2:mn≠it:=λe=>N (.inr (.inl e.symm))
 have n3:=Y.nemi;have n4:=Y.nemn;have av:∀X:List Blk,(L++X)[iv]?=some (.cells [dnA suf,.lmap mn,.lmap mi,.int .i64 last]):=λX=>by rw[ao4 E];exact y
 have a6:∀X:List Blk,(L++X)[it]?=some (.cells [.ptr iv 0]):=λX=>by rw[ao4 r];exact j
 have ai:∀X:List Blk,(L++X)[mi]?=some (.map (rs.map kyA) ci):=λX=>by rw[ao4 B];exact R
 have si:∀(X:List Blk) b,(L++X).set mi b=L.set mi b++X:=λX b=>ap3 _ _ B
 have a':∀(X:List Blk) b,(L.set mi b++X)[iv]?=some (.cells [dnA suf,.lmap mn,.lmap mi,.int .i64 last]):=λX b=>by rw[ao4 (by simpa using E),api (Ne.symm n3)];exact y
 have a9:∀(X:List Blk) b,(L.set mi b++X)[it]?=some (.cells [.ptr iv 0]):=λX b=>by rw[ao4 (by simpa using r),api n1];exact j
 have bk:∀(X:List Blk) b,(L.set mi b++X)[mn]?=some (.map (l.map (gM nb bn)) ck):=λX b=>by rw[ao4 (by simpa using C),api (Ne.symm F)];exact I
 have a_:∀(X:List Blk) b c,(L.set mi b++X).set mn c=(L.set mi b).set mn c++X:=λX b c=>ap3 _ _ (by simpa using C)
 have a8:∀(X:List Blk) (b c d:Blk),((L.set mi b).set mn d++c::X)[L.length]?=some c:=λX b c d=>by rw[ape asp];simp
 have kk1:Hid (∀{X:List Blk}{K:aoY},K (.int .i64 0) (L++X)->aoX 78 [.ptr iv 0,.agg [.int .i64 2,dnA dn,dnA tn,v]] (L++X) K):=@hid _ (by intro X K q;exact ST m aso (O.app X) p a4 (by rw[Q];exact q))
 have kk2:Hid (∀{X:List Blk}{K:aoY},K (.int .i64 x.id) (L++X)->aoX 24 [.ptr iv 0,dnA dn] (L++X) K):=@hid _ (by intro X K q;exact rG p m (O.app X) (by rw[V];exact q))
 have kk3:Hid (Ctr Tryz.prog 58 [dnA dn] (.tup [.str (bj true dn),.int .i64 0])):=@hid _ (by intro L K q;exact Sb p.1 p.2 (by rw[iO G];exact q))
 obtain⟨k,ad⟩:∃k:Blk,k=.cells [.int .i64 2,dnA dn,dnA tn,v]:=⟨_,rfl⟩;obtain⟨A,hA⟩:=aoT ((L.set mi (.map ((rs.map kyA).eraseIdx j1) ci)).set mn (.map ((l.map (gM nb bn)).eraseIdx j2) ck));rw[hA]at P;have a3:A.length=L.length:=by rw[<- hA];simp
 have bb:∀(X:List Blk) (c:Blk),(A++c::X)[L.length]?=some c:=λX c=>by rw[ape aso,a3];simp
 have M:aZ (OfT iv mn mi nb l) L A:=by rw[<- hA];exact(aZ.set L (.inr (.inr (.inl rfl))) _).trans (aZ.set _ (.inr (.inl rfl)) _)
 have H:=P.app [k];have g:(A++[k])[it]?=some (.cells [.ptr iv 0]):=by have ap:it<A.length:=(by rw[<- hA];simpa using r);rw[ao4 ap];exact M.get j N
 have kk4:Hid (∀{K:aoY},(∀L' w t,bT L' iv mn mi nb bn ck w t suf last (VM l x.id)->L'[it]?=some (.cells [.ptr iv 0])->aZ (OfT iv mn mi nb l) L L'->K (.tup []) L')->aoX 80 [.ptr it 0,dnA dn,.int .i64 (-1)] (A++[k]) K):=@hid _ (by
  intro K q;have a5:dn≠[]:=λe=>m.inv.ne (gN f) (by rw[J,e];rfl)
  refine Od p a5 u (λx hx=>⟨x,hx,rfl⟩) (λz s=>(u.ids z s).1) g H aso (λi=>by have:=Zo l i;omega) λL' a2 hb=>?_
  refine q L' _ _ (a2.toT λz s=>?_) (hb.get g (H.noIt g)) (((M.trans (aZ.app A [k])).trans2 hb λi hi=>?_));have a0:z∈l:=(apC.1 s).1;have h1:=Z (NK z.nm);rw[<- m.kidsE a0,J]at h1;have D:=u.parI s G;by_cases hp:(NK dn).tail=NK z.nm;rw[if_pos hp]at h1;rw[if_pos (D.2 hp)];omega;rw[if_neg hp]at h1;rw[if_neg (λe=>hp (D.1 e))];omega;rintro(e|e|e|⟨z,s,e⟩);exact .inl e;exact .inr (.inl e);exact .inr (.inr (.inl e));exact .inr (.inr (.inr ⟨z,(apC.1 s).1,e⟩)))
 have S:bS .str (.str (bj true dn))=true:=rfl;have an:bS .int (.int .i64 x.id)=true:=rfl;rw[<- al]at a;obtain⟨tk,W⟩:=aoT (bj true dn);obtain⟨xi,a1⟩:=aoT (x.id);rw[W]at a kk3 S;rw[a1]at a ar kk2 an h;replace h:=hid h;replace a:=hid a;clear Y U P H M g hu al W y I R j O m u Z T V G Q;have a:=a.o;subst ad;refine aoW fV ?_;intro L' w t q1 q2 q3;replace q1:=hid q1;replace q2:=hid q2;replace q3:=hid q3;refine wk ?_;exact aa (h.o L' _ _ q1.o q2.o q3.o)
theorem aoc(p:TOk suf last l)(R:l.length<=1000000)(d:L[it]?=some (.cells [.ptr iv 0]))(j:bT L iv mn mi nb bn ck ci rs suf last l){dn tn:List Rdn}{v:List Atr}(s:dnB dn)(F:dnB tn)(M:v.length<=1100000)(J:∀a∈v,a.2.length<=1100000){x:aC}(G:atE l dn=some x){K:aoY}(h:∀L',bT L' iv mn mi nb bn ck ci rs suf last (rJ l x.id v)->L'[it]?=some (.cells [.ptr iv 0])->aZ (OfT iv mn mi nb l) L L'->K (.int .i64 0) L'):
  aoX 34 [.ptr it 0,.agg [.int .i64 3,dnA dn,dnA tn,atR v]] L K:=by
 obtain⟨H,e,S⟩:=cP G;have P:fY suf l 3 dn tn=0:=by unfold fY;rw[if_neg (by decide),if_neg (by decide),G];rfl
 have r:bA l dn=x.id:=by unfold bA;rw[G]
 have E:=j.toK p;have A:=E.cha e v;have m:aZ (OfT iv mn mi nb l) L (L.set (nb x.id) (.cells [dnA x.nm,.sl (aD (pth x)) x.nm.length none,atR v,.int .i64 (iP l x.id:Nat)])):=aZ.set L (.inr (.inr (.inr ⟨x,e,rfl⟩))) _;have N:=E.noIt d;have I:bT (L.set (nb x.id) (.cells [dnA x.nm,.sl (aD (pth x)) x.nm.length none,atR v,.int .i64 (iP l x.id:Nat)])) iv mn mi nb bn ck ci rs suf last (rJ l x.id v):=A.toT λz U=>by obtain⟨y,Y,rfl⟩:=ao6.1 U;rw[Zg];have V:(if y.id=x.id then{y with av:=v}else y).id=y.id:=(by split<;>rfl);have Z:(if y.id=x.id then{y with av:=v}else y).nm=y.nm:=(by split<;>rfl);rw[V,Z,p.kidsE Y]
 have c:=h _ (I.app [.cells [.int .i64 3,dnA dn,dnA tn,atR v]]) ((m.trans (aZ.app _ _)).get d N) (m.trans (aZ.app _ _));have i:=j.v;have k:=j.n;have B:iv<L.length:=(aoZ.1 i).1;have t:mn<L.length:=(aoZ.1 k).1;have C:it<L.length:=(aoZ.1 d).1;have f:=E.nd x e;have g:nb x.id<L.length:=(aoZ.1 f).1;unfold dI at f;have av:∀X:List Blk,(L++X)[iv]?=some (.cells [dnA suf,.lmap mn,.lmap mi,.int .i64 last]):=λX=>by rw[ao4 B];exact i
 have T:∀X:List Blk,(L++X)[it]?=some (.cells [.ptr iv 0]):=λX=>by rw[ao4 C];exact d
 have an:∀X:List Blk,(L++X)[mn]?=some (.map (l.map (gM nb bn)) ck):=λX=>by rw[ao4 t];exact k
 have ad:∀X:List Blk,(L++X)[nb x.id]?=some (.cells [dnA x.nm,.sl (aD (pth x)) x.nm.length none,atR x.av,.int .i64 (iP l x.id:Nat)]):=λX=>by rw[ao4 g];exact f
 have Q:∀(X:List Blk) b,(L++X).set (nb x.id) b=L.set (nb x.id) b++X:=λX b=>ap3 _ _ g
 have kk1:Hid (∀{X:List Blk}{K:aoY},K (.int .i64 0) (L++X)->aoX 78 [.ptr iv 0,.agg [.int .i64 3,dnA dn,dnA tn,atR v]] (L++X) K):=@hid _ (by intro X K q;exact ST p aso (j.app X) s F (by rw[P];exact q))
 have kk2:Hid (∀{X:List Blk}{K:aoY},K (.int .i64 x.id) (L++X)->aoX 24 [.ptr iv 0,dnA dn] (L++X) K):=@hid _ (by intro X K q;exact rG s p (j.app X) (by rw[r];exact q))
 have kk3:Hid (Ctr Tryz.prog 60 [atR v] (atR v)):=@hid _ (by intro L K q;exact Ym M J q);have w:bS .int (.int .i64 x.id)=true:=rfl;rcases j.node x.id with⟨D,_⟩|⟨x',n,D,_,_,W,_⟩;rw[p.ent e]at D;cases D;obtain⟨q,O⟩:∃q:Int,(iP l x.id:Nat)=q:=⟨_,rfl⟩;rw[O]at ad c;obtain⟨xi,u⟩:=aoT (x.id);rw[u]at w W kk2 ad Q c;replace h:=hid c;clear c E A m i k d j p r H P u O e D f;unfold atR at kk1 kk3 h⊢;refine aoW fV ?_;exact aa h.o
end
set_option maxHeartbeats 8000000
set_option maxRecDepth 100000
def Sl(l:List aC)(dn:List Rdn):List aC:=l.filter λz => !cA z.nm dn
theorem nw{l:List aC}{z:aC}:z∈Sl l dn↔z∈l/\cA z.nm dn=false:=by unfold Sl;rw[apC];simp
theorem TOk.cut{suf:List Rdn}{last:Int}{l:List aC}(h:TOk suf last l)(n:OkD dn):TOk suf last (Sl l dn):=by
 have sub:∀z∈Sl l dn,z∈l:=λz a=>(nw.1 a).1
 have d:(d7 (Sl l dn)).Sublist (d7 l):=List.filter_sublist.map _;refine⟨h.sok,λz a=>h.ok z (sub z a),⟨h.inv.sne,(d.map _).nodup h.inv.nd,(d.map _).nodup h.inv.ids,λm c=>h.inv.un m (d.subset c),λm c=>?_⟩,λz a=>h.ids z (sub z a)⟩;obtain⟨z,a,rfl⟩:=ao6.1 c;obtain⟨b,g⟩:=nw.1 a;rcases h.inv.par _ (gN b)with e|⟨k,i,e⟩;simp_all;obtain⟨w,j,rfl⟩:=ao6.1 i;refine .inr ⟨_,gN (nw.2 ⟨j,?_⟩),e⟩;cases hu:cA w.nm dn with
 |false=>rfl
 | true =>
   have f:=(cC.1 hu).2.2;simp only at e;rw[e]at f;have:cA z.nm dn=true:=cC.2 ⟨h.ok z b,n,f.trans (arb _)⟩;simp_all
def Zj(l:List aC)(dn tn:List Rdn)(ids:List Int):List aC:=l.map λz=>if z.id∈ids then{z with nm:=iB z.nm dn.length tn}else z
theorem alq(l:List aC)(dn tn:List Rdn):Zj l dn tn []=l:=by unfold Zj;simp
theorem ajc{suf:List Rdn}{last:Int}{l:List aC}(h:TOk suf last l)(dn tn:List Rdn)(a:y∈l)(c:y.id∉ids):nmT (Zj l dn tn ids) y.id (iB y.nm dn.length tn)=Zj l dn tn (ids++[y.id]):=by
 unfold nmT Zj;rw[apq];refine aqj λz b=>?_
 by_cases e:z.id=y.id;have:=h.byI b a e;simp[*]
 grind
theorem amW{l:List aC}(dn tn:List Rdn)(a:y∈l)(b:y.id∉ids):y∈Zj l dn tn ids:=ao6.2 ⟨y,a,if_neg b⟩
theorem alr{l:List aC}(dn tn:List Rdn)(h:∀z∈l,z.id∈ids↔cA z.nm dn=true):Zj l dn tn ids=mX l dn tn:=by unfold Zj mX;simp_all
theorem YQ{l:List aC}{z:aC}(h:z∈mX l dn tn):∃y∈l,y.id=z.id/\z=(if cA y.nm dn=true then{y with nm:=iB y.nm dn.length tn}else y):=by
 obtain⟨y,a,rfl⟩:=ao6.1 h
 grind
theorem aiL{suf:List Rdn}{last:Int}{l:List aC}(h:TOk suf last l){dn tn:List Rdn}(b:OkD dn){y:aC}(a:y∈l):NK (if cA y.nm dn=true then{y with nm:=iB y.nm dn.length tn}else y).nm=ren (NK dn) (NK tn) (NK y.nm):=by by_cases c:cA y.nm dn=true;rw[if_pos c,af9 c];rw[if_neg c,gZ λd=>c (cC.2 ⟨h.ok y a,b,d⟩)]
theorem TOk.movK{suf:List Rdn}{last:Int}{l:List aC}(h:TOk suf last l)(a:anC suf l x dn tn)(b:y∈l):
  (bE (d7 (mX l dn tn)) (NK (if cA y.nm dn=true then{y with nm:=iB y.nm dn.length tn}else y).nm):Int)=(if y.id=bA (mX l dn tn) tn.tail then(if y.id=bA (Sl l dn) dn.tail then(iP l y.id:Int) + -1 else iP l y.id)+1 else(if y.id=bA (Sl l dn) dn.tail then(iP l y.id:Int) + -1 else iP l y.id)):=by
 obtain⟨d,j⟩:=h.mov a;have f:=h.cut a.ok;rw[aiL h a.ok b,j y b,h.kidsE b];have p:y.id=bA (Sl l dn) dn.tail↔NK y.nm=(NK dn).tail:=by
  cases hu:cA y.nm dn with
  |false=>rw[f.parI (nw.2 ⟨b,hu⟩) a.ok];exact eq_comm
  | true =>
    constructor
    .intro e;unfold bA at e;cases hq:atE (Sl l dn) dn.tail with
     |none=>rw[hq]at e;have:=(h.ids y b).1;simp only at e;omega
     | some w =>
       rw[hq]at e;obtain⟨k,m⟩:=nw.1 (cP hq).2.1;have:=h.byI b k e;simp_all
    .intro e;have c:=(cC.1 hu).2.2.length_le;rw[e,aqK]at c;have:NK dn≠[]:=λg=>h.inv.ne (gN a.mem) (by rw[a.nk,g])
     have:=apQ.2 this;omega
 have c2:y.id=bA (mX l dn tn) tn.tail↔NK y.nm=(NK tn).tail:=by have n:(if cA y.nm dn=true then{y with nm:=iB y.nm dn.length tn}else y)∈mX l dn tn:=ao6.2 ⟨y,b,rfl⟩;have c:=d.parI n a.tok;rw[aiL h a.ok b]at c;rw[show(if cA y.nm dn=true then{y with nm:=iB y.nm dn.length tn}else y).id=y.id by split<;>rfl]at c;rw[c];constructor;intro e;by_cases i:NK dn <:+ NK y.nm;obtain⟨w,o⟩:=i;rw[<- o,iN]at e;have:=congrArg List.length e;rw[aqK,apd]at this;have:=apQ.2 (λg=>a.tne (SM.1 g));omega;rw[gZ i]at e;exact e.symm;intro e;rw[e,gZ a.nun]
 grind
section
variable {L:List Blk}{iv mn mi it:Nat}{nb bn:Int->Nat}{ck ci:Nat}{rs:List TKy}{suf:List Rdn}{last:Int}{l lk:List aC}{kd:Int->Int}
theorem bY.lkE(h:bY L iv mn mi nb bn ck ci rs suf last l lk kd){lk':List aC}(e:∀z,z∈lk↔z∈lk'):bY L iv mn mi nb bn ck ci rs suf last l lk' kd :=
 ⟨h.v,h.n,h.i,h.nd,h.inj,h.keys,λk id=>by rw[h.mem k id];exact⟨λ⟨x,b,a⟩=>⟨x,(e x).1 b,a⟩,λ⟨x,b,a⟩=>⟨x,(e x).2 b,a⟩⟩,h.bnd,h.blt⟩
def lkD(l:List aC)(ys:List aC):List aC:=l.filter λz => !ys.any λy=>decide (y.id=z.id)
theorem Of{l a:List aC}{z:aC}:z∈lkD l a↔z∈l/\∀y∈a,y.id≠z.id:=by unfold lkD;simp
theorem ajk(l a:List aC)(y:aC):∀z,z∈VM (lkD l a) y.id↔z∈lkD l (a++[y]):=λz=>by
 unfold VM;rw[apC,Of,Of]
 grind
end
set_option maxHeartbeats 8000000
set_option maxRecDepth 100000
theorem OfT.lt{L:List Blk}{iv mn mi:Nat}{nb bn:Int->Nat}{ck ci:Nat}{rs:List TKy}{suf:List Rdn}{last:Int}{l lk:List aC}{kd:Int->Int}(h:bY L iv mn mi nb bn ck ci rs suf last l lk kd)(b:OfT iv mn mi nb l i):i<L.length:=by rcases b with rfl|rfl|rfl|⟨x,a,rfl⟩;exact(aoZ.1 h.v).1;exact(aoZ.1 h.n).1;exact(aoZ.1 h.i).1;exact(aoZ.1 (h.nd x a)).1
theorem aiB{suf:List Rdn}{last:Int}{l:List aC}(b:TOk suf last l)(x:aC)(s:Int):((scL l x s).map (·.id)).Nodup:=by have a:=b.inv.ids;unfold d7 at a;rw[apq]at a;have:((l.filter (iE x s)).map (·.id)).Nodup:=(List.filter_sublist.map _).nodup a;exact((aqG _ _).map _).nodup_iff.2 this
section
variable {L:List Blk}{iv mn mi it:Nat}{nb bn:Int->Nat}{ck ci:Nat}{rs:List TKy}{suf:List Rdn}{last:Int}{l:List aC}
theorem an5(r:TOk suf last l)(d0:mn≠mi)(ey:l.length<=1000000)(a9:L[it]?=some (.cells [.ptr iv 0]))(hc:bT L iv mn mi nb bn ck ci rs suf last l){dn tn:List Rdn}{v:List Atr}(cB:dnB dn)(d5:dnB tn)(el:v.length<=1100000)(es:∀a∈v,a.2.length<=1100000){x:aC}(hx:atE l dn=some x)(cx:abZ suf l x.id dn tn=0){K:aoY}(h:∀L' c2 C,bT L' iv mn mi nb bn ck c2 C suf last (rJ (mX l dn tn) x.id v)->L'[it]?=some (.cells [.ptr iv 0])->aZ (OfT iv mn mi nb l) L L'->K (.int .i64 0) L'):
  aoX 34 [.ptr it 0,.agg [.int .i64 4,dnA dn,dnA tn,atR v]] L K:=by
 obtain⟨cv,a4,c9⟩:=cP hx;have a0:=r.canM hx cx;have ha:fY suf l 4 dn tn=0:=by unfold fY;rw[if_neg (by decide),if_neg (by decide),hx];exact cx
 have d2:bA l dn=x.id:=by unfold bA;rw[hx]
 have s:=hc.toK r;have cy:=s.noIt a9;have I:=hc.v;have dg:iv<L.length:=(aoZ.1 I).1;have ev:mi<L.length:=(aoZ.1 hc.i).1;have cf:it<L.length:=(aoZ.1 a9).1;have b':¬OfT iv mn mi nb l L.length:=λe=>Nat.lt_irrefl _ (OfT.lt s e)
 have av:∀X:List Blk,(L++X)[iv]?=some (.cells [dnA suf,.lmap mn,.lmap mi,.int .i64 last]):=λX=>by rw[ao4 dg];exact I
 have ej:∀X:List Blk,(L++X)[it]?=some (.cells [.ptr iv 0]):=λX=>by rw[ao4 cf];exact a9
 have kk1:Hid (∀{X:List Blk}{K:aoY},K (.int .i64 0) (L++X)->aoX 78 [.ptr iv 0,.agg [.int .i64 4,dnA dn,dnA tn,.sl (aJ v) v.length none]] (L++X) K):=@hid _ (by intro X K q;exact ST r aso (hc.app X) cB d5 (by rw[ha];exact q))
 have kk2:Hid (∀{X:List Blk}{K:aoY},K (.int .i64 x.id) (L++X)->aoX 24 [.ptr iv 0,dnA dn] (L++X) K):=@hid _ (by intro X K q;exact rG cB r (hc.app X) (by rw[d2];exact q))
 obtain⟨d,bl⟩:=aoT (scL l x 2);have kk3:Hid (∀{X:List Blk}{K:aoY},K (.sl ((d.map (·.id)).map (AV.int .i64)) d.length none) (L++X)->aoX 23 [.ptr iv 0,.int .i64 x.id,.int .i64 2] (L++X) K):=@hid _ (by intro X K q;refine SQ r aso (hc.app X) ?_;rw[acW (r.ent a4),bl,apm];exact q)
 have c3:=afW l x 2;have k:=λy=>Yo (y:=y) r hx
 have a5:=aiB r x 2;rw[bl]at c3 k a5;have V:∀(j:Nat) (y:aC),d[j]?=some y->(((d.map (·.id)).map (AV.int .i64)).getD j .undef=.int .i64 y.id)/\y∈l/\cA y.nm dn=true/\(∀z∈d.take j,z.id≠y.id)/\d.take (j+1)=d.take j++[y]:=λj y hj=>by obtain⟨dk,e⟩:=aoZ.1 hj;have hm:=apR hj;obtain⟨J,T⟩:=(k y).1 hm;refine⟨by simp[hj],J,T,λz f e2=>?_,by rw[aph dk,e]⟩;obtain⟨i,S,e3⟩:=apV.1 f;rw[arF]at e3;rw[aqk]at S;have eq:i<j:=aso;have:=aqb.1 a5 i j (by simp;omega) (by simpa using dk) eq;exact this (by simp[e3,e,e2])
 have ex:=cv.len;obtain⟨O,ec⟩:∃O:Blk,O=.cells [.int .i64 4,dnA dn,dnA tn,.sl (aJ v) v.length none]:=⟨_,rfl⟩;have hu:∀y∈l,∀z∈l,bj true z.nm=bj true y.nm↔z.id=y.id:=λy hy z f=>⟨λe=>by rw[r.byN f hy ((kw (r.ok z f) (r.ok y hy)).1 e)],λe=>by rw[r.byI f hy e]⟩
 have ch:bY (L++[O]) iv mn mi nb bn ck ci rs suf last l (lkD l (d.take 0)) (λid=>(iP l id:Nat)):=(s.app [O]).lkE λz=>by rw[Of];simp
 have cn:aZ (OfT iv mn mi nb l) L (L++[O]):=aZ.app L [O];have co:(L++[O])[L.length]?=some O:=asp;obtain⟨xi,a2⟩:=aoT (x.id);have c4:=a9;unfold atR;rw[a2]at kk2 kk3;replace h:=hid h;replace r:=hid r;replace a0:=hid a0;replace V:=hid V;replace hu:=hid hu;replace k:=hid k;replace ch:=hid ch;replace cn:=hid cn;replace co:=hid co;clear hc s I d2 ha cx bl a5 a9;subst ec;refine aoW fV ?_;have cs:∀{L':List Blk}{C:List TKy}{lk:List aC}{c2:Nat}{l':List aC}{kd:Int->Int},bY L' iv mn mi nb bn ck c2 C suf last l' lk kd->L'[it]?=some (.cells [.ptr iv 0])->L'[L.length]?=some (.cells [.int .i64 4,dnA dn,dnA tn,.sl (aJ v) v.length none])->∀b,(L'.set mi b)[it]?=some (.cells [.ptr iv 0])/\(L'.set mi b)[L.length]?=some (.cells [.int .i64 4,dnA dn,dnA tn,.sl (aJ v) v.length none]):=λs J T b=>⟨by rw[api (λe=>s.noIt J (.inr (.inr (.inl e.symm))))];exact J,by rw[api aso];exact T⟩
 replace cs:=@hid _ @cs;refine ak (λn T' L'=>∃j:Nat,n=d.length-j/\j<=d.length/\Hid (∃C,bY L' iv mn mi nb bn ck ci C suf last l (lkD l (d.take j)) (λid=>(iP l id:Nat)))/\Hid (aZ (OfT iv mn mi nb l) L L')/\L'[L.length]?=some (.cells [.int .i64 4,dnA dn,dnA tn,.sl (aJ v) v.length none])/\L'[it]?=some (.cells [.ptr iv 0])/\T'=[(137,.int .i64 (j:Int)),(136,.int .i64 d.length),(135,.sl ((d.map (·.id)).map (AV.int .i64)) d.length none),(9,.sl ((d.map (·.id)).map (AV.int .i64)) d.length none),(6,.int .i64 xi),(3,.ptr L.length 0),(0,.ptr it 0)]) ass ⟨0,rfl,ao2 _,hid ⟨rs,ch.o⟩,hid cn.o,co.o,by rw[ao4 cf];exact c4,rfl⟩ ?_;rintro _ _ L' ⟨j,rfl,hj,hI,hB,hb,S,rfl⟩;obtain⟨C,s⟩:=hI.o;have b4:L.length+1<=L'.length:=(aoZ.1 hb).1;have I:=s.v;have a':=s.n;have b3:=s.i;by_cases P:j<d.length;have g1:(j:Int)<(d.length:Int):=aso;have g2:=aoV j aso;have U:d[j]?=some d[j]:=ao8 P;obtain⟨y,hy⟩:=aoT (d[j]);rw[hy]at U;obtain⟨e1,p,a3,a1,bi⟩:=V.o j y U;have e2:j<((d.map (·.id)).map (AV.int .i64)).length:=by simpa using P
 obtain⟨j1,d3,an⟩:=s.delk d0 (y:=y) (Of.2 ⟨p,a1⟩) (λz f=>hu.o y p z (Of.1 f).1);have t:=an.lkE (ajk l (d.take j) y);rw[<- bi]at t;obtain⟨b1,b2⟩:=cs.o s S hb (.map ((C.map kyA).eraseIdx j1) ci);have E:=hB.o.trans (aZ.set L' (B:=OfT iv mn mi nb l) (.inr (.inr (.inl rfl))) (.map ((C.map kyA).eraseIdx j1) ci));rcases s.node y.id with⟨f1,_⟩|⟨y',n,f1,_,_,f2,f3,_⟩;rw[r.o.ent p]at f1;cases f1;rw[r.o.ent p]at f1;cases f1;unfold dI at f3;have b0:=r.o.ok y p;have kk4:Hid (Ctr Tryz.prog 58 [dnA y.nm] (.tup [.str (bj true y.nm),.int .i64 0])):=@hid _ (by intro L K q;exact Sb b0.m.b.1 b0.m.b.2 (by rw[iO b0];exact q))
 have c5:bS .str (.str (bj true y.nm))=true:=rfl;have c_:bS .int (.int .i64 y.id)=true:=rfl;obtain⟨tk,ce⟩:=aoT (bj true y.nm);obtain⟨yi,bt⟩:=aoT (y.id);rw[ce]at d3 kk4 c5;rw[bt]at e1 f2 f3 c_ d3;have d4:=hid b4;replace b1:=hid b1;replace b2:=hid b2;replace t:=hid t;replace E:=hid E;clear s an hI hB b0 ce bt p a3 a1 bi U hy kk1 kk2 kk3 av ej b';refine wk ?_;exact ast aso (CutL (b:=by have:=d4.o;simp;omega)) ⟨j+1,rfl,P,hid ⟨_,t.o⟩,hid E.o,b2.o,b1.o,rfl⟩;have c1:j=d.length:=aso;subst c1;have g1:¬(d.length:Int)<(d.length:Int):=aso;rw[apg]at s;have c0:=s.lkE (lk':=Sl l dn) λz=>by
  rw[Of,nw];refine and_congr_right λf=>?_
  constructor;intro e;cases cm:cA z.nm dn with
  |false=>rfl
  |true=>exact absurd rfl (e z ((k.o z).2 ⟨f,cm⟩))
  intro e y hy e2;obtain⟨y1,y2⟩:=(k.o y).1 hy;rw[r.o.byI y1 f e2,e]at y2;cases y2
 have et:=r.o.cut cv;have en:dn≠[]:=λe=>r.o.inv.ne (gN a4) (by rw[c9,e];rfl)
 obtain⟨G,ad⟩:∃G:Int->Int,G=λi=>if i=bA (Sl l dn) dn.tail then(iP l i:Int) + -1 else iP l i:=⟨_,rfl⟩
 have er:∀i,-10000000<=G i/\G i<=10000000:=λi=>by have:=Zo l i;rw[ad];dsimp only;split<;>omega
 have kk4:Hid (∀{K:aoY},(∀L2,Hid (bY L2 iv mn mi nb bn ck ci C suf last l (Sl l dn) G)->Hid (aZ (OfT iv mn mi nb l) L L2)->L2[it]?=some (.cells [.ptr iv 0])->L2[L.length]?=some (.cells [.int .i64 4,dnA dn,dnA tn,.sl (aJ v) v.length none])->K (.tup []) L2)->aoX 80 [.ptr it 0,dnA dn,.int .i64 (-1)] L' K):=@hid _ (by
  intro K q;refine Od cB en et (λz f=>⟨z,(nw.1 f).1,rfl⟩) (λz f=>(r.o.ids z f).1) S c0 aso (λi=>by have:=Zo l i;omega) λL2 t E=>?_
  refine q L2 (hid (by rw[ad];exact t)) (hid (hB.o.trans E)) (E.get S (c0.noIt S)) (E.get hb b'))
 clear c0 s hI hB;have ei:=hid ad;clear ad;refine wk ?_;intro L2 t E c8 cl;clear kk4;clear I a' b3 hb S b4;have b4:L.length+1<=L2.length:=(aoZ.1 cl).1;refine wk ?_;obtain⟨A,g⟩:∃A:aC->aC,A=λy=>{y with nm:=iB y.nm dn.length tn}:=⟨_,rfl⟩
 replace g:=hid g;refine ak (λn T' L3=>∃j:Nat,n=d.length-j/\j<=d.length/\Hid (L2.length<=L3.length)/\Hid (∃N ar,bY L3 iv mn mi nb bn ck N ar suf last (Zj l dn tn ((d.take j).map (·.id))) (Sl l dn++(d.take j).map A) G)/\Hid (aZ (OfT iv mn mi nb l) L L3)/\L3[L.length]?=some (.cells [.int .i64 4,dnA dn,dnA tn,.sl (aJ v) v.length none])/\L3[it]?=some (.cells [.ptr iv 0])/\T'=[(172,.int .i64 (j:Int)),(171,.int .i64 d.length),(170,.sl ((d.map (·.id)).map (AV.int .i64)) d.length none),(6,.int .i64 xi),(3,.ptr L.length 0),(0,.ptr it 0)]) (CutS (b:=ao0 _)) ⟨0,rfl,ao2 _,hid (ao0 _),hid ⟨ci,C,by rw[aqx,aqI,alq,aqI,apG];exact t.o⟩,E,cl,c8,rfl⟩ ?_;rintro _ _ L3 ⟨j,rfl,hj,c',hI,hB,hb,S,rfl⟩;obtain⟨N,ar,s⟩:=hI.o;have cc:L.length+1<=L3.length:=(aoZ.1 hb).1;have I:=s.v;have a':=s.n;have b3:=s.i;clear t E c8 cl b4;by_cases P:j<d.length;have g1:(j:Int)<(d.length:Int):=aso;have g2:=aoV j aso;have U:d[j]?=some d[j]:=ao8 P;obtain⟨y,hy⟩:=aoT (d[j]);rw[hy]at U;obtain⟨e1,p,a3,a1,bi⟩:=V.o j y U;have e2:j<((d.map (·.id)).map (AV.int .i64)).length:=by simpa using P
 have W:y.id∉(d.take j).map (·.id):=λhm=>by obtain⟨z,f,e⟩:=ao6.1 hm;exact a1 z f e
 have cr:=amW dn tn p W;have D:=(r.o.mov a0.o).1;have hZ:A y∈mX l dn tn:=ao6.2 ⟨y,p,by rw[if_pos a3,g.o]⟩;have eg:(A y).id=y.id:=by rw[g.o]
 have cu:∀z∈Sl l dn++(d.take j).map A,bj true z.nm≠bj true (iB y.nm dn.length tn):=λz f e=>by
  have ct:z∈mX l dn tn/\z.id≠y.id:=by rcases ao5.1 f with f|f;obtain⟨J,T⟩:=nw.1 f;refine⟨ao6.2 ⟨z,J,by rw[if_neg (by rw[T];decide)]⟩,λe3=>?_⟩;rw[r.o.byI J p e3,a3]at T;cases T;obtain⟨w,Q,rfl⟩:=ao6.1 f;obtain⟨J,T⟩:=(k.o w).1 (arL Q);refine⟨ao6.2 ⟨w,J,by rw[if_pos T,g.o]⟩,λe3=>?_⟩;rw[show(A w).id=w.id by rw[g.o]]at e3;exact a1 w Q e3
  have e4:NK z.nm=NK (A y).nm:=by rw[show(A y).nm=iB y.nm dn.length tn by rw[g.o]];exact(kw (D.ok z ct.1) (by have:=D.ok _ hZ;rw[g.o]at this;exact this)).1 e
  have:=D.byN ct.1 hZ e4;exact ct.2 (by rw[this,eg])
 have bb:OkD (iB y.nm dn.length tn):=by have:=D.ok _ hZ;rw[g.o]at this;exact this
 obtain⟨Z,al⟩:=aoT (iB y.nm dn.length tn);rw[al]at cu bb;obtain⟨L4,b6⟩:=aoT ((L3.set (nb y.id) (.cells [dnA Z,.sl (aD (NK Z).reverse) Z.length none,atR y.av,.int .i64 (G y.id)])).set mi (.map ((ar++[(bj true Z,y.id,N)]).map kyA) (N+1))++[.cells [.sl (aD (NK Z).reverse) Z.length none]]);obtain⟨ea,an⟩:=s.ren d0 cr cu [.cells [.sl (aD (NK Z).reverse) Z.length none]];rw[b6,<- al,ajc r.o dn tn p W,al]at an;have t:bY L4 iv mn mi nb bn ck (N+1) (ar++[(bj true Z,y.id,N)]) suf last (Zj l dn tn ((d.take (j+1)).map (·.id))) (Sl l dn++(d.take (j+1)).map A) G:=by rw[bi,apz,apz,<- apc];rw[show[y].map A=[{y with nm:=Z}]by rw[g.o,<- al];rfl];exact an
 have a6:aZ (OfT iv mn mi nb l) L3 L4:=by rw[<- b6];exact((aZ.set L3 (B:=OfT iv mn mi nb l) (.inr (.inr (.inr ⟨y,p,rfl⟩))) _).trans (aZ.set _ (.inr (.inr (.inl rfl))) _)).trans (aZ.app _ _)
 have a8:=hid (apk c'.o a6.len);have bs:=a6.get S cy;have bx:=a6.get hb b';have F:=hB.o.trans a6;rcases s.node y.id with⟨f1,_⟩|⟨y',n,f1,f4,f5,f2,f3,_⟩;exact absurd (aqB.1 f1 y cr) asp;have b5:y'=y:=by obtain⟨w,Q,e⟩:=ao6.1 f4;have ep:w.id=y.id:=(by rw[<- f5,<- e];split<;>rfl);have:=r.o.byI Q p ep;subst this;rw[if_neg W]at e;exact e.symm
 rw[b5]at f3;unfold dI at f3;have c6:dn.length<=y.nm.length:=by have:=(cC.1 a3).2.2.length_le;rwa[bC,bC]at this
 have eb:=(r.o.ok y p).len;have kk5:Hid (∀{K:aoY},K (.tup []) L4->aoX 79 [.ptr it 0,.int .i64 y.id,dnA Z] L3 K):=@hid _ (by intro K q;refine aij bb S I a' f2 f3 b3 ea ?_;rw[b6];exact q)
 obtain⟨q,hq⟩:=aoT (y.nm.length-dn.length);have w1:IntKind.i64.wrap ((y.nm.length:Int)-(dn.length:Int))=(q:Int):=by rw[ae aso aso];omega
 have w2:(q:Int)<=(y.nm.length:Int):=aso;have cb:bS .int (.int .i64 y.id)=true:=rfl;have ds:y.nm.take q++tn=Z:=by rw[<- al,<- hq];rfl
 have kk6:Hid (∀{c:Option Nat}{L:List Blk}{K:aoY},K (dnA Z) L->aoX 59 [dnA tn,.sl (List.take q (y.nm.map am)) q c] L K):=@hid _ (by intro c L K u;rw[<- arI];exact agc ds (by rw[aqk];omega) rfl bb.m.b.1 bb.m.b.2 u)
 obtain⟨yi,bt⟩:=aoT (y.id);obtain⟨yn,H⟩:=aoT (y.nm);obtain⟨ya,a_⟩:=aoT (atR y.av);obtain⟨yp,ai⟩:=aoT (aD (pth y));rw[bt]at e1 f2 f3 kk5 cb;rw[H]at f3 kk6 w1 w2;rw[a_,ai]at f3;have ew:=hid cc;replace t:=hid t;replace F:=hid F;replace bs:=hid bs;replace bx:=hid bx;clear s an hI hB a6 b6 cu bb hZ eg D cr W p a3 a1 bi U hy f1 f4 f5 b5 c6 eb hq ds al bt H a_ ai ea;refine wk ?_;exact ast aso (CutL (b:=a8.o)) ⟨j+1,rfl,P,a8,hid ⟨_,_,t.o⟩,hid F.o,bx.o,bs.o,rfl⟩;have c1:j=d.length:=aso;subst c1;have g1:¬(d.length:Int)<(d.length:Int):=aso;rw[apg]at s;have d':Zj l dn tn (d.map (·.id))=mX l dn tn:=alr dn tn λz f=>by constructor;intro hm;obtain⟨w,Q,e⟩:=ao6.1 hm;obtain⟨J,T⟩:=(k.o w).1 Q;rw[<- r.o.byI J f e];exact T;intro ap;exact ao6.2 ⟨z,(k.o z).2 ⟨f,ap⟩,rfl⟩
 rw[d']at s;have d1:=s.lkE (lk':=mX l dn tn) λz=>by rw[ao5];constructor;rintro(f|f);obtain⟨J,T⟩:=nw.1 f;exact ao6.2 ⟨z,J,by rw[if_neg (by rw[T];decide)]⟩;obtain⟨w,Q,rfl⟩:=ao6.1 f;obtain⟨J,T⟩:=(k.o w).1 Q;exact ao6.2 ⟨w,J,by rw[if_pos T,g.o]⟩;intro f;obtain⟨w,Q,_,e⟩:=YQ f;by_cases ap:cA w.nm dn=true;rw[if_pos ap]at e;exact .inr (ao6.2 ⟨w,(k.o w).2 ⟨Q,ap⟩,by rw[e,g.o]⟩);rw[if_neg ap]at e;rw[e];exact .inl (nw.2 ⟨Q,by simpa using ap⟩)
 have D:=(r.o.mov a0.o).1;obtain⟨bo,bk⟩:∃bo:Int->Int,bo=λi=>if i=bA (mX l dn tn) tn.tail then G i+1 else G i:=⟨_,rfl⟩
 have b_:∀i,OfT iv mn mi nb (mX l dn tn) i->OfT iv mn mi nb l i:=λi S=>by rcases S with e|e|e|⟨z,f,e⟩;exact .inl e;exact .inr (.inl e);exact .inr (.inr (.inl e));obtain⟨w,Q,e2,_⟩:=YQ f;exact .inr (.inr (.inr ⟨w,Q,by rw[e,e2]⟩))
 obtain⟨x2,cw⟩:∃x2,x2={x with nm:=iB x.nm dn.length tn}:=⟨_,rfl⟩;have c7:cA x.nm dn=true:=cC.2 ⟨r.o.ok x a4,cv,by rw[c9];exact aq9 _⟩;have Y:x2∈mX l dn tn:=ao6.2 ⟨x,a4,by rw[if_pos c7,cw]⟩;have M:x2.id=xi:=by rw[cw];exact a2
 have kk4:Hid (∀{K:aoY},(∀L4,Hid (bY L4 iv mn mi nb bn ck N ar suf last (mX l dn tn) (mX l dn tn) bo)->Hid (aZ (OfT iv mn mi nb l) L L4)->L4[it]?=some (.cells [.ptr iv 0])->L4[L.length]?=some (.cells [.int .i64 4,dnA dn,dnA tn,.sl (aJ v) v.length none])->K (.tup []) L4)->aoX 80 [.ptr it 0,dnA tn,.int .i64 1] L3 K):=@hid _ (by
  intro K q;refine Od d5 a0.o.tne D (λz f=>⟨z,f,rfl⟩) (λz f=>(D.ids z f).1) S d1 aso er λL4 R F=>?_
  refine q L4 (hid (by rw[bk];exact R)) (hid (hB.o.trans2 F λi _=>b_ i)) (F.get S λe=>cy (b_ _ e)) (F.get hb λe=>b' (b_ _ e)))
 have d_:=hid bk;clear bk s d1 hI hB;refine wk ?_;intro L4 R F bs bx;clear kk4 I a' b3 hb S cc;have I:=R.o.v;have a':=R.o.n;have kk5:Hid (Ctr Tryz.prog 60 [.sl (aJ v) v.length none] (.sl (aJ v) v.length none)):=@hid _ (by intro L K q;exact Ym el es q);rcases R.o.node xi with⟨f1,_⟩|⟨y',n,f1,f4,f5,f2,f3,_⟩;exact absurd (aqB.1 f1 x2 Y) (by simp[M]);have b5:y'=x2:=D.byI f4 Y (by rw[f5,M]);subst b5;unfold dI at f3;rw[M]at f3;have cb:bS .int (.int .i64 xi)=true:=rfl;have ca:=R.o.cha Y v;rw[M]at ca;have cd:=h.o (L4.set (nb xi) (.cells [dnA y'.nm,.sl (aD (pth y')) y'.nm.length none,atR v,.int .i64 (bo xi)])) N ar (by
  rw[<- a2]at ca⊢;refine ca.toT λz f=>?_
  obtain⟨w,Q,rfl⟩:=ao6.1 f;obtain⟨u,cm,e2,e3⟩:=YQ Q;have J:=r.o.movK a0.o cm;rw[Zg];have e4:(if w.id=x.id then{w with av:=v}else w).id=w.id:=(by split<;>rfl);have e5:(if w.id=x.id then{w with av:=v}else w).nm=w.nm:=(by split<;>rfl);rw[e4,e5,d_.o,ei.o];dsimp only;rw[<- e3]at J;rw[<- e2];exact J.symm) (by rw[api (λe=>cy (.inr (.inr (.inr ⟨x,a4,by rw[a2];exact e.symm⟩))))];exact bs) (F.o.trans (aZ.set _ (.inr (.inr (.inr ⟨x,a4,by rw[a2]⟩))) _))
 replace h:=hid cd;unfold atR at h;obtain⟨ya,a_⟩:=aoT (atR y'.av);obtain⟨yp,ai⟩:=aoT (aD (pth y'));obtain⟨yn,H⟩:=aoT (y'.nm);obtain⟨kq,cp⟩:=aoT (bo xi);rw[a_,ai,H,cp]at f3;rw[ai,H,cp]at h;clear cd ca ai a_ H cp f1 f4 f5 R F D b_ Y M c7 cw d' a2;refine wk ?_;exact aa h.o
end
set_option maxHeartbeats 8000000
set_option maxRecDepth 100000
section
variable {L:List Blk}{iv mn mi it:Nat}{nb bn:Int->Nat}{ck ci:Nat}{rs:List TKy}{suf:List Rdn}{last:Int}{l:List aC}
theorem an6(g:TOk suf last l)(j:l.length<=1000000)(a:L[it]?=some (.cells [.ptr iv 0]))(f:bT L iv mn mi nb bn ck ci rs suf last l){k:Int}{dn tn:List Rdn}{v:AV}(c:dnB dn)(d:dnB tn)(i:fY suf l k dn tn≠0){K:aoY}(h:K (.int .i64 (fY suf l k dn tn)) L):
  aoX 34 [.ptr it 0,.agg [.int .i64 k,dnA dn,dnA tn,v]] L K:=by
 have b:it<L.length:=(aoZ.1 a).1;have m:∀X:List Blk,(L++X)[it]?=some (.cells [.ptr iv 0]):=λX=>by rw[ao4 b];exact a
 obtain⟨z,e⟩:=aoT (fY suf l k dn tn);have kk1:Hid (∀{X:List Blk}{K:aoY},K (.int .i64 z) (L++X)->aoX 78 [.ptr iv 0,.agg [.int .i64 k,dnA dn,dnA tn,v]] (L++X) K):=@hid _ (by intro X K q;exact ST g aso (f.app X) c d (by rw[e];exact q))
 rw[e]at i h;replace h:=hid h;clear e f g a;refine aoW fV ?_;exact ac rfl h.o
theorem anM(r:TOk suf last l)(o:mn≠mi)(d:l.length<=1000000)(y:0<=last)(s:last<=1000000)(c:L[it]?=some (.cells [.ptr iv 0]))(q:bT L iv mn mi nb bn ck ci rs suf last l){k:Int}{dn tn:List Rdn}{v:List Atr}(f:dnB dn)(g:dnB tn)(n:v.length<=1100000)(m:∀a∈v,a.2.length<=1100000){K:aoY}(h:∀L' t u z p j,bT L' iv mn mi t u z p j suf (doT suf l last k dn tn v).2 (doT suf l last k dn tn v).1->L'[it]?=some (.cells [.ptr iv 0])->aZ (OfT iv mn mi nb l) L L'->K (.int .i64 (fY suf l k dn tn)) L'):
  aoX 34 [.ptr it 0,.agg [.int .i64 k,dnA dn,dnA tn,atR v]] L K:=by
 by_cases i:fY suf l k dn tn=0;rotate_left;unfold doT at h;rw[if_pos i]at h;exact an6 r d c q f g i (h L _ _ _ _ _ q c (aZ.refl L));unfold doT at h;rw[if_neg (λe=>e i)]at h;rw[i]at h;by_cases w:k=1;subst w;rw[if_pos rfl]at h;exact aod r o d y s c q f g n m i h;rw[if_neg w]at h;have b:=i;unfold fY at b;by_cases A:k<1\/4<k;rw[if_pos A]at b;exact absurd b (by decide);rw[if_neg A,if_neg w]at b;cases hx:atE l dn with
 |none=>rw[hx]at b;simp at b
 | some x =>
   rw[hx]at b;simp only at b;have D:bA l dn=x.id:=(by unfold bA;rw[hx]);rw[D]at h;by_cases C:k=2
   .subst C;rw[if_pos rfl]at h;exact aob r o d c q f g hx i λL' p j=>h L' _ _ _ _ _
   rw[if_neg C]at h b;by_cases B:k=3
   .subst B;rw[if_pos rfl]at h;exact aoc r d c q f g n m hx λL'=>h L' _ _ _ _ _
   rw[if_neg B]at h b;have E:k=4:=aso;subst E;exact an5 r o d c q f g n m hx b λL' p j=>h L' _ _ _ _ _
end
set_option maxHeartbeats 8000000
set_option maxRecDepth 100000
theorem bT.start(L:List Blk)(d:List Rdn):bT (L++[.map [] 0,.map [] 0,.cells [dnA d,.lmap L.length,.lmap (L.length+1),.int .i64 0],.cells [.ptr (L.length+2) 0]]) (L.length+2) L.length (L.length+1) (λ_=>0) (λ_=>0) 0 0 [] d 0 []:=by refine⟨?_,?_,?_,?_,?_,?_,?_,?_⟩;rw[ape aso];simp;rw[ape aso];simp;rw[ape aso];simp;simp;simp;simp;simp;simp
def acG(P:Program)(o:aw)(T:Tm)(L:List Blk)(v:AV)(M:List Blk->Prop):Prop :=
 match o.op with
 | .call f xs=>match jc T xs with
   |some args=>af P f args L λav L'=>av=v/\M L'
   |none=>False
 |_=>False
def EQS(P:Program)(o:aw)(T:Tm)(L:List Blk)(v:AV)(M:List Blk->Prop):Prop :=
 match o.guard with
 |none=>acG P o T L v M
 | some (t,b)=>match ay T t with
   |some (.bool x)=>if x=b then acG P o T L v M else v=.tup []/\M L
   |some (.tup [])=>v=.tup []/\M L
   |_=>False
theorem acG.congr{P:Program}{o:aw}{T T':Tm}{L:List Blk}{v:AV}{M:List Blk->Prop}(b:∀t∈o.op.tmps,ay T t=ay T' t)(a:acG P o T L v M):acG P o T' L v M:=by unfold acG at a⊢;split at a;rename_i f xs e;rw[e]at b;rw[<- jI (l:=xs) b];exact a;omega
theorem EQS.congr{P:Program}{o:aw}{T T':Tm}{L:List Blk}{v:AV}{M:List Blk->Prop}(h:∀t∈o.reads,ay T t=ay T' t)(a:EQS P o T L v M):EQS P o T' L v M:=by
 have c:∀t∈o.op.tmps,ay T t=ay T' t:=λt d=>h t (by simp[aw.reads,d])
 unfold EQS at a⊢;split at a;exact a.congr c;rename_i t b f;rw[<- h t (by simp[aw.reads,f])];split at a;split at a;rename_i e;rw[if_pos e];exact a.congr c;simp[*];omega;omega
theorem acG.aop{P:Program}{o:aw}{T:Tm}{L:List Blk}{v:AV}{M:List Blk->Prop}(a:acG P o T L v M):AOp P o (λT' L'=>T'=di o.dst v T/\M L') T L:=by
 unfold acG at a;unfold AOp;split at a;rename_i f xs e;simp only[e];split at a;rename_i args b;rw[b];exact af.mono a λav L' ⟨c,d⟩=>⟨by rw[c],d⟩
 simp_all;simp_all
theorem EQS.aops{P:Program}{o:aw}{T:Tm}{L:List Blk}{v:AV}{M:List Blk->Prop}(a:EQS P o T L v M):nj P (λT' L'=>T'=di o.dst v T/\M L') [o] T L:=by unfold EQS at a;simp only[nj];split at a;rename_i d;simp only[d];exact a.aop;rename_i t b d;simp only[d];split at a;rename_i x c;rw[c,EB];split at a;rename_i e;rw[if_pos e];exact a.aop;simp[*];rename_i c;rw[c,acE];exact⟨by rw[a.1],a.2⟩;simp_all
section
variable {P:Program}{r:Option Nat}{w0:World}{S0:SB}{N:Nat}{own:Nat->Nat}{ops:Array Oper}{L:List Blk}
end
section
variable {P:Program}{w0:World}{S0:SB}{N:Nat}{own:Nat->Nat->Nat}{Q:Exit->Tm->List Blk->Prop}{T:Tm}{L:List Blk}
end
section
variable {P:Program}{K:Tm->List Blk->Prop}{T:Tm}{d:Option Nat}{op:LOp}{t:Nat}{b:Bool}{r:List (aw×Kd)}{M:List Blk->Prop}{Ms:List (List Blk->Prop)}{v:AV}{c:Prop}
end
set_option maxHeartbeats 8000000
set_option maxRecDepth 100000
def aaf(v:List Atr):Prop:=v.length<=1100000/\∀a∈v,a.2.length<=1100000
theorem ane{suf:List Rdn}{l:List aC}{last k:Int}{v:List Atr}(c:∀x∈l,aaf x.av)(f:aaf v):∀x∈(doT suf l last k dn tn v).1,aaf x.av:=by
 have b:∀(l:List aC) (i:Int),(∀x∈l,aaf x.av)->∀x∈rJ l i v,aaf x.av:=λl i h x a=>by obtain⟨y,e,rfl⟩:=ao6.1 a;split;exact f;exact h y e
 have d:∀x∈mX l dn tn,aaf x.av:=λx a=>by obtain⟨y,e,rfl⟩:=ao6.1 a;split;exact c y e;exact c y e
 unfold doT;split;exact c;split;intro x a;rcases ao5.1 a with a|a;exact c x a;rw[apr.1 a];exact f;split;intro x a;exact c x (apC.1 a).1;split;exact b l _ c;exact b _ _ d
structure aem(L:List Blk)(it iv mn mi rt:Nat)(nb bn:Int->Nat)(ck ci:Nat)(rs:List TKy)(c:Option Nat)(suf:List Rdn)(last:Int)(l:List aC):Prop where
 ok:TOk suf last l
 code:bT L iv mn mi nb bn ck ci rs suf last l
 it:L[it]?=some (.cells [.ptr iv 0])
 rt:L[rt]?=some (.cells [dnA suf,.sl (bD l) l.length c,.int .i64 last])
 ne:mn≠mi
 l0:0<=last
 l1:last<=100
 len:l.length<=100
 av:∀x∈l,aaf x.av
theorem bT.noOf{L:List Blk}{iv mn mi:Nat}{nb bn:Int->Nat}{ck ci:Nat}{rs:List TKy}{suf:List Rdn}{last:Int}{l:List aC}(h:bT L iv mn mi nb bn ck ci rs suf last l){j:Nat}{c:List AV}(b:L[j]?=some (.cells c))(a:c.length≠4\/∃k z r,c=.int k z::r):¬OfT iv mn mi nb l j:=by rintro(e|e|e|⟨x,d,e⟩);rw[e,h.v]at b;simp only[ao1,Blk.cells.injEq]at b;rcases a with a|⟨k,z,r,a⟩;exact a (by rw[<- b];rfl);rw[<- b]at a;simp[dnA]at a;rw[e,h.n]at b;simp at b;rw[e,h.i]at b;simp at b;rw[e,h.nd x d]at b;simp only[ao1,Blk.cells.injEq]at b;rcases a with a|⟨k,z,r,a⟩;exact a (by rw[<- b];rfl);rw[<- b]at a;simp[nf,dnA]at a
theorem bT.keep{L:List Blk}{iv mn mi:Nat}{nb bn:Int->Nat}{ck ci:Nat}{rs:List TKy}{suf:List Rdn}{last:Int}{l:List aC}(h:bT L iv mn mi nb bn ck ci rs suf last l){c:List AV}(d:L[rt]?=some (.cells c))(k:c.length=3)(f:aZ (λi=>i=rt) L L'):bT L' iv mn mi nb bn ck ci rs suf last l:=by
 have no:¬OfT iv mn mi nb l rt:=h.noOf d (.inl aso);have key:∀{i:Nat}{b:Blk},OfT iv mn mi nb l i->L[i]?=some b->L'[i]?=some b:=λ{i b} g e=>f.get e λj=>no (by rw[<- j];exact g)
 exact⟨key (.inl rfl) h.v,key (.inr (.inl rfl)) h.n,key (.inr (.inr (.inl rfl))) h.i,λx a=>key (.inr (.inr (.inr ⟨x,a,rfl⟩))) (h.nd x a),h.keys,h.mem,h.bnd,h.blt⟩
def tR(L L':List Blk):Prop:=L.length<=L'.length/\∀(j:Nat) (c:List AV),L[j]?=some (Blk.cells c)->c.length=2->L'[j]?=some (Blk.cells c)
theorem tR.refl(L:List Blk):tR L L:=⟨ao0 _,λ_ _ h _=>h⟩
theorem tR.app{L:List Blk}(h:tR L L')(X:List Blk):tR L (L'++X):=⟨by have:=h.1;simp;omega,λj c b a=>by have:=h.2 j c b a;rw[ao4 (aoZ.1 this).1];exact this⟩
theorem tR.trans{B C:List Blk}(h:tR A B)(g:tR B C):tR A C:=⟨apk h.1 g.1,λj c b a=>g.2 j c (h.2 j c b a) a⟩
theorem tR.tree{L:List Blk}{iv mn mi:Nat}{nb bn:Int->Nat}{ck ci:Nat}{rs:List TKy}{suf:List Rdn}{last:Int}{l:List aC}(h:tR A L)(d:bT L iv mn mi nb bn ck ci rs suf last l)(a:aZ (OfT iv mn mi nb l) L L'):tR A L':=h.trans ⟨a.len,λj c b e=>a.get b (d.noOf b (.inl aso))⟩
theorem tR.row{L:List Blk}{c0:List AV}(h:tR A L)(d:L[rt]?=some (.cells c0))(f:c0.length=3)(b:aZ (λi=>i=rt) L L'):tR A L':=h.trans ⟨b.len,λj c a g=>b.get a λe=>by subst e;rw[d]at a;cases a;omega⟩
structure afw(u:Upd):Prop where
 dn:Ox u.dn/\∀r∈u.dn,∀a∈r,(a.1.length:Int)<=140737488351232
 tw:Ox u.tw/\∀r∈u.tw,∀a∈r,(a.1.length:Int)<=140737488351232
 attrs:(u.attrs.length:Int)<=9223372036854775807
 names:∀a∈u.attrs,(a.1.length:Int)<=140737488351232/\(a.2.length:Int)<=9223372036854775807
theorem acU{d:List Rdn}(h:smD d=true)(c:∀r∈d,∀a∈r,(a.1.length:Int)<=140737488351232):dnM d:=by simp only[smD,ao3,decide_eq_true_eq,apa]at h;refine⟨aso,λr b=>⟨?_,c r b⟩⟩;have:=h.2 r b;rcases r with _|⟨a,t⟩;simp;simp only[smR,aqd,ao3,smA,decide_eq_true_eq]at this;have:=this.1.1;simp only[apb]at this⊢;omega
theorem anP{u:Upd}(b:afw u)(h:smU u=true):dnM u.dn/\dnM u.tw/\aaf u.attrs:=by simp only[smU,ao3]at h;obtain⟨g,f,d⟩:=h;obtain⟨i,e⟩:=agh d;exact⟨acU g b.dn.2,acU f b.tw.2,aso,λa c=>by have:=(e a c).1;omega⟩
theorem agC(us:List Upd):(us.flatMap rH).length=us.length*4:=by
 induction us with
 |nil=>rfl
 |cons u us ih=>rw[apD,apd,ih,apb];simp only[apb,apJ];omega
theorem acP:∀{us:List Upd}{k:Nat},k<us.length->((us.flatMap rH).drop (k*4)).take 4=rH (us.getD k ai6)
 |u::us,0,_=>by rw[apD];rfl
 |u::us,k+1,h=>by have a:=acP (us:=us) (k:=k) (by simpa using h);rw[apD,ard];show((us.flatMap rH).drop (k*4)).take 4=_;rw[a];rfl
def amF(v:Int×List Rdn):AV:=.tup [.int .i64 v.1,dnA v.2]
theorem ah8{α:Type}{P:List Rdn->Bool}{l:List (Ent α)}{d:List Rdn}(h:¬OkD d):JL P l d=(0,[]):=by
 obtain⟨i,g,a⟩:=SR P d l [];have e:YF P d [] l=[]:=by rcases a with e|⟨y,f,b,_,e⟩;exact e;exact absurd (cC.1 b).1 h
 unfold JL;rw[e,if_neg];intro c;have:d=[]:=by simpa using c.symm
 subst this;exact h OkD.nil
theorem ah9{α:Type}{P:List Rdn->Bool}{l:List (Ent α)}{b:Bool}:wS P l b []=(0,[]):=by cases b<;>rfl
theorem aaP{P:List Rdn->Bool}{l:List aC}{d:List Rdn}{k:Nat}{R:Int×List Rdn}(b:∀x,atE l (d.drop k)=some x->P x.nm=true->False)(f:k<=d.length)(h:wS P l (decide (k=0)) (d.drop k)=R):
  (k+1<=d.length->wS P l (decide (k+1=0)) (d.drop (k+1))=R)/\(k+1=d.length+1->R=(0,[])):=by
 constructor;intro c;have e:d.drop k=d[k]::d.drop (k+1):=apw aso;rw[e]at b h;rw[wS]at h;rw[show decide (k+1=0)=false from by simp,<- h];cases hf:atE l (d[k]::d.drop (k+1))with
 |none=>rfl
 | some x =>
   simp only;by_cases a:P x.nm=true
   .exact(b x hf a).elim
   .rw[if_neg a]
 intro c;rw[aqW aso,ah9]at h;exact h.symm
theorem aaR{P:List Rdn->Bool}{l:List aC}{d:List Rdn}{k:Nat}{R:Int×List Rdn}(e:aej l)(a:atE l (d.drop k)=some x)(b:P x.nm=true)(h:wS P l (decide (k=0)) (d.drop k)=R):
  R=if k=0 then(x.id,[])else(0,x.nm):=by
 cases hs:d.drop k with
 | nil =>
   rw[hs]at a;obtain⟨_,f,c⟩:=cP a;exact absurd (SM.1 (by rw[c];rfl)) (e.ne x f)
 | cons r s =>
   rw[hs]at a h;rw[wS,a]at h;simp only[b,if_true,decide_eq_true_eq]at h;exact h.symm
theorem anL{L:List Blk}{iv mn mi:Nat}{nb bn:Int->Nat}{ck ci:Nat}{rs:List TKy}{suf:List Rdn}{last:Int}{l:List aC}(z:TOk suf last l)(Q:∀x∈l,x.av.length<=1100000/\∀a∈x.av,a.2.length<=1100000)(I:bT L iv mn mi nb bn ck ci rs suf last l){P:List Rdn->Bool}(T:∀x∈l,Hid (∀{K:aoY},K (.bool (P x.nm)) L->aoX 26 [.ptr ib 0,wh,.sl (x.nm.map am) x.nm.length none,.str [],.int .i64 1] L K)){d:List Rdn}{N:Option Nat}(J:dnB d){K:aoY}(h:K (amF (JL P l d)) L):
  aoX 10 [.ptr iv 0,.ptr ib 0,wh,.sl (d.map am) d.length N] L K:=by
 have kk1:Hid (Ctr Tryz.prog 36 [.sl (d.map am) d.length N] (kB (prS d))):=@hid _ (λ{L K} q=>lI J.1 J.2 q);obtain⟨⟨p1,X⟩,B⟩:∃q,prS d=q:=⟨_,rfl⟩;have o1:OkD d↔X=0:=by unfold OkD;rw[B]
 rw[B]at kk1;simp only[kB]at kk1;by_cases S:X=0;have M:=o1.2 S;subst S;rw[<- akG z.nms M]at h;obtain⟨R,H⟩:=aoT (wS P l true d);rw[H]at h;replace h:=hid h;replace H:=hid H;replace Q:=hid Q;replace z:=hid z;replace I:=hid I;replace T:=hid T;have ad:=J.1;have an:IntKind.i64.wrap ((d.length:Int)+1)=(d.length:Int)+1:=ae aso aso;clear B o1;refine aoW wl ?_;refine ak (λm T' L'=>∃k:Nat,m=d.length+1-k/\k<=d.length+1/\Hid (k<=d.length->wS P l (decide (k=0)) (d.drop k)=R)/\Hid (k=d.length+1->R=(0,[]))/\T'=[(26,.int .i64 (k:Int)),(25,.int .i64 ((d.length:Int)+1)),(0,.ptr iv 0),(1,.ptr ib 0),(2,wh),(3,.sl (d.map am) d.length N)]/\L=L') ass ⟨0,rfl,ao2 _,hid (λ_=>H.o),hid (λc=>aso),rfl,rfl⟩ ?_;clear H kk1;rintro _ _ _ ⟨k,rfl,hk,C,n,rfl,rfl⟩;by_cases ai:k<d.length+1;have g1:(k:Int)<(d.length:Int)+1:=aso;have g2:=aoV k aso;have g3:k<=d.length:=aso;have G:dnB (d.drop k):=⟨by simp;omega,λr hr=>J.2 r (List.mem_of_mem_drop hr)⟩;have u:=C.o g3;have g:=C.o g3;obtain⟨s,f⟩:=aoT (d.drop k);have O:s.length=d.length-k:=by rw[<- f];simp
 have W:(d.map am).drop k=s.map am:=by rw[<- f,List.map_drop]
 rw[f]at G u;have kk1:Hid (∀{c:Option Nat}{K:aoY},K (.int .i64 (bA l s)) L->aoX 24 [.ptr iv 0,.sl (s.map am) (d.length-k) c] L K):=@hid _ (λ{c K} q=>by rw[<- O];exact rG G z.o I.o q);have al:List.take (d.length-k) (s.map am)=s.map am:=apA (by simp;omega);obtain⟨id,b⟩:=aoT (bA l s);rw[b]at kk1;by_cases U:id=0;have j:=aaP (P:=P) (λx F _=>by rw[f]at F;have:=z.o.ids x (cP F).2.1;unfold bA at b;rw[F]at b;simp only at b;omega) g3 g;have E:=hid j.1;have D:=hid j.2;clear j;subst U;clear C n u g f b G;refine wk ?_;exact ast aso asr ⟨k+1,rfl,aso,E,D,rfl,rfl⟩;obtain⟨x,F,A,v⟩:∃x,x∈l/\x.id=id/\atE l s=some x:=by
  unfold bA at b;cases hf:atE l s with
  |none=>rw[hf]at b;exact absurd b.symm U
  |some x=>rw[hf]at b;exact⟨x,(cP hf).2.1,b,rfl⟩
 have kk2:Hid (∀{K:aoY},K (.tup [dnA x.nm,atR x.av]) L->aoX 25 [.ptr iv 0,.int .i64 id] L K):=@hid _ (λ{K} q=>YG z.o Q.o I.o (λe=>by rw[<- A,z.o.ent F]at e;cases e) (λy e=>by rw[<- A,z.o.ent F]at e;cases e;exact q));have kk3:=@Hid.o _ T x F;obtain⟨Y,i⟩:=aoT (P x.nm);rw[i]at kk3;have t:atE l (d.drop k)=some x:=by rw[f];exact v
 obtain⟨xi,Z,xv⟩:=x;simp only at kk2 kk3 A;cases Y with
 | false =>
   have j:=aaP (P:=P) (λy V hp=>by rw[f,v]at V;cases V;have:=i.symm.trans hp;cases this) g3 g;have E:=hid j.1;have D:=hid j.2;clear j;clear C n u g f b G v t i;refine wk ?_;exact ast aso asr ⟨k+1,rfl,aso,E,D,rfl,rfl⟩
 | true =>
   by_cases p:k=0
   .have w:=hid (show R=(id,[])by have:=aaR z.o.nms t i g;rw[if_pos p]at this;rw[this,<- A]);have g5:decide ((k:Int)=0)=true:=(by simp[p]);clear C n u g f b G v t i p;refine wk ?_;refine aY ?_;exact aa (by have:=h.o;rw[w.o]at this;exact this)
   .have w:=hid (show R=(0,Z)by have:=aaR z.o.nms t i g;rw[if_neg p]at this;exact this);have g5:decide ((k:Int)=0)=false:=(by simp[p]);clear C n u g f b G v t i p;refine wk ?_;exact aa (by have:=h.o;rw[w.o]at this;exact this)
 have g1:¬(k:Int)<(d.length:Int)+1:=aso;have w:=hid (n.o aso);clear C n;refine wk ?_;refine aY ?_;exact aa (by have:=h.o;rw[w.o]at this;exact this);rw[ah8 (λc=>S (o1.1 c))]at h;replace h:=hid h;clear B o1;refine aoW wl ?_;refine aY ?_;exact aa h.o
variable {L:List Blk}{K:aoY}
def d9:List Rdn:=[[([100,99],[122])]]
theorem acS:OkD d9:=by unfold OkD d9;kernel_rfl
theorem afR(h:K (dnA d9) L):aoX 31 [] L K:=by replace h:=hid h;refine aoW VU ?_;exact aY (aa h.o)
theorem aiy{d:List Rdn}(b:Ox d){L:List Blk}{c0 a c2:Option Nat}{K:aoY}(h:K (.bool (smU ⟨0,d,[],[]⟩)) L):
  aoX 8 [.agg [.int .i64 0,.sl (d.map am) d.length c0,.sl [] 0 a,.sl [] 0 c2]] L K:=by
 refine iK ?_;have:=YL (u:=⟨0,d,[],[]⟩) b ⟨asp,asp⟩ asp asp h;have e:AV.frzL [.agg [.int .i64 0,.sl (d.map am) d.length c0,.sl [] 0 a,.sl [] 0 c2]]=[AV.agg (rH ⟨0,d,[],[]⟩)]:=by simp only[AV.frzL,AV.frz,bB,rH,dnA];rfl
 rw[e];exact this
def Kp(L:List Blk)(i ib:Nat)(w m s b:List AV):Prop:=(L[i]?=some (.cells w)/\w.length=3)/\(L[i+1]?=some (.cells m)/\m.length=5)/\(L[i+2]?=some (.cells s)/\s.length=2)/\(L[ib]?=some (.cells b)/\b.length=2)
theorem Kp.app{L:List Blk}{b:List AV}(h:Kp L i ib w m s b)(X:List Blk):Kp (L++X) i ib w m s b:=by
 obtain⟨⟨k,d⟩,⟨g,z2⟩,⟨f,z3⟩,h4,z4⟩:=h;have a:∀{j:Nat}{c:List AV},L[j]?=some (Blk.cells c)->(L++X)[j]?=some (Blk.cells c):=λe=>aoU e
 exact⟨⟨a k,d⟩,⟨a g,z2⟩,⟨a f,z3⟩,a h4,z4⟩
theorem Kp.tree{L:List Blk}{b:List AV}(h:Kp L i ib w m s b){iv mn mi:Nat}{nb bn:Int->Nat}{ck ci:Nat}{rs:List TKy}{suf:List Rdn}{last:Int}{l:List aC}(d:bT L iv mn mi nb bn ck ci rs suf last l)(o:aZ (OfT iv mn mi nb l) L L'):Kp L' i ib w m s b:=by
 obtain⟨⟨k,f⟩,⟨n,z2⟩,⟨g,z3⟩,h4,z4⟩:=h;have a:∀{j:Nat}{c:List AV},L[j]?=some (Blk.cells c)->c.length≠4->L'[j]?=some (Blk.cells c):=λe z=>o.get e (d.noOf e (.inl z))
 exact⟨⟨a k aso,f⟩,⟨a n aso,z2⟩,⟨a g aso,z3⟩,a h4 aso,z4⟩
theorem Kp.row{L:List Blk}{b:List AV}(h:Kp L i ib w m s b){c:List AV}(k:L[rt]?=some (.cells c))(p:c.length=3)(n:i≠rt)(o:aZ (λj=>j=rt) L L'):Kp L' i ib w m s b:=by
 obtain⟨⟨r,l⟩,⟨g,z2⟩,⟨f,z3⟩,h4,z4⟩:=h;have a:∀{j:Nat}{c:List AV},L[j]?=some (Blk.cells c)->j≠rt->L'[j]?=some (Blk.cells c):=λe z=>o.get e z
 have ne:∀{j:Nat}{d:List AV},L[j]?=some (Blk.cells d)->d.length≠3->j≠rt:=λ{j d} e z q=>by subst q;rw[k]at e;cases e;exact z p
 exact⟨⟨a r n,l⟩,⟨a g (ne g aso),z2⟩,⟨a f (ne f aso),z3⟩,a h4 (ne h4 aso),z4⟩
def ad8(S:List Rdn)(s:List aC×Int)(u:Upd):List aC×Int:=if(wo aN [] u.attrs).2≠0 then s else doT S s.1 s.2 u.kind u.dn u.tw (wo aN [] u.attrs).1
def Fo(S:List Rdn)(us:List Upd):List aC×Int:=us.foldl (ad8 S) ([],0)
def mT(L L':List Blk):Prop:=L.length<=L'.length/\∀(j:Nat) (c:List AV),L[j]?=some (Blk.cells c)->c.length=12->L'[j]?=some (Blk.cells c)
theorem mT.refl(L:List Blk):mT L L:=⟨ao0 _,λ_ _ h _=>h⟩
theorem mT.app{L:List Blk}(h:mT L L')(X:List Blk):mT L (L'++X):=⟨by have:=h.1;simp;omega,λj c b a=>by have:=h.2 j c b a;rw[ao4 (aoZ.1 this).1];exact this⟩
theorem mT.trans{B C:List Blk}(h:mT A B)(g:mT B C):mT A C:=⟨apk h.1 g.1,λj c b a=>g.2 j c (h.2 j c b a) a⟩
def afB(us:List Upd)(adm:List Rdn)(rs:List Rul):Prop:=us.length<=30/\rs.length<=20/\smU ⟨0,adm,[],[]⟩=true/\OkD adm/\SI aN rs=0/\∀u∈us,smU u=true
theorem agk{us:List Upd}{cu:Option Nat}{adm:List Rdn}{ca:Option Nat}{rs:List Rul}{M:Option Nat}(hu:∀u∈us,afw u)(d':(us.length:Int)<=9223372036854775807)(d5:(rs.length:Int)<=9223372036854775807)(a_:∀r∈rs,bI r.at_)(J:Ox adm/\∀r∈adm,∀a∈r,(a.1.length:Int)<=140737488351232){L:List Blk}{K:aoY}(h0:¬afB us adm rs->∀L',K (.tup [.agg [.nilptr,.nilptr,.nilptr,.sl [] 0 (some 0),.sl [] 0 (some 0)],.bool false]) L')(h1:∀L' it iv mn mi rt nb bn ck ci s c last l ib cb,aem L' it iv mn mi rt nb bn ck ci s c d9 last l->L'[ib]?=some (.cells [dnA adm,.sl (jt rs) rs.length cb])->dnM adm->(∀r∈rs,bkE aN r=0)->rs.length<=20->(l,last)=Fo d9 us->us.length<=30->mT L L' ->
   K (.tup [.agg [.ptr it 0,.ptr ib 0,.ptr rt 0,.sl (adm.map am) adm.length ca,.sl (gr rs) rs.length M],.bool true]) L'):
  aoX 7 [.agg [.sl (us.flatMap rH) us.length cu,.sl (adm.map am) adm.length ca,.sl (gr rs) rs.length M]] L K:=by
 obtain⟨sm,W⟩:=aoT (smU ⟨0,adm,[],[]⟩);have kk1:Hid (Ctr Tryz.prog 31 [] (dnA d9)):=@hid _ (λ{L K} q=>afR q);obtain⟨TS,P⟩:=aoT (cU aN);obtain⟨tl,Z⟩:=aoT (aN.length);obtain⟨CS,S⟩:=aoT (abu);have kk2:Hid (Ctr Tryz.prog 15 [] (.agg [.sl TS tl none,.sl CS 9 none])):=@hid _ (λ{L K} q=>afq (by rw[P,S,Z];exact q));have kk3:Hid (∀{L:List Blk}{c1 c2:Option Nat}{K:aoY},K (.bool sm) L->aoX 8 [.agg [.int .i64 0,.sl (adm.map am) adm.length ca,.sl [] 0 c1,.sl [] 0 c2]] L K):=@hid _ (λ{L c1 c2 K} q=>aiy J.1 (by rw[W];exact q));have kA:Hid (us.length<=us.length->dnB adm->rs.length<=20->∀{L:List Blk}{K:aoY},(∀e,e≠0->(¬OkD adm\/SI aN rs≠0)->K (.tup [.nilptr,.int .i64 e]) L)->(OkD adm->SI aN rs=0->∀ib X c,(L++X)[ib]?=some (.cells [dnA adm,.sl (jt rs) rs.length c])->K (.tup [.ptr ib 0,.int .i64 0]) (L++X))->aoX 33 [.agg [.sl TS tl none,.sl CS 9 none],.sl (adm.map am) adm.length ca,.sl (gr rs) rs.length M] L K):=@hid _ (λ_ hd hn {L K} q0 q1=>by rw[<- P,<- S,<- Z];exact ann ⟨ny.1,ny.2.1⟩ hd aso a_ q0 q1);have kM:Hid (∀(l:List Atr) (cap:Option Nat),l.length<=100->(∀a∈l,bI a.1/\a.2.length<=9000)->∀{L:List Blk}{K:aoY},K (.tup [.sl (aJ (wo aN [] l).1) (wo aN [] l).1.length none,.int .i64 (wo aN [] l).2]) L->aoX 14 [.agg [.sl TS tl none,.sl CS 9 none],.sl (aJ l) l.length cap] L K):=@hid _ (λl cap hl hv {L K} q=>by rw[<- P,<- S,<- Z];exact ak8 ny hl hv rfl q);obtain⟨d,hS⟩:=aoT (d9);have ho:OkD d:=by rw[<- hS];exact acS
 have T:d≠[]:=by rw[<- hS];decide
 have an:dnM d:=ho.m;rw[hS]at h1 kk1;have ct:=agC us;have a6:=hid (λk (q:k<us.length)=>acP q);obtain⟨US,b6⟩:=aoT (us.flatMap rH);rw[b6]at ct a6⊢;replace h0:=hid h0;replace h1:=hid h1;replace a_:=hid a_;replace hu:=hid hu;replace W:=hid W;replace J:=hid J;replace P:=hid P;replace S:=hid S;replace Z:=hid Z;replace hS:=hid hS;replace T:=hid T;replace ho:=hid ho;replace an:=hid an;clear b6;refine aoW Fk ?_;refine akM an.o.b (λe=>absurd ho.o e) (λe=>absurd e T.o) λ_ _=>?_
 refine asw ?_;refine amN an.o (λe=>absurd ho.o e) (λe=>absurd e T.o) λ_ _=>?_
 refine sk ?_;by_cases hc:us.length<=30/\rs.length<=20/\sm=true;rotate_left;have q1:(decide ((30:Int)<(us.length:Int)\/(20:Int)<(rs.length:Int)) || !sm)=true:=by rcases sm with _|_;simp;simp only[aqO,aq3,decide_eq_true_eq];simp only[and_true,not_and]at hc;omega
 replace hc:=hid hc;refine wk ?_;exact aa (h0.o (λg=>hc.o ⟨g.1,g.2.1,by rw[<- W.o];exact g.2.2.1⟩) _);obtain⟨c1,c2,rfl⟩:=hc;have q1:decide ((30:Int)<(us.length:Int)\/(20:Int)<(rs.length:Int))=false:=decide_eq_false aso;refine wk ?_;have F:dnM adm:=by have:=W.o;simp only[smU,ao3]at this;exact acU this.1 J.o.2
 replace F:=hid F;clear kk3 q1;refine kA.o (ao0 _) F.o.b c2 (λe he a8=>?_) (λcB hz ib X c bo=>?_);replace a8:=hid a8;refine asw ?_;exact aa (h0.o (λg=>a8.o.elim (λq=>q g.2.2.2.1) λq=>q g.2.2.2.2.1) _);refine asw ?_;have cv:=hid (abB.1 hz);obtain⟨L2,t⟩:=aoT (L++Blk.cells [AV.sl US us.length cu,AV.sl (adm.map am) adm.length ca,AV.sl (gr rs) rs.length M]::Blk.cells [AV.nilptr,AV.nilptr,AV.nilptr,AV.sl [] 0 (some 0),AV.sl [] 0 (some 0)]::Blk.cells [AV.sl TS tl none,AV.sl CS 9 none]::Blk.map [] 0::Blk.map [] 0::Blk.cells [dnA d,AV.lmap (L.length+3),AV.lmap (L.length+3+1),AV.int IntKind.i64 0]::Blk.cells [AV.ptr (L.length+3+2) 0]::Blk.cells [dnA d,AV.sl [] 0 (some 0),AV.int IntKind.i64 0]::X);have b_:Hid (Kp L2 L.length ib [AV.sl US us.length cu,AV.sl (adm.map am) adm.length ca,AV.sl (gr rs) rs.length M] [AV.nilptr,AV.nilptr,AV.nilptr,AV.sl [] 0 (some 0),AV.sl [] 0 (some 0)] [AV.sl TS tl none,AV.sl CS 9 none] [dnA adm,.sl (jt rs) rs.length c]):=hid ⟨⟨by rw[<- t];simp,rfl⟩,⟨by rw[<- t];simp,rfl⟩,⟨by rw[<- t];simp,rfl⟩,by rw[<- bo,<- t];simp,rfl⟩;have cc:Hid (∃nb bn ck ci s c last l,aem L2 (L.length+3+3) (L.length+3+2) (L.length+3) (L.length+3+1) (L.length+7) nb bn ck ci s c d last l/\last<=(0:Nat)/\l.length<=0/\(l,last)=Fo d (us.take 0)):=hid (by have c4:=bT.start (L++[Blk.cells [AV.sl US us.length cu,AV.sl (adm.map am) adm.length ca,AV.sl (gr rs) rs.length M],Blk.cells [AV.nilptr,AV.nilptr,AV.nilptr,AV.sl [] 0 (some 0),AV.sl [] 0 (some 0)],Blk.cells [AV.sl TS tl none,AV.sl CS 9 none]]) d;have a5:=c4.app ([Blk.cells [dnA d,AV.sl [] 0 (some 0),AV.int IntKind.i64 0]]++X);simp only[apd,apb,apJ,apc,apH,apx,ap9,Nat.reduceAdd]at a5;refine⟨λ_=>0,λ_=>0,0,0,[],some 0,0,[],⟨TOk.nil ho.o T.o,?_,?_,?_,aso,arJ _,by decide,asp,asp⟩,arJ _,ao0 _,rfl⟩;rw[<- t];exact a5;rw[<- t,ape aso,show L.length+3+3-L.length=6 by omega];rfl;rw[<- t,ape aso,show L.length+7-L.length=7 by omega];rfl)
 have bb:L.length+8<=L2.length:=by rw[<- t];simp
 have c9:Hid (mT L L2):=hid (by rw[<- t];exact(mT.refl L).app _);replace bb:=hid bb;rw[t];clear t bo kk1 kk2 hz kA cB;refine ak (λm T' L'=>∃j:Nat,m=us.length-j/\j<=us.length/\Hid (mT L2 L')/\Hid (∃nb bn ck ci s c last l,aem L' (L.length+3+3) (L.length+3+2) (L.length+3) (L.length+3+1) (L.length+7) nb bn ck ci s c d last l/\last<=(j:Int)/\l.length<=j/\(l,last)=Fo d (us.take j))/\Hid (Kp L' L.length ib [AV.sl US us.length cu,AV.sl (adm.map am) adm.length ca,AV.sl (gr rs) rs.length M] [AV.nilptr,AV.nilptr,AV.nilptr,AV.sl [] 0 (some 0),AV.sl [] 0 (some 0)] [AV.sl TS tl none,AV.sl CS 9 none] [dnA adm,.sl (jt rs) rs.length c])/\T'=[(70,.int .i64 (j:Int)),(69,.int .i64 us.length),(68,.sl US us.length cu),(9,.ptr ib 0),(7,.ptr (L.length+7) 0),(5,.ptr (L.length+3+3) 0),(4,.ptr (L.length+2) 0),(3,.bool false),(2,.ptr (L.length+1) 0),(1,.ptr L.length 0)]) (CutS (b:=ao0 _)) ⟨0,rfl,ao2 _,hid (mT.refl _),cc,b_,rfl⟩ ?_;clear cc b_;rintro _ _ L' ⟨j,rfl,hj,a1,hM,R,rfl⟩;obtain⟨⟨k1,_⟩,⟨k2,_⟩,⟨k3,_⟩,k4,_⟩:=R.o;by_cases I:j<us.length
 .have j3:(j:Int)<(us.length:Int):=aso;have j4:=aoV j aso;have e4:j*4+4<=US.length:=aso;have e5:=a6.o j I;have hq:=hu.o (us.getD j ai6) (by simp[I]);obtain⟨u,ap⟩:=aoT (us.getD j ai6);rw[ap]at e5 hq;have C:Fo d (us.take (j+1))=ad8 d (Fo d (us.take j)) u:=by have c0:us.take (j+1)=us.take j++[u]:=(by rw[aph I,<- ap];simp[I]);rw[c0,Fo,arn];rfl
  obtain⟨sm,A⟩:=aoT (smU u);have kk1:Hid (Ctr Tryz.prog 8 [.agg (rH u)] (.bool sm)):=@hid _ (by intro L K q;exact YL hq.dn.1 hq.tw.1 hq.attrs (λa J=>(hq.names a J).2) (by rw[A];exact q));obtain⟨N,D⟩:=aoT (L'++[Blk.cells (rH u)]);have a':Hid (Kp N L.length ib _ _ _ _):=hid (by rw[<- D];exact R.o.app _);obtain⟨⟨b1,_⟩,⟨b2,_⟩,⟨b3,_⟩,b4,_⟩:=a'.o;have Y:N[L'.length]?=some (.cells (rH u)):=(by rw[<- D];simp);have dk:=a1.o.1;have d0:=bb.o;have dg:N.length=L'.length+1:=(by rw[<- D];simp);have cw:Hid (sm=false->¬afB us adm rs):=hid (λe g=>by have:=g.2.2.2.2.2 u (by rw[<- ap];simp[I]);rw[A,e]at this;cases this);obtain⟨uk,ud,ut,ua⟩:=u;simp only[rH]at e5 kk1 D Y;clear ap k1 k2 k3 k4;cases sm with
  | false =>
    have bs:∀b,(N.set (L.length+1) b)[L.length+1]?=some b:=λb=>by rw[aqL aso]
    clear hM A hq b4 C;refine wk ?_;exact aa (h0.o (cw.o rfl) _)
  | true =>
    obtain⟨ch,cf,cy⟩:=anP hq A;obtain⟨f1,f2⟩:=agh (show afo ua=true by have:=A;simp only[smU,ao3]at this;exact this.2.2);have kk2:Hid (∀{cap:Option Nat}{L:List Blk}{K:aoY},K (.tup [.sl (aJ (wo aN [] ua).1) (wo aN [] ua).1.length none,.int .i64 (wo aN [] ua).2]) L->aoX 14 [.agg [.sl TS tl none,.sl CS 9 none],.sl (aJ ua) ua.length cap] L K):=@hid _ (λ{cap L K} q=>kM.o ua cap aso (λa J=>⟨(hq.names a J).1,by have:=(f2 a J).1;omega⟩) q);have V:=ajh (ts:=aN) (B:=60) (l:=ua) (out:=[]) (i:=0) asp asp (λa J=>(f2 a J).1);obtain⟨⟨G,code⟩,ar⟩:∃p,wo aN [] ua=p:=⟨_,rfl⟩;rw[ar]at kk2 V;have bl:=hid (λe:code≠0=>(show Fo d (us.take (j+1))=Fo d (us.take j)by rw[C,ad8,ar,if_pos e]));have bk:=hid (λe:code=0=>(show Fo d (us.take (j+1))=doT d (Fo d (us.take j)).1 (Fo d (us.take j)).2 uk ud ut G by rw[C,ad8,ar,if_neg (by simpa using e)]));simp only at V;have w:aaf G:=⟨by have:=V.1;omega,λa J=>by have:=V.2 a J;omega⟩;replace w:=hid w;simp only at kk2;clear ar V f1 f2 A hq cy C;by_cases al:code=0;rotate_left
    .have hK2:=a';have cl:Hid (mT L2 N):=hid (by rw[<- D];exact a1.o.app _);have cx:Hid (∃nb bn ck ci s c last l,aem N (L.length+3+3) (L.length+3+2) (L.length+3) (L.length+3+1) (L.length+7) nb bn ck ci s c d last l/\last<=((j+1:Nat):Int)/\l.length<=j+1/\(l,last)=Fo d (us.take (j+1))):=hid (by obtain⟨nb,bn,ck,ci,s,c,last,l,f,h1,h2,h3⟩:=hM.o;refine⟨nb,bn,ck,ci,s,c,last,l,?_,aso,aso,by rw[bl.o al];exact h3⟩;rw[<- D];exact⟨f.ok,f.code.app _,aoU f.it,aoU f.rt,f.ne,f.l0,f.l1,f.len,f.av⟩)
     clear hM b4 b1 b2 bl bk;refine wk ?_;exact ast aso (CutL (b:=aso)) ⟨j+1,rfl,aso,cl,cx,hK2,rfl⟩
    .subst al;have ai:∀b,(N.set L'.length b)[L'.length]?=some b:=λb=>by rw[aqL aso]
     refine wk ?_;obtain⟨L3,Q⟩:=aoT (N.set L'.length (Blk.cells [AV.int .i64 uk,dnA ud,dnA ut,AV.sl (aJ G) G.length none]));have a9:L3[L'.length]?=some (Blk.cells [AV.int .i64 uk,dnA ud,dnA ut,AV.sl (aJ G) G.length none]):=(by rw[<- Q];exact ai _);obtain⟨nb,bn,ck,ci,s,c',last,l,f,c3,c6,ad⟩:=hM.o;have E:((doT d l last uk ud ut G).1,(doT d l last uk ud ut G).2)=Fo d (us.take (j+1)):=(by rw[bk.o rfl,<- ad]);have bi:aZ (λi=>i=L'.length) N L3:=(by rw[<- Q];exact⟨asp,λi hi hn=>by rw[api aso]⟩);have y:bT N (L.length+3+2) (L.length+3) (L.length+3+1) nb bn ck ci s d last l:=(by rw[<- D];exact f.code.app _);have no:¬OfT (L.length+3+2) (L.length+3) (L.length+3+1) nb l L'.length:=y.noOf Y (.inr ⟨_,_,_,rfl⟩);have key:∀{i:Nat}{b:Blk},OfT (L.length+3+2) (L.length+3) (L.length+3+1) nb l i->N[i]?=some b->L3[i]?=some b:=λ{i b} ho e=>bi.get e λU=>no (by rw[<- U];exact ho)
     have H:bT L3 (L.length+3+2) (L.length+3) (L.length+3+1) nb bn ck ci s d last l:=⟨key (.inl rfl) y.v,key (.inr (.inl rfl)) y.n,key (.inr (.inr (.inl rfl))) y.i,λx hx=>key (.inr (.inr (.inr ⟨x,hx,rfl⟩))) (y.nd x hx),y.keys,y.mem,y.bnd,y.blt⟩;have up:∀{i:Nat}{b:Blk},L'[i]?=some b->L3[i]?=some b:=λ{i b} e=>bi.get (by rw[<- D,ao4 (aoZ.1 e).1];exact e) (by have:=(aoZ.1 e).1;omega)
     have bt:Kp L3 L.length ib _ _ _ _:=⟨⟨up R.o.1.1,R.o.1.2⟩,⟨up R.o.2.1.1,R.o.2.1.2⟩,⟨up R.o.2.2.1.1,R.o.2.2.1.2⟩,up R.o.2.2.2.1,R.o.2.2.2.2⟩;have cs:=f.l1;have ce:=f.len;have O:=up f.rt;have bx:L3.length=L'.length+1:=(by rw[<- Q];simp;omega);obtain⟨d1,d2,d3,d4⟩:=f.ok.done f.l0 uk ud ut G;rw[Q];refine anM f.ok f.ne aso f.l0 aso (up f.it) H ch.b cf.b w.o.1 w.o.2 λL4 cp c7 co c8 b0 q1 q2 q3=>?_
     have ds:L4[L'.length]?=some (Blk.cells [AV.int .i64 uk,dnA ud,dnA ut,AV.sl (aJ G) G.length none]):=q3.get a9 (H.noOf a9 (.inr ⟨_,_,_,rfl⟩));have cd:=bt.tree H q3;have z:=q3.get O (H.noOf O (.inl asp));have a0:mT L2 L4:=⟨by have a3:=q3.len;omega,λj c e1 U=>by have e3:=up (a1.o.2 j c e1 U);exact q3.get e3 (H.noOf e3 (.inl aso))⟩;have kk3:Hid (∀{K:aoY},(∀L5,Hid (∃nb bn ck ci s c last l,aem L5 (L.length+3+3) (L.length+3+2) (L.length+3) (L.length+3+1) (L.length+7) nb bn ck ci s c d last l/\last<=((j+1:Nat):Int)/\l.length<=j+1/\(l,last)=Fo d (us.take (j+1)))->Hid (Kp L5 L.length ib [AV.sl US us.length cu,AV.sl (adm.map am) adm.length ca,AV.sl (gr rs) rs.length M] [AV.nilptr,AV.nilptr,AV.nilptr,AV.sl [] 0 (some 0),AV.sl [] 0 (some 0)] [AV.sl TS tl none,AV.sl CS 9 none] [dnA adm,.sl (jt rs) rs.length c])->Hid (mT L2 L5)->K (.int .i64 (fY d l uk ud ut)) L5)->aoX 35 [.ptr (L.length+7) 0,.agg [.int .i64 uk,dnA ud,dnA ut,.sl (aJ G) G.length none]] L4 K):=@hid _ (by
      intro K q;refine anQ f.ok aso f.l0 aso z ch cf w.o.1 w.o.2 λL5 c5 r1 r2=>?_
      refine q L5 (hid ⟨cp,c7,co,c8,b0,c5,_,_,⟨d1,q1.keep z rfl r2,r2.get q2 λe=>?_,r1,f.ne,Int.le_trans f.l0 d2,aso,aso,ane f.av w.o⟩,aso,aso,E⟩) (hid (cd.row z rfl aso r2)) (hid ?_)
      .rw[e,z]at q2;simp at q2
      .exact⟨by have a2:=r2.len;have:=a0.1;omega,λj c e1 U=>r2.get (a0.2 j c e1 U) λe=>by have e3:=a0.2 j c e1 U;rw[e,z]at e3;cases e3;simp at U⟩)
     clear a0 bl bk ad E bi y no key H up bt cs ce O d1 d2 d3 d4 f c3 c6 cd z q1 q2 q3 Q bx a9 ai D Y b1 b2 b3 b4 a';refine asw ?_;intro L5 cn c_ cm;refine wk ?_;exact ast aso (CutL (b:=cm.o.1)) ⟨j+1,rfl,I,cm,cn,c_,rfl⟩
 have j3:¬(j:Int)<(us.length:Int):=aso;have bs:∀b,(L'.set (L.length+1) b)[L.length+1]?=some b:=λb=>by rw[aqL (aoZ.1 k2).1]
 obtain⟨nb,bn,ck,ci,s,c',last,l,f,_,_,ad⟩:=hM.o;have E:(l,last)=Fo d us:=by rw[ad,apA aso]
 have b':aem (L'.set (L.length+1) (Blk.cells [AV.ptr (L.length+3+3) 0,AV.ptr ib 0,AV.ptr (L.length+7) 0,AV.sl (adm.map am) adm.length ca,AV.sl (gr rs) rs.length M])) (L.length+3+3) (L.length+3+2) (L.length+3) (L.length+3+1) (L.length+7) nb bn ck ci s c' d last l:=by
  have hb:aZ (λi=>i=L.length+1) L' (L'.set (L.length+1) (Blk.cells [AV.ptr (L.length+3+3) 0,AV.ptr ib 0,AV.ptr (L.length+7) 0,AV.sl (adm.map am) adm.length ca,AV.sl (gr rs) rs.length M])):=⟨asp,λi hi hn=>by rw[api aso]⟩;have no:¬OfT (L.length+3+2) (L.length+3) (L.length+3+1) nb l (L.length+1):=f.code.noOf k2 (.inl asp);have key:∀{i:Nat}{b:Blk},OfT (L.length+3+2) (L.length+3) (L.length+3+1) nb l i->L'[i]?=some b->(L'.set (L.length+1) (Blk.cells [AV.ptr (L.length+3+3) 0,AV.ptr ib 0,AV.ptr (L.length+7) 0,AV.sl (adm.map am) adm.length ca,AV.sl (gr rs) rs.length M]))[i]?=some b:=λ{i b} ho e=>hb.get e λU=>no (by rw[<- U];exact ho)
  have h:=f.code;exact⟨f.ok,⟨key (.inl rfl) h.v,key (.inr (.inl rfl)) h.n,key (.inr (.inr (.inl rfl))) h.i,λx hx=>key (.inr (.inr (.inr ⟨x,hx,rfl⟩))) (h.nd x hx),h.keys,h.mem,h.bnd,h.blt⟩,hb.get f.it aso,hb.get f.rt aso,f.ne,f.l0,f.l1,f.len,f.av⟩
 have a4:(L'.set (L.length+1) (Blk.cells [AV.ptr (L.length+3+3) 0,AV.ptr ib 0,AV.ptr (L.length+7) 0,AV.sl (adm.map am) adm.length ca,AV.sl (gr rs) rs.length M]))[ib]?=some (.cells [dnA adm,.sl (jt rs) rs.length c]):=by rw[api (λe=>by rw[e,k4]at k2;cases k2)];exact k4
 have b5:=hid (h1.o _ _ _ _ _ _ _ _ _ _ _ _ _ _ _ _ b' a4 F.o cv.o c2 E c1 (by
  have hk:=c9.o.trans a1.o;exact⟨by have:=hk.1;simp;omega,λj c e1 U=>by have hj:=(aoZ.1 e1).1;rw[api aso];exact hk.2 j c e1 U⟩))
 clear b' a4 f hM k4 R ad E;refine wk ?_;exact aa b5.o
def eF(Q:List UInt8->Bool)(l:List Atr):List Atr:=l.filter λa=>Q a.1
theorem aiA{Q:List UInt8->Bool}{p:AV}{c:Int}{l:List Atr}{v:Option Nat}(E:l.length<=1100000)(y:∀a∈l,a.2.length<=1100000){L:List Blk}{w:List AV}(D:L[ib]?=some (.cells w))(x:Hid (∀a∈l,∀{X:List Blk}{K:aoY},K (.bool (Q a.1)) (L++X)->aoX 26 [.ptr ib 0,wh,p,.str a.1,.int .i64 c] (L++X) K)){K:aoY}(h:K (.sl (aJ (eF Q l)) (eF Q l).length none) L):
  aoX 28 [.ptr ib 0,wh,p,.sl (aJ l) l.length v,.int .i64 c] L K:=by
 replace h:=hid h;refine aoW SH ?_;refine bR (l:=[]) (n:=0) 11 2 rfl (aps 2).symm ?_;refine ak (λm T' L'=>∃(k z:Nat) (C:List AV) (X:List Blk),m=l.length-k/\k<=l.length/\z<=k/\Hid (C=aJ (eF Q (l.take k))/\z=(eF Q (l.take k)).length)/\T'=[(16,.int .i64 (k:Int)),(15,.int .i64 l.length),(14,.sl (aJ l) l.length v),(11,.gsl C z L.length 2),(0,.ptr ib 0),(1,wh),(2,p),(4,.int .i64 c)]/\L'=L++(.spare z 2::X)) ass ⟨0,0,[],[],rfl,ao2 _,ao0 _,hid ⟨rfl,rfl⟩,rfl,rfl⟩ ?_;rintro _ _ _ ⟨k,z,C,X,rfl,B,A,f,rfl,rfl⟩;by_cases d:k<l.length;have g1:(k:Int)<(l.length:Int):=aso;have G:=aoV k aso;have u:=jD d;have F:k*2+2<=(aJ l).length:=by rw[iH];omega
 obtain⟨⟨nm,vs⟩,i⟩:∃a,l.getD k ([],[])=a:=⟨_,rfl⟩;have r:(nm,vs)∈l:=by rw[<- i];simp[d]
 have e:l.take (k+1)=l.take k++[(nm,vs)]:=by rw[aph d,<- i];simp[d]
 have t:=y _ r;rw[i]at u;simp only[atA]at u t;obtain⟨q,j⟩:=aoT (Q nm);have kk1:Hid (∀{X:List Blk}{K:aoY},K (.bool q) (L++X)->aoX 26 [.ptr ib 0,wh,p,.str nm,.int .i64 c] (L++X) K):=@hid _ (λ{X K} a=>x.o (nm,vs) r (by rw[j];exact a));have H:AV.frzL (vs.map AV.str)=vs.map AV.str:=iU vs;have s:eF Q (l.take (k+1))=eF Q (l.take k)++(if q=true then[(nm,vs)]else[]):=by rw[e,eF,eF,ar5];congr 1;simp only[List.filter_cons,List.filter_nil,j]
 cases q with
 | false =>
   have b:=hid (show C=aJ (eF Q (l.take (k+1)))/\z=(eF Q (l.take (k+1))).length by rw[s];simpa using f.o);clear f s e i r j;refine wk ?_;exact ast aso asr ⟨k+1,z,C,_,rfl,d,aso,b,rfl,rfl⟩
 | true =>
   have b:=hid (show C++[.str nm,.sl (vs.map AV.str) vs.length none]=aJ (eF Q (l.take (k+1)))/\z+1=(eF Q (l.take (k+1))).length by rw[s,f.o.1,f.o.2];simp[aJ,atA]);clear f s e i r j;refine wk ?_;exact ast aso asr ⟨k+1,z+1,_,_,rfl,d,aso,b,rfl,rfl⟩
 have g:k=l.length:=aso;have g1:¬(k:Int)<(l.length:Int):=aso;have b:=f.o;rw[g,apg]at b;replace b:=hid b;clear f g d;refine wk ?_;refine aY ?_;simp only[AV.frz];rw[b.o.1,fi,b.o.2];exact ac (by simp only[AV.refs,kk]) h.o
theorem amQ{e:Option Nat}{c2:List AV}{G:Nat}{d:Option Nat}(B:ts.length<=1100000/\∀t∈ts,bI t.1){l:List Atr}{Z:Option Nat}(hl:l.length<=1100000)(hz:∀a∈l,bI a.1/\a.2.length<=1100000){V:Option Nat}(al:names.length<=1100000)(E:∀n∈names,bI n)(Y:Hid (∀{vs:List (List UInt8)}{c:Option Nat},vs.length<=1100000->∀{L:List Blk}{K:aoY},K (.sl (vs.map AV.str) vs.length none) L->aoX 47 [.sl (vs.map AV.str) vs.length c] L K)){L:List Blk}{K:aoY}(h:K (.sl (aJ (iR ts names tonly l)) (iR ts names tonly l).length none) L):
  aoX 17 [.agg [.sl (cU ts) ts.length e,.sl c2 G d],.sl (aJ l) l.length Z,.sl (names.map AV.str) names.length V,.bool tonly] L K:=by
 have s:Hid (∀{n:List UInt8},bI n->∀{L:List Blk}{K:aoY},K (tB (gX ts n)) L->aoX 45 [.agg [.sl (cU ts) ts.length e,.sl c2 G d],.str n] L K):=@hid _ (λ{n} F {L K} q=>acm B.1 B.2 F q);obtain⟨T,I⟩:=aoT (cU ts);obtain⟨U,R⟩:=aoT (ts.length);rw[I,R]at s⊢;replace h:=hid h;replace hz:=hid hz;replace E:=hid E;clear B I R;refine aoW ZW ?_;refine bR (l:=[]) (n:=0) 9 2 rfl (aps 2).symm ?_;rw[show(L++[Blk.cells [.sl T U e,.sl c2 G d]]).length=L.length+1 from by simp];refine ak (λm T' L'=>∃(k z:Nat) (C:List AV) (X:List Blk),m=l.length-k/\k<=l.length/\z<=k/\Hid (C=aJ (iR ts names tonly (l.take k))/\z=(iR ts names tonly (l.take k)).length)/\T'=[(20,.int .i64 (k:Int)),(19,.int .i64 l.length),(18,.sl (aJ l) l.length Z),(9,.gsl C z (L.length+1) 2),(4,.ptr L.length 0),(2,.sl (names.map AV.str) names.length V),(3,.bool tonly)]/\L'=L++(.cells [.sl T U e,.sl c2 G d] :: .spare z 2::X)) ass ⟨0,0,[],[],rfl,ao2 _,ao0 _,hid ⟨rfl,rfl⟩,rfl,asp⟩ ?_;rintro _ _ _ ⟨k,z,C,X,rfl,hk,ai,r,rfl,rfl⟩;by_cases g:k<l.length;have g1:(k:Int)<(l.length:Int):=aso;have g2:=aoV k aso;have e3:=jD g;have e4:k*2+2<=(aJ l).length:=by rw[iH];omega
 obtain⟨⟨nm,vs⟩,W⟩:∃a,l.getD k ([],[])=a:=⟨_,rfl⟩;have hm:(nm,vs)∈l:=by rw[<- W];simp[g]
 have Q:l.take (k+1)=l.take k++[(nm,vs)]:=by rw[aph g,<- W];simp[g]
 have u:=hz.o _ hm;rw[W]at e3;simp only[atA]at e3 u;have kk1:Hid (Ctr Tryz.prog 45 [.agg [.sl T U e,.sl c2 G d],.str nm] (tB (gX ts nm))):=@hid _ (λ{L K} q=>s.o u.1 q);have kk2:Hid (∀{c:Option Nat}{L:List Blk}{K:aoY},K (.sl (vs.map AV.str) vs.length none) L->aoX 47 [.sl (vs.map AV.str) vs.length c] L K):=@hid _ (λ{c L K} q=>Y.o u.2 q);have kk3:Hid (Ctr Tryz.prog 46 [.str nm] (.str (aj nm))):=@hid _ (λ{L K} q=>jB u.1 q);have D:iR ts names tonly (l.take (k+1))=iR ts names tonly (l.take k)++(if acL ts names (nm,vs)=true then[(nm,if tonly then[]else vs)]else[]):=by rw[Q,iR,iR,ar5,apz];congr 1;simp only[List.filter_cons,List.filter_nil];cases acL ts names (nm,vs)<;>cases tonly<;>rfl
 obtain⟨⟨t1,t2,t3,o⟩,A⟩:∃t,(gX ts nm).getD Ef=t:=⟨_,rfl⟩;have ho:opM ts nm=o:=by unfold opM;rw[A]
 obtain⟨ad,H⟩:=aoT ((gX ts nm).isSome);simp only[tB,A,H,tyC]at kk1;have x:acL ts names (nm,vs)=((decide (names=[]) && !o) ||names.any (YE o nm)):=by unfold acL;rw[ho]
 rw[x]at D;have e0:decide ((names.length:Int)=0)=decide (names=[]):=by cases names<;>simp<;>omega
 obtain⟨b0,M⟩:=aoT (decide (names=[]));rw[M]at D e0;obtain⟨fn,v⟩:=aoT (aj nm);rw[v]at kk3;replace D:=hid D;replace v:=hid v;clear x ho A H M W hm Q u;refine wk ?_;refine ak (λm T' L'=>∃(j:Nat) (w:Bool),m=names.length-j/\j<=names.length/\Hid (w=((b0 && !o) ||(names.take j).any (YE o nm)))/\T'=[(41,.int .i64 (j:Int)),(40,.int .i64 names.length),(39,.sl (names.map AV.str) names.length V),(14,.bool w),(12,.ptr (L.length+(X.length+1+1+1)) 0),(11,.ptr (L.length+(X.length+1+1)) 0),(20,.int .i64 (k:Int)),(19,.int .i64 l.length),(18,.sl (aJ l) l.length Z),(9,.gsl C z (L.length+1) 2),(4,.ptr L.length 0),(2,.sl (names.map AV.str) names.length V),(3,.bool tonly)]/\L'=L++(.cells [.sl T U e,.sl c2 G d] :: .spare z 2::(X++[.cells [.str nm,.sl (vs.map AV.str) vs.length none],.cells [.str t1,.int .i64 t2,.bool t3,.bool o]]))) ass ⟨0,_,rfl,ao2 _,hid asp,rfl,rfl⟩ ?_;rintro _ _ _ ⟨j,w,rfl,hj,x,rfl,rfl⟩;by_cases p:j<names.length;have j1:(j:Int)<(names.length:Int):=aso;have j2:=aoV j aso;obtain⟨n,F⟩:=aoT (names.getD j []);have j3:(names.map AV.str).getD j .undef=.str n:=by rw[<- F];simp[p]
 have j4:j<(names.map AV.str).length:=by simpa using p
 have S:n∈names:=by rw[<- F];simp[p]
 have O:=E.o n S;have kk4:Hid (Ctr Tryz.prog 46 [.str n] (.str (aj n))):=@hid _ (λ{L K} q=>jB O q);have P:names.take (j+1)=names.take j++[n]:=by rw[aph p,<- F];simp[p]
 obtain⟨f4,y⟩:=aoT (aj n);have f:(w ||YE o nm n)=((b0 && !o) ||(names.take (j+1)).any (YE o nm)):=by rw[P,arB,x.o,Bool.or_assoc];simp
 rw[y]at kk4;have J:YE o nm n=((decide (n=[42]) && !o) ||((decide (n=[43])&&o) ||decide (f4=fn))):=by unfold YE;rw[y,v.o]
 rw[J]at f;replace f:=hid f;clear x J P S F O y r D;refine wk ?_;exact ast aso asr ⟨j+1,_,rfl,p,hid (by rw[<- f.o];simp only[Bool.or_assoc]),rfl,rfl⟩;have j1:¬(j:Int)<(names.length:Int):=aso;have f:=x.o;rw[apA aso]at f;have i:=D.o;rw[<- f]at i;clear x f D;cases w with
 | false =>
   have b:=hid (show C=aJ (iR ts names tonly (l.take (k+1)))/\z=(iR ts names tonly (l.take (k+1))).length by rw[i];simpa using r.o);clear r i;refine wk ?_;exact ast aso asr ⟨k+1,z,C,_,rfl,g,aso,b,rfl,rfl⟩
 | true =>
   have fv:AV.frzL (vs.map AV.str)=vs.map AV.str:=iU vs;cases tonly with
   | false =>
     have b:=hid (show C++[.str nm,.sl (vs.map AV.str) vs.length none]=aJ (iR ts names false (l.take (k+1)))/\z+1=(iR ts names false (l.take (k+1))).length by rw[i,r.o.1,r.o.2];simp[aJ,atA]);clear r i;refine wk ?_;exact ast aso asr ⟨k+1,z+1,_,_,rfl,g,aso,b,rfl,rfl⟩
   | true =>
     have b:=hid (show C++[.str nm,.sl [] 0 none]=aJ (iR ts names true (l.take (k+1)))/\z+1=(iR ts names true (l.take (k+1))).length by rw[i,r.o.1,r.o.2];simp[aJ,atA]);clear r i;refine wk ?_;exact ast aso asr ⟨k+1,z+1,_,_,rfl,g,aso,b,rfl,rfl⟩
 have N:k=l.length:=aso;have g1:¬(k:Int)<(l.length:Int):=aso;have b:=r.o;rw[N,apg]at b;replace b:=hid b;clear r N g;refine wk ?_;refine aY ?_;simp only[AV.frz];rw[b.o.1,fi,b.o.2];exact ac (by simp only[AV.refs,kk]) h.o
abbrev anY(x:Fnd):List AV:=[dnA x.1,.sl (aJ x.2) x.2.length none]
def lL(l:List Fnd):List AV:=l.flatMap anY
theorem ET(a:Fnd)(l:List Fnd):lL (a::l)=dnA a.1 :: .sl (aJ a.2) a.2.length none::lL l:=rfl
theorem ahA(l m:List Fnd):lL (l++m)=lL l++lL m:=by simp[lL]
theorem ahz(l:List Fnd):(lL l).length=l.length*2:=by
 induction l with
 |nil=>rfl
 |cons a l ih=>rw[ET];simp only[apb];omega
theorem ES(p:Nat->Bool):∀l:List Fnd,AV.refsL p (lL l)=true
 |[]=>rfl
 |a::l=>by rw[ET];simp[AV.refsL,AV.refs,dnA,fD,kk p,ES p l]
theorem Oj:∀l:List Fnd,AV.frzL (lL l)=lL l
 |[]=>rfl
 |a::l=>by rw[ET];simp only[AV.frzL,AV.frz,dnA,bB,fi,Oj l]
abbrev CX(Q:List Blk)(f:FuncId)(A:List AV)(v:AV):Prop:=∀{X:List Blk}{K:aoY},K v (Q++X)->aoX f A (Q++X) K
variable {α:Type}
theorem ain{f:α->Option Fnd}{x:α}{l:List α}(h:0<time/\time<=((n/100:Nat):Int)):srL f time size n out (x::l)=(out,3):=by rw[srL,if_pos h]
theorem aip{f:α->Option Fnd}{x:α}{l:List α}(h:¬(0<time/\time<=((n/100:Nat):Int)))(a:f x=none):srL f time size n out (x::l)=srL f time size (n+1) out l:=by rw[srL,if_neg h,a]
theorem aiq{f:α->Option Fnd}{x:α}{l:List α}{y:Fnd}(h:¬(0<time/\time<=((n/100:Nat):Int)))(a:f x=some y)(b:0<size/\(out.length:Int)=size):srL f time size n out (x::l)=(out,4):=by rw[srL,if_neg h,a];simp only[if_pos b]
theorem aio{f:α->Option Fnd}{x:α}{l:List α}{y:Fnd}(h:¬(0<time/\time<=((n/100:Nat):Int)))(a:f x=some y)(b:¬(0<size/\(out.length:Int)=size)):srL f time size n out (x::l)=srL f time size (n+1) (out++[y]) l:=by rw[srL,if_neg h,a];simp only[if_neg b]
def srA(r:List Fnd×Int×List Rdn):AV:=.tup [.sl (lL r.1) r.1.length none,.int .i64 r.2.1,dnA r.2.2]
def scE(l:List aC)(id s:Int):List aC:=match o4 l id with|some a=>scL l a s|none=>[]
theorem JQ{l:List aC}{P:List Rdn->List UInt8->Int->Bool}{T:List Atr->Int}{base:List Rdn}{scope:Int}:Ft ts l P T base scope names tonly size time =
 if scope<0\/2<scope\/size<0\/time<0 then([],2,[])else if ¬OkD base then([],34,[])else if(JL (P · [] 1) l base).1=0 then([],32,(JL (P · [] 1) l base).2)else((srL (VH ts P T names tonly) time size 0 [] (scE l (JL (P · [] 1) l base).1 scope)).1,(srL (VH ts P T names tonly) time size 0 [] (scE l (JL (P · [] 1) l base).1 scope)).2,[]):=rfl
theorem afX{l:List aC}{s:Int}(h:¬(s<0\/2<s)):scT l id s=(scE l id s).map (·.id):=by
 unfold scT scE;cases o4 l id with
 |none=>rfl
 |some a=>simp only[if_neg h]
theorem Yp{l:List aC}{s:Int}(h:x∈scE l id s):x∈l:=by
 unfold scE at h;cases hx:o4 l id with
 |none=>rw[hx]at h;cases h
 | some a =>
   rw[hx]at h;simp only[scL,List.mem_mergeSort,apC]at h;exact h.1
theorem abM{l:List aC}{s:Int}:(scE l id s).length<=l.length:=by
 unfold scE;cases o4 l id with
 |none=>simp
 |some a=>simp only[scL,ar6];exact ap4 _ _
theorem ams{g:AV}{L:List Blk}{K:aoY}(h:K (.bool false) L):aoX 51 [.sl [] 0 (some 0),g] L K:=by
 have kk1:Hid (Ctr Tryz.prog 97 [.sl [] 0 (some 0),g] (.int .i64 (-1))):=@hid _ (λ{L K} h=>by replace h:=hid h;refine aoW o7 ?_;refine ak (λm T' L'=>m=0/\T'=[(8,.int .i64 0),(7,.int .i64 0)]/\L=L') ass ⟨rfl,rfl,rfl⟩ ?_;rintro _ _ _ ⟨rfl,rfl,rfl⟩;refine wk ?_;exact aa h.o)
 replace h:=hid h;refine aoW lQ ?_;exact aa h.o
theorem acV{w:Option Nat}{c2:List AV}{n2:Nat}{D:Option Nat}(a3:ts.length<=1100000/\∀t∈ts,bI t.1){iv mn mi:Nat}{nb bn:Int->Nat}{ck ci:Nat}{rs:List TKy}{suf:List Rdn}{last:Int}{l:List aC}(ht:TOk suf last l)(a5:l.length<=1100000)(G:∀x∈l,x.av.length<=1100000/\∀a∈x.av,bI a.1/\a.2.length<=1100000){base:List Rdn}{cb:Option Nat}(U:dnB base){scope f0:Int}{f1 f2:List UInt8}{f3 f4:AV}{cn:Option Nat}(a_:names.length<=1100000)(a6:∀n∈names,bI n){P:List Rdn->List UInt8->Int->Bool}{T:List Atr->Int}{bk:List AV}(a2:Hid (∀{vs:List (List UInt8)}{c:Option Nat},vs.length<=1100000->∀{L:List Blk}{K:aoY},K (.sl (vs.map AV.str) vs.length none) L->aoX 47 [.sl (vs.map AV.str) vs.length c] L K)){L:List Blk}(hc:bT L iv mn mi nb bn ck ci rs suf last l)(a8:L[ib]?=some (.cells bk))(hP:Hid (∀x∈l,∀n,bI n->∀r,r=1\/r=2\/r=4->∀{X:List Blk}{K:aoY},K (.bool (P x.nm n r)) (L++X)->aoX 26 [.ptr ib 0,wh,.sl (x.nm.map am) x.nm.length none,.str n,.int .i64 r] (L++X) K))(hT:Hid (∀x∈l,∀{X:List Blk}{K:aoY},K (.int .i64 (T (eF (λn=>P x.nm n 4) x.av))) (L++X)->aoX 27 [.agg [.sl (cU ts) ts.length w,.sl c2 n2 D],.agg [.int .i64 f0,.str f1,.str f2,f3,f4],.sl (aJ (eF (λn=>P x.nm n 4) x.av)) (eF (λn=>P x.nm n 4) x.av).length none] (L++X) K)){K:aoY}(h:K (srA (Ft ts l P T base scope names tonly size time)) L):
  aoX 21 [.ptr iv 0,.agg [.sl (cU ts) ts.length w,.sl c2 n2 D],.ptr ib 0,.agg [wh,.sl (base.map am) base.length cb,.int .i64 scope,.int .i64 f0,.str f1,.str f2,f3,f4,.sl (names.map AV.str) names.length cn,.bool tonly,.int .i64 size,.int .i64 time],.sl [] 0 (some 0)] L K:=by
 have kk1:Hid (Ctr Tryz.prog 36 [.sl (base.map am) base.length cb] (kB (prS base))):=@hid _ (λ{L K} q=>lI U.1 U.2 q);obtain⟨⟨p1,e1⟩,an⟩:∃q,prS base=q:=⟨_,rfl⟩;have o1:OkD base↔e1=0:=by unfold OkD;rw[an]
 rw[an]at kk1;simp only[kB]at kk1;have kk2:Hid (CX L 10 [.ptr iv 0,.ptr ib 0,wh,.sl (base.map am) base.length cb] (amF (JL (P · [] 1) l base))):=@hid _ (λ{X K} q=>anL ht (λx d=>⟨(G x d).1,λa M=>((G x d).2 a M).2⟩) (hc.app X) (λx d=>@hid _ (λ{K} q=>hP.o x d [] (by simp[bI]) 1 (.inl rfl) q)) U q);have kk3:Hid (∀{id:Int}{X:List Blk}{K:aoY},K (.sl ((scT l id scope).map (AV.int .i64)) (scT l id scope).length none) (L++X)->aoX 23 [.ptr iv 0,.int .i64 id,.int .i64 scope] (L++X) K):=@hid _ (λ{id X K} q=>SQ ht a5 (hc.app X) q);have hE:Hid (∀x∈l,∀{X:List Blk}{K:aoY},K (.tup [dnA x.nm,.sl (aJ x.av) x.av.length none]) (L++X)->aoX 25 [.ptr iv 0,.int .i64 x.id] (L++X) K):=@hid _ (λx d {X K} q=>YG ht (λx d=>⟨(G x d).1,λa M=>((G x d).2 a M).2⟩) (hc.app X) (λe=>by rw[ht.ent d]at e;cases e) (λy e=>by rw[ht.ent d]at e;cases e;exact q));have hS:Hid (∀x∈l,∀r,r=2\/r=4->∀{X:List Blk}{K:aoY},K (.sl (aJ (eF (λn=>P x.nm n r) x.av)) (eF (λn=>P x.nm n r) x.av).length none) (L++X)->aoX 28 [.ptr ib 0,wh,.sl (x.nm.map am) x.nm.length none,.sl (aJ x.av) x.av.length none,.int .i64 r] (L++X) K):=@hid _ (λx d r hr {X K} q=>aiA (Q:=λn=>P x.nm n r) (G x d).1 (λa M=>((G x d).2 a M).2) (aoU a8) (@hid _ (λa M {Y K} q=>by rw[apc]at q⊢;exact hP.o x d a.1 ((G x d).2 a M).1 r (.inr hr) q)) q);have a1:Hid (∀x∈l,∀{i:List Atr},(∀a∈i,a∈x.av)->i.length<=x.av.length->∀{L:List Blk}{K:aoY},K (.sl (aJ (iR ts names tonly i)) (iR ts names tonly i).length none) L->aoX 17 [.agg [.sl (cU ts) ts.length w,.sl c2 n2 D],.sl (aJ i) i.length none,.sl (names.map AV.str) names.length cn,.bool tonly] L K):=@hid _ (λx d i h1 J {L K} q=>amQ a3 (apk J (G x d).1) (λa M=>(G x d).2 a (h1 a M)) a_ a6 a2 q);obtain⟨V,hV⟩:=aoT (JL (P · [] 1) l base);have hs:Ft ts l P T base scope names tonly size time=if scope<0\/2<scope\/size<0\/time<0 then([],2,[])else if e1≠0 then([],34,[])else if V.1=0 then([],32,V.2)else((srL (VH ts P T names tonly) time size 0 [] (scE l V.1 scope)).1,(srL (VH ts P T names tonly) time size 0 [] (scE l V.1 scope)).2,[]):=by rw[JQ,hV];simp only[o1,ne_eq]
 rw[hs]at h;rw[hV]at kk2;obtain⟨vi,vn⟩:=V;simp only[amF]at kk2 h;obtain⟨TS,a0⟩:=aoT (cU ts);obtain⟨tl,a4⟩:=aoT (ts.length);rw[a0,a4]at a1 hT⊢;replace h:=hid h;replace G:=hid G;clear an o1 hs hV a0 a4 a3 a6 U a2;refine ab Wt (by simp[wz]) ?_;simp only[wz,ag];by_cases c0:((scope<0\/2<scope)\/size<0)\/time<0;have J:=hid (show K (srA ([],2,[])) L by have:=h.o;rw[if_pos aso]at this;exact this);have g0:decide (((scope<0\/2<scope)\/size<0)\/time<0)=true:=decide_eq_true c0;clear h c0;refine wk ?_;exact aY (ac rfl J.o);have g0:decide (((scope<0\/2<scope)\/size<0)\/time<0)=false:=decide_eq_false c0;have c1:¬(scope<0\/2<scope):=aso;have F:¬(scope<0\/2<scope\/size<0\/time<0):=aso;by_cases ce:e1=0;rotate_left;have J:=hid (show K (srA ([],34,[])) L by have:=h.o;rw[if_neg F,if_pos ce]at this;exact this);have g1:decide (e1=0)=false:=decide_eq_false ce;clear h c0 c1 F ce;refine wk ?_;exact aY (ac rfl J.o);by_cases cv:vi=0;have J:=hid (show K (srA ([],32,vn)) L by have:=h.o;rw[if_neg F,if_neg (by simpa using ce),if_pos cv]at this;exact this);have g1:decide (e1=0)=true:=decide_eq_true ce;have g2:decide (vi=0)=true:=decide_eq_true cv;clear h c0 c1 F ce cv;refine wk ?_;refine aY ?_;simp only[AV.frz,AV.frzL,dnA,bB];exact ac (by simp[AV.refs,AV.refsL,fD]) J.o;have g1:decide (e1=0)=true:=decide_eq_true ce;have g2:decide (vi=0)=false:=decide_eq_false cv;obtain⟨SL,I⟩:=aoT (scE l vi scope);have hm:∀x∈SL,x∈l:=λx d=>Yp (by rw[I];exact d)
 have hn:SL.length<=1100000:=by rw[<- I];exact apk abM a5
 obtain⟨R,p⟩:=aoT (srL (VH ts P T names tonly) time size 0 [] SL);have J:=hid (show K (srA (R.1,R.2,[])) L by have:=h.o;rw[if_neg F,if_neg (by simpa using ce),if_neg cv,I,p]at this;exact this);obtain⟨Z,H⟩:=aoT ((SL.map λx=>AV.int .i64 x.id));have kk4:Hid (CX L 23 [.ptr iv 0,.int .i64 vi,.int .i64 scope] (.sl Z SL.length none)):=@hid _ (λ{X K} q=>kk3.o (by rw[afX c1,I,apm,apq,<- H]at *;exact q));have bb:Hid (∀k,k<SL.length->Z.getD k .undef=.int .i64 (SL.getD k default).id/\k<Z.length):=hid (λk hk=>by rw[<- H];exact⟨by simp[hk],by simpa using hk⟩);replace hm:=hid hm;replace p:=hid p;have bo:=@ams;clear h kk3 c0 c1 F ce cv I H;refine wk ?_;refine bR (l:=[]) (n:=0) 17 2 rfl (aps 2).symm ?_;rw[show ∀A B:Blk,(L++[A,B]).length=L.length+2 from λA B=>by simp];refine ak (λm T' L'=>∃(k:Nat) (out:List Fnd) (C:List AV) (z:Nat) (X:List Blk),m=SL.length-k/\k<=SL.length/\z<=k/\Hid (srL (VH ts P T names tonly) time size k out (SL.drop k)=R)/\Hid (C=lL out/\z=out.length)/\T'=[(69,.int .i64 (k:Int)),(68,.int .i64 SL.length),(67,.sl Z SL.length none),(17,.gsl C z (L.length+2) 2),(8,.ptr (L.length+1) 0),(6,.ptr L.length 0),(0,.ptr iv 0),(2,.ptr ib 0),(4,.sl [] 0 (some 0))]/\L'=L++(.cells [.sl TS tl w,.sl c2 n2 D] :: .cells [wh,.sl (base.map am) base.length cb,.int .i64 scope,.int .i64 f0,.str f1,.str f2,f3,f4,.sl (names.map AV.str) names.length cn,.bool tonly,.int .i64 size,.int .i64 time] :: .spare z 2::X)) ass ⟨0,[],[],0,[],rfl,ao2 _,ao0 _,hid (by simpa using p.o),hid ⟨rfl,rfl⟩,rfl,asp⟩ ?_;clear p kk1 kk2 kk4;rintro _ _ _ ⟨k,out,C,z,X,rfl,hk,bs,hI,S,rfl,rfl⟩;by_cases s:k<SL.length;have j1:(k:Int)<(SL.length:Int):=aso;have j2:=aoV k aso;obtain⟨j3,j4⟩:=bb.o k s;have kk1:Hid (∀{g:AV}{L:List Blk}{K:aoY},K (.bool false) L->aoX 51 [.sl [] 0 (some 0),g] L K):=@hid _ (λ{g L K} q=>ams q);obtain⟨x,d⟩:=aoT (SL.getD k default);rw[d]at j3;have u:x∈l:=hm.o x (by rw[<- d];simp[s]);have ar:SL.drop k=x::SL.drop (k+1):=by rw[apw s,<- d];simp[s]
 have b:=hI.o;rw[ar]at b;clear hI ar d;obtain⟨q,hq⟩:∃q:Int,((k/100:Nat):Int)=q:=⟨_,rfl⟩;have j5:IntKind.i64.wrap ((k:Int).tdiv 100)=q:=by rw[<- hq,Int.tdiv_eq_ediv_of_nonneg aso];exact ae aso aso
 by_cases j:0<time/\time<=q;have p:=ain (f:=VH ts P T names tonly) (size:=size) (out:=out) (x:=x) (l:=SL.drop (k+1)) (by rw[hq];exact j);rw[p]at b;subst b;have g3:decide (0<time/\time<=q)=true:=decide_eq_true j;clear p j hq;obtain⟨rfl,rfl⟩:=S.o;refine wk ?_;refine aY ?_;simp only[AV.frz,AV.frzL,Oj];exact ac (by simp[AV.refs,AV.refsL,ES]) J.o;have g3:decide (0<time/\time<=q)=false:=decide_eq_false j;rw[<- hq]at j;replace j:=hid j;have a':=G.o x u;have kk2:=@hid _ (@Hid.o _ hE x u);have kk3:=@hid _ (@Hid.o _ hP x u [] (by simp[bI]) 1 (.inl rfl));have kk4:=@hid _ (@Hid.o _ hS x u 4 (.inr rfl));have kk5:=@hid _ (@Hid.o _ hT x u);have kk6:=@hid _ (@Hid.o _ hS x u 2 (.inl rfl));have kk7:=@hid _ (@Hid.o _ a1 x u (eF (λn=>P x.nm n 2) x.av) (λa M=>(apC.1 M).1) (ap4 _ _));have N:VH ts P T names tonly x=if(P x.nm [] 1&&decide (T (eF (λn=>P x.nm n 4) x.av)=1))=true then some (x.nm,iR ts names tonly (eF (λn=>P x.nm n 2) x.av))else none:=rfl
 obtain⟨pb,al⟩:=aoT (P x.nm [] 1);obtain⟨A4,ap⟩:=aoT (eF (λn=>P x.nm n 4) x.av);obtain⟨A2,ad⟩:=aoT (eF (λn=>P x.nm n 2) x.av);obtain⟨W,hW⟩:=aoT (iR ts names tonly A2);obtain⟨tv,ai⟩:=aoT (T A4);rw[al,ap,ad,ai,hW]at N;rw[al]at kk3;rw[ap]at kk4 kk5;rw[ai]at kk5;rw[ad]at kk6 kk7;rw[hW]at kk7;obtain⟨xi,xn,xv⟩:=x;simp only[dnA]at kk2 kk3 kk4 kk5 kk6 kk7 N j3;clear hq a' al ap ad hW ai u;by_cases v:pb=true/\tv=1;obtain⟨rfl,rfl⟩:=v;rw[if_pos asp]at N;have O:=S.o.2;by_cases E:0<size/\(z:Int)=size;have p:=aiq (l:=SL.drop (k+1)) j.o N (size:=size) (out:=out) (by rw[<- O];exact E);rw[p]at b;subst b;have g4:decide (0<size/\(z:Int)=size)=true:=decide_eq_true E;clear p N E O;obtain⟨rfl,rfl⟩:=S.o;refine wk ?_;refine aY ?_;simp only[AV.frz,AV.frzL,Oj];exact ac (by simp[AV.refs,AV.refsL,ES]) J.o;have p:=aio (l:=SL.drop (k+1)) j.o N (size:=size) (out:=out) (by rw[<- O];exact E);rw[p]at b;have g4:decide (0<size/\(z:Int)=size)=false:=decide_eq_false E;have bi:Hid (C++[.sl (xn.map am) xn.length none,.sl (aJ W) W.length none]=lL (out++[(xn,W)])/\z+1=(out++[(xn,W)]).length):=hid (by rw[S.o.1,S.o.2,ahA];simp[lL,anY,dnA]);replace b:=hid b;have bt:=bB xn;have bl:=fi W;clear p N E O S;refine wk ?_;exact ast aso asr ⟨k+1,_,_,z+1,_,rfl,s,aso,b,bi,rfl,rfl⟩;rw[if_neg (by simpa using v)]at N;have p:=aip (l:=SL.drop (k+1)) j.o N (size:=size) (out:=out);rw[p]at b;replace b:=hid b;clear p N;cases pb with
 | false =>
   clear v;refine wk ?_;exact ast aso asr ⟨k+1,_,_,z,_,rfl,s,aso,b,S,rfl,rfl⟩
 | true =>
   have g4:decide (tv=1)=false:=(by simpa using v);clear v;refine wk ?_;exact ast aso asr ⟨k+1,_,_,z,_,rfl,s,aso,b,S,rfl,rfl⟩
 have a9:k=SL.length:=aso;have j1:¬(k:Int)<(SL.length:Int):=aso;have b:=hI.o;rw[aqE aso,srL]at b;subst b;clear hI a9 s;obtain⟨rfl,rfl⟩:=S.o;refine wk ?_;refine aY ?_;simp only[AV.frz,AV.frzL,Oj];exact ac (by simp[AV.refs,AV.refsL,ES]) J.o
def awU:List Upd:=[⟨1,d9,[],[]⟩,⟨1,[([99,110],[97])]::d9,[],[([99,110],[[97]])]⟩]
def awR:List Rul:=[⟨0,[],[],[],7,true⟩]
def awE:List aC:=[⟨1,d9,[]⟩,⟨2,[([99,110],[97])]::d9,[([99,110],[[97]])]⟩]
theorem al1:Fo d9 awU=(awE,2):=asq
theorem akd:afB awU [] awR:=⟨by decide,by decide,asq,by unfold OkD;kernel_rfl,asq,λu a=>by have:awU.all smU=true:=asq;exact apa.1 this u a⟩
def awP(ent:List Rdn)(n:List UInt8)(r:Int):Bool:=aje [] awR [] ent n r
theorem ak2{suf:List Rdn}{last:Int}{l:List aC}(b:TOk suf last l)(id s:Int):scE l id s=match o4 l id with|some a=>ajr [] (l.filter (iE a s))|none=>[]:=by
 unfold scE;cases o4 l id with
 |none=>rfl
 |some a=>simp only[b.ins]
theorem aon{last:Int}(a:TOk d9 last awE):Ft aN awE awP (λ_=>1) d9 2 [] false 1 0=([(d9,[])],4,[]):=by
 rw[JQ,ak2 a]
 kernel_rfl
theorem aom{last:Int}(a:TOk d9 last awE):Ft aN awE awP (λ_=>1) d9 1 [] false 0 0=([([([99,110],[97])]::d9,[([99,110],[[97]])])],0,[]):=by kernel_rfl
def aed:Int->List Int->Int
 |o,[]=>o
 |o,v::r=>if v=0 then 0 else if v=1 then aed o r else aed 2 r
def acz(l:List Int):Int:=aed 1 l
def Nr(v:Int):Int:=if v=0 then 1 else if v=1 then 0 else 2
def orV(l:List Int):Int:=Nr (acz (l.map Nr))
end Go.Proofs.YtdnfjhflkkpokaaGreatDoor.Av
set_option maxRecDepth 100000
namespace Go.Proofs.YtdnfjhflkkpokaaGreatDoor.Av
open Go
def Pp:LSO:=[Ac 2 0]
def Po:LSO:=[Ac 3 1]
def Pn:LSO:=[Aa 6 0,Ah 7 6,Ac 8 0]
def Pm:LSO:=[Al 9 8 7]
def Pl:LSO:=[Am 10 1 6 8,Ab 11 1 10,Aa 5 11]
def Pk:LSO:=[Aa 13 5,An 14 13 0,Aa 12 14]
def Pj:LSO:=[Ac 2 0]
def Pi:LSO:=[Aa 16 5,AB 17 16 1,Aa 15 17]
def Ph:LSO:=[Ac 3 2]
def Pg:LSO:=[Ai 18 8 1,Aa 8 18]
def J2:LSO:=[Aa 19 3,Aa 2 19]
def NI:aK:=⟨20,(ash Pp [] (ash Po [] (.seq (ash Pn [] (ask 0 (ash Pm [] (.seq (asl 9 0) (.seq (.block 1 (ash Pl C6 (.block 2 (ash Pk C6 (asi 12 (ash Pj [] .ret) (ash Pi C6 (asi 15 (.sreg Ph []) .skip))))))) (.sreg Pg C4)))))) (ash J2 C4 .ret)))),[(.tmp 2)]⟩
attribute [push_cast] Pp Po Pn Pm Pl Pk Pj Pi Ph Pg J2
theorem ZT:asm 64=asn NI:=asq
def To:LSO:=[Ac 2 0]
def Tn:LSO:=[Ak 3]
def Tl:LSO:=[Aa 6 0,Ah 7 6,Ac 8 0]
def Tk:LSO:=[Al 9 8 7]
def Tj:LSO:=[Am 10 1 6 8,Ab 11 1 10,Aa 5 11]
def Ti:LSO:=[Aa 12 3,Aa 13 5,Aj 14 66 13,Cu 15 14,o1 16 (.app 1 1 8 [(.int .i64 0)] (tm 12) (tm 15)),Aa 3 16]
def Th:LSO:=[Ai 17 8 1,Aa 8 17]
def Tg:LSO:=[Aa 18 3,Aj 19 64 18,Aj 20 66 19,Aa 2 20]
def Sn:aK:=⟨21,(ash To [] (ash Tn [] (.seq (ash Tl [] (ask 0 (ash Tk [] (.seq (asl 9 0) (.seq (.block 1 (ash Tj C6 (.sreg Ti CB))) (.sreg Th C4)))))) (ash Tg C7 .ret)))),[(.tmp 2)]⟩
attribute [push_cast] To Tn Tl Tk Tj Ti Th Tg
theorem aaB:asm 65=asn Sn:=asq
def Pf:LSO:=[Ac 2 0]
def Pe:LSO:=[Aa 3 0]
def Pd:LSO:=[An 5 3 0,Aa 4 5]
def Pb:LSO:=[Ac 2 1]
def Pa:LSO:=[An 7 3 1,Aa 6 7]
def O9:LSO:=[Ac 2 0]
def O8:LSO:=[Ac 2 2]
def NH:aK:=⟨8,(ash Pf [] (.seq (ash Pe [] (.block 0 (ash Pd C4 (asi 4 (ash Pb [] .ret) (ash Pa C4 (asj 6 (.sreg O9 []))))))) (ash O8 [] .ret))),[(.tmp 2)]⟩
attribute [push_cast] Pf Pe Pd Pb Pa O9 O8
theorem ZS:asm 66=asn NH:=asq
variable {L:List Blk}{K:aoY}
set_option maxHeartbeats 8000000
set_option maxRecDepth 100000
theorem Vw{v:Int}(h:K (.int .i64 (Nr v)) L):aoX 66 [.int .i64 v] L K:=by
 refine ab ZS (by simp[NH]) ?_;simp only[NH,ag]
 repeat' first
  |refine bH ?_
  | (first|refine bv asq ?_|refine aP asq ?_|refine aS ?_|refine cT ?_|refine bJ (fun _=>?_)|refine aH ?_|refine bz ?_)
    refine sm ?_
  | (first|refine bp asq ?_|refine bm ?_|refine aR ?_|refine bw ?_|refine bP (aG ?_))
    refine sl ?_
  |exact bL
  |first|apply bM|apply bq|apply bN|apply br|apply bO|apply bu
  |refine aV ?_
  |refine aQ ?_
  |first|refine aT rfl ?_|refine aU rfl ?_|refine aB rfl ?_ ?_|refine aX rfl (λ_=>?_) (λ_=>?_)|refine aW rfl (λ_=>?_) (λ_=>?_)
  |((first|refine aA (λ_=>?_) (λ_=>?_)|refine aE (λ_=>?_) (λ_=>?_))<;>try refine sm ?_)
  |refine And.intro trivial ?_
  |refine And.intro aso ?_
  |refine be rfl (λ_=>?_) (λ_=>?_)
  |refine And.intro ?_ ?_
 all_goals (first|refine ac rfl (Kto h ?_)|refine aa (Kto h ?_)|refine ac (by simp only[AV.refs,AV.refsL, *];rfl) (Kto h ?_)|refine aY (ac rfl (Kto h ?_))|(trace_state;fail))
 all_goals (first|(simp[Nr, *];done)|(simp[Nr, *];omega)|(simp[Nr, *];intros;omega)|(simp_all[Hid,Nr];done)|(simp_all[Hid,Nr];omega))
theorem aos{xs:List Int}{cap:Option Nat}(l:(xs.length:Int)<=1000000)(h:K (.int .i64 (acz xs)) L):aoX 64 [.sl (xs.map (AV.int .i64)) xs.length cap] L K:=by
 replace h:=hid h;refine ab ZT (by simp[NI]) ?_;simp only[NI,ag]
 repeat' first
  |refine bH ?_
  | (first|refine bv asq ?_|refine aP asq ?_|refine aS ?_|refine cT ?_|refine bJ (fun _=>?_)|refine aH ?_|refine bz ?_)
    refine sm ?_
  | (first|refine bp asq ?_|refine bm ?_|refine aR ?_|refine bw ?_|refine bP (aG ?_))
    refine sl ?_
  |exact bL
  |first|apply bM|apply bq|apply bN|apply br|apply bO|apply bu
  |refine aV ?_
  |refine aQ ?_
  |first|refine aT rfl ?_|refine aU rfl ?_|refine aB rfl ?_ ?_|refine aX rfl (λ_=>?_) (λ_=>?_)|refine aW rfl (λ_=>?_) (λ_=>?_)
  |((first|refine aA (λ_=>?_) (λ_=>?_)|refine aE (λ_=>?_) (λ_=>?_))<;>try refine sm ?_)
  |refine And.intro trivial ?_
  |refine And.intro aso ?_
  |refine be rfl (λ_=>?_) (λ_=>?_)
  |refine And.intro ?_ ?_
 refine ak (λn T' L'=>∃(k:Nat) (o:Int),n=xs.length-k/\k<=xs.length/\Hid (aed o (xs.drop k)=acz xs)/\T'=[(8,.int .i64 (k:Int)),(7,.int .i64 xs.length),(6,.sl (xs.map (AV.int .i64)) xs.length cap),(3,.int .i64 o),(2,.int .i64 0)]/\L'=L) ass ⟨0,1,rfl,ao2 _,hid rfl,rfl,rfl⟩ ?_;rintro _ _ _ ⟨k,o,rfl,j,a,rfl,rfl⟩;by_cases b:k<xs.length
 .have i:(k:Int)<(xs.length:Int):=aso;have m:=aoV k aso;obtain⟨x,c⟩:=aoT (xs[k]);have d:xs.drop k=x::xs.drop (k+1):=(by rw[apw b,c]);have p:(xs.map (AV.int .i64)).getD k .undef=.int .i64 x:=(by rw[abl b,c]);have g:k<(xs.map (AV.int .i64)).length:=(by simpa using b);have a:=a.o;rw[d]at a;simp only[aed]at a;by_cases e:x=0
  .rw[if_pos e]at a;replace a:=hid a;clear c d
   repeat' first
    |refine bH ?_
    | (first|refine bv asq ?_|refine aP asq ?_|refine aS ?_|refine cT ?_|refine bJ (fun _=>?_)|refine aH ?_|refine bz ?_)
      refine sm ?_
    | (first|refine bp asq ?_|refine bm ?_|refine aR ?_|refine bw ?_|refine bP (aG ?_))
      refine sl ?_
    |exact bL
    |first|apply bM|apply bq|apply bN|apply br|apply bO|apply bu
    |refine aV ?_
    |refine aQ ?_
    |first|refine aT rfl ?_|refine aU rfl ?_|refine aB rfl ?_ ?_|refine aX rfl (λ_=>?_) (λ_=>?_)|refine aW rfl (λ_=>?_) (λ_=>?_)
    |((first|refine aA (λ_=>?_) (λ_=>?_)|refine aE (λ_=>?_) (λ_=>?_))<;>try refine sm ?_)
    |refine And.intro trivial ?_
    |refine And.intro aso ?_
    |refine be rfl (λ_=>?_) (λ_=>?_)
    |refine And.intro ?_ ?_
   refine aa ?_;have h:=h.o;rw[<- a.o]at h;exact h
  .rw[if_neg e]at a;by_cases f:x=1
   .rw[if_pos f]at a;replace a:=hid a;clear c d
    repeat' first
     |refine bH ?_
     | (first|refine bv asq ?_|refine aP asq ?_|refine aS ?_|refine cT ?_|refine bJ (fun _=>?_)|refine aH ?_|refine bz ?_)
       refine sm ?_
     | (first|refine bp asq ?_|refine bm ?_|refine aR ?_|refine bw ?_|refine bP (aG ?_))
       refine sl ?_
     |exact bL
     |first|apply bM|apply bq|apply bN|apply br|apply bO|apply bu
     |refine aV ?_
     |refine aQ ?_
     |first|refine aT rfl ?_|refine aU rfl ?_|refine aB rfl ?_ ?_|refine aX rfl (λ_=>?_) (λ_=>?_)|refine aW rfl (λ_=>?_) (λ_=>?_)
     |((first|refine aA (λ_=>?_) (λ_=>?_)|refine aE (λ_=>?_) (λ_=>?_))<;>try refine sm ?_)
     |refine And.intro trivial ?_
     |refine And.intro aso ?_
     |refine be rfl (λ_=>?_) (λ_=>?_)
     |refine And.intro ?_ ?_
    exact ast aso ass ⟨k+1,o,rfl,b,a,rfl,rfl⟩
   .rw[if_neg f]at a;replace a:=hid a;clear c d
    repeat' first
     |refine bH ?_
     | (first|refine bv asq ?_|refine aP asq ?_|refine aS ?_|refine cT ?_|refine bJ (fun _=>?_)|refine aH ?_|refine bz ?_)
       refine sm ?_
     | (first|refine bp asq ?_|refine bm ?_|refine aR ?_|refine bw ?_|refine bP (aG ?_))
       refine sl ?_
     |exact bL
     |first|apply bM|apply bq|apply bN|apply br|apply bO|apply bu
     |refine aV ?_
     |refine aQ ?_
     |first|refine aT rfl ?_|refine aU rfl ?_|refine aB rfl ?_ ?_|refine aX rfl (λ_=>?_) (λ_=>?_)|refine aW rfl (λ_=>?_) (λ_=>?_)
     |((first|refine aA (λ_=>?_) (λ_=>?_)|refine aE (λ_=>?_) (λ_=>?_))<;>try refine sm ?_)
     |refine And.intro trivial ?_
     |refine And.intro aso ?_
     |refine be rfl (λ_=>?_) (λ_=>?_)
     |refine And.intro ?_ ?_
    exact ast aso ass ⟨k+1,2,rfl,b,a,rfl,rfl⟩
 .have hke:k=xs.length:=aso;subst hke;have i:¬(xs.length:Int)<(xs.length:Int):=aso;have a:=a.o;rw[apM]at a;replace a:=hid (show o=acz xs from a)
  repeat' first
   |refine bH ?_
   | (first|refine bv asq ?_|refine aP asq ?_|refine aS ?_|refine cT ?_|refine bJ (fun _=>?_)|refine aH ?_|refine bz ?_)
     refine sm ?_
   | (first|refine bp asq ?_|refine bm ?_|refine aR ?_|refine bw ?_|refine bP (aG ?_))
     refine sl ?_
   |exact bL
   |first|apply bM|apply bq|apply bN|apply br|apply bO|apply bu
   |refine aV ?_
   |refine aQ ?_
   |first|refine aT rfl ?_|refine aU rfl ?_|refine aB rfl ?_ ?_|refine aX rfl (λ_=>?_) (λ_=>?_)|refine aW rfl (λ_=>?_) (λ_=>?_)
   |((first|refine aA (λ_=>?_) (λ_=>?_)|refine aE (λ_=>?_) (λ_=>?_))<;>try refine sm ?_)
   |refine And.intro trivial ?_
   |refine And.intro aso ?_
   |refine be rfl (λ_=>?_) (λ_=>?_)
   |refine And.intro ?_ ?_
  refine aa ?_;rw[a.o];exact h.o
theorem WO{xs:List Int}{i:Nat}(a:(xs.length:Int)<=1000000)(h:K (.int .i64 (acz xs)) L):aoX 64 [.gsl (xs.map (AV.int .i64)) xs.length i 1] L K :=
 iK (by simpa only[AV.frzL,AV.frz,Wm]using aos (cap:=none) a h)
theorem aoI{xs:List Int}{cap:Option Nat}(p:(xs.length:Int)<=1000000)(h:K (.int .i64 (orV xs)) L):aoX 65 [.sl (xs.map (AV.int .i64)) xs.length cap] L K:=by
 replace h:=hid h;refine ab aaB (by simp[Sn]) ?_;simp only[Sn,ag]
 repeat' first
  |refine bH ?_
  | (first|refine bv asq ?_|refine aP asq ?_|refine aS ?_|refine cT ?_|refine bJ (fun _=>?_)|refine aH ?_|refine bz ?_)
    refine sm ?_
  | (first|refine bp asq ?_|refine bm ?_|refine aR ?_|refine bw ?_|refine bP (aG ?_))
    refine sl ?_
  |exact bL
  |first|apply bM|apply bq|apply bN|apply br|apply bO|apply bu
  |refine aV ?_
  |refine aQ ?_
  |first|refine aT rfl ?_|refine aU rfl ?_|refine aB rfl ?_ ?_|refine aX rfl (λ_=>?_) (λ_=>?_)|refine aW rfl (λ_=>?_) (λ_=>?_)
  |((first|refine aA (λ_=>?_) (λ_=>?_)|refine aE (λ_=>?_) (λ_=>?_))<;>try refine sm ?_)
  |refine And.intro trivial ?_
  |refine And.intro aso ?_
  |refine be rfl (λ_=>?_) (λ_=>?_)
  |refine And.intro ?_ ?_
 refine bR (l:=[]) (n:=0) 3 1 rfl (aps 1).symm ?_;refine ak (λn T' L'=>∃(k:Nat) (d:List Int) (v:List AV) (m:Nat),n=xs.length-k/\k<=xs.length/\m=k/\Hid (d=(xs.take k).map Nr)/\v=d.map (AV.int .i64)/\T'=[(8,.int .i64 (k:Int)),(7,.int .i64 xs.length),(6,.sl (xs.map (AV.int .i64)) xs.length cap),(3,.gsl v m L.length 1),(2,.int .i64 0)]/\L'=L++[.spare m 1]) ass ⟨0,[],[],0,rfl,ao2 _,rfl,hid rfl,rfl,rfl,rfl⟩ ?_;rintro _ _ _ ⟨k,d,v,m,rfl,u,c,j,rfl,rfl,rfl⟩;by_cases a:k<xs.length
 .have t:(k:Int)<(xs.length:Int):=aso;have w:=aoV k aso;obtain⟨x,i⟩:=aoT (xs[k]);have y:(xs.map (AV.int .i64)).getD k .undef=.int .i64 x:=(by rw[abl a,i]);have r:k<(xs.map (AV.int .i64)).length:=(by simpa using a);have g:=hid (show d++[Nr x]=(xs.take (k+1)).map Nr by rw[j.o,aph a,i,apz];rfl);clear i;replace c:=hid c;have q:(m+1)*8<=140737488355328:=(by rw[c.o];omega);have s:m+1<=140737488355328:=by rw[c.o];omega
  repeat' first
   |refine bH ?_
   | (first|refine bv asq ?_|refine aP asq ?_|refine aS ?_|refine cT ?_|refine bJ (fun _=>?_)|refine aH ?_|refine bz ?_|refine Vw ?_|refine bg (Vw ⟨rfl,rfl⟩) (Vw ⟨rfl,rfl⟩) ?_|refine aM (Vw ⟨rfl,rfl⟩) ?_)
     refine sm ?_
   | (first|refine bp asq ?_|refine bm ?_|refine aR ?_|refine bw ?_|refine bP (aG ?_))
     refine sl ?_
   |exact bL
   |first|apply bM|apply bq|apply bN|apply br|apply bO|apply bu
   |refine aV ?_
   |refine aQ ?_
   |first|refine aT rfl ?_|refine aU rfl ?_|refine aB rfl ?_ ?_|refine aX rfl (λ_=>?_) (λ_=>?_)|refine aW rfl (λ_=>?_) (λ_=>?_)
   |((first|refine aA (λ_=>?_) (λ_=>?_)|refine aE (λ_=>?_) (λ_=>?_))<;>try refine sm ?_)
   |refine And.intro trivial ?_
   |refine And.intro aso ?_
   |refine be rfl (λ_=>?_) (λ_=>?_)
   |refine And.intro ?_ ?_
  exact ast aso ass ⟨k+1,d++[Nr x],_,_,rfl,a,by rw[c.o],g,asp,rfl,rfl⟩
 .have hke:k=xs.length:=aso;subst hke;have t:¬(xs.length:Int)<(xs.length:Int):=aso;have f:m=d.length:=(by rw[c,j.o,apg,apm]);have b:(d.length:Int)<=1000000:=(by rw[<- f,c];exact p);have e:orV xs=Nr (acz d):=(by rw[orV,j.o,apg]);replace e:=hid e;subst f;clear c
  repeat' first
   |refine bH ?_
   | (first|refine bv asq ?_|refine aP asq ?_|refine aS ?_|refine cT ?_|refine bJ (fun _=>?_)|refine aH ?_|refine bz ?_|refine WO b ?_|refine Vw ?_|refine bg (WO b ⟨rfl,rfl⟩) (WO b ⟨rfl,rfl⟩) ?_|refine bg (Vw ⟨rfl,rfl⟩) (Vw ⟨rfl,rfl⟩) ?_|refine aM (WO b ⟨rfl,rfl⟩) ?_|refine aM (Vw ⟨rfl,rfl⟩) ?_)
     refine sm ?_
   | (first|refine bp asq ?_|refine bm ?_|refine aR ?_|refine bw ?_|refine bP (aG ?_))
     refine sl ?_
   |exact bL
   |first|apply bM|apply bq|apply bN|apply br|apply bO|apply bu
   |refine aV ?_
   |refine aQ ?_
   |first|refine aT rfl ?_|refine aU rfl ?_|refine aB rfl ?_ ?_|refine aX rfl (λ_=>?_) (λ_=>?_)|refine aW rfl (λ_=>?_) (λ_=>?_)
   |((first|refine aA (λ_=>?_) (λ_=>?_)|refine aE (λ_=>?_) (λ_=>?_))<;>try refine sm ?_)
   |refine And.intro trivial ?_
   |refine And.intro aso ?_
   |refine be rfl (λ_=>?_) (λ_=>?_)
   |refine And.intro ?_ ?_
  refine ac rfl ?_;rw[<- e.o];exact h.o
end Go.Proofs.YtdnfjhflkkpokaaGreatDoor.Av
