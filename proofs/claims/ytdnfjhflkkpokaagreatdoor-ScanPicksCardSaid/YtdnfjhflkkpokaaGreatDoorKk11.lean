/- Joined texts of the walk, made small by a program. -/
import Derived.Test.YtdnfjhflkkpokaaGreatDoorKk10
import Derived.Test.YtdnfjhflkkpokaaGreatDoorKk9
import Derived.Test.YtdnfjhflkkpokaaGreatDoorKk4
import Derived.Test.YtdnfjhflkkpokaaGreatDoorRows
import Derived.KernelRfl
import Derived.Test.YtdnfjhflkkpokaaGreatDoorKk8
import Derived.Test.YtdnfjhflkkpokaaGreatDoorKk5
import Derived.Test.YtdnfjhflkkpokaaGreatDoorKk7
set_option linter.unusedSimpArgs false
set_option linter.unusedVariables false
namespace Go.Proofs.YtdnfjhflkkpokaaGreatDoor.Av
open Go
set_option maxHeartbeats 8000000
set_option maxRecDepth 100000
theorem JT{L0 L:List Blk}{r:AV}{Q:AV->List Blk->Prop}(i:Nat){c:List AV}(hL:L[i]?=some (.cells c))(h:Fin L0 r (L.set i (.cells (AV.frzL c))) Q):Fin L0 r L Q:=λw0 S0 E0 E w v h0 hn hw hR hv=>h w0 S0 E0 E w v h0 hn hw (hR.frzB hL) hv
def doE(k:Int)(xid:Int)(dn tn:List Rdn)(v:List Atr)(y:aA):List aA :=
 let y':=if k=4/\bA y.nm dn=true then{y with nm:=gm y.nm dn.length tn}else y
 let y2:=if y.id=xid/\(k=3\/k=4)then{y' with av:=v}else y'
 if y.id=xid/\k=2 then[]else[y2]
theorem aiH(l:List aA)(xid:Int)(dn tn:List Rdn)(v:List Atr):l.flatMap (doE 1 xid dn tn v)=l:=by
 induction l with
 |nil=>rfl
 |cons y l ih=>rw[aj5,ih];simp[doE]
theorem aiG(l:List aA)(xid:Int)(dn tn:List Rdn)(v:List Atr):l.flatMap (doE 2 xid dn tn v)=Ra l xid:=by
 unfold Ra;induction l with
 |nil=>rfl
 | cons y l ih =>
   rw[aj5,ih];by_cases c:y.id=xid<;>simp[doE,c]
theorem aiF(l:List aA)(xid:Int)(dn tn:List Rdn)(v:List Atr):l.flatMap (doE 3 xid dn tn v)=qf l xid v:=by
 unfold qf;induction l with
 |nil=>rfl
 | cons y l ih =>
   rw[aj5,ih];by_cases c:y.id=xid<;>simp[doE,c]
theorem aiE(l:List aA)(xid:Int)(dn tn:List Rdn)(v:List Atr):l.flatMap (doE 4 xid dn tn v)=qf (kQ l dn tn) xid v:=by
 unfold qf kQ;induction l with
 |nil=>rfl
 | cons y l ih =>
   rw[aj5,ih];by_cases c:y.id=xid<;>by_cases u:bA y.nm dn=true<;>simp[doE,c,u]
theorem T8(l:List aA)(k xid:Int)(dn tn:List Rdn)(v:List Atr):(l.flatMap (doE k xid dn tn v)).length<=l.length:=by
 induction l with
 |nil=>simp
 | cons y l ih =>
   rw[aj5,ajA];have:(doE k xid dn tn v y).length<=1:=(by unfold doE;dsimp only;split<;>simp);simp only[ajz];omega
theorem ahw{suf:List Rdn}{last:Int}{l:List aA}(ht:TOk suf last l)(hn:l.length<=900000)(hl0:0<=last)(hl1:last<=1000000){rt:Nat}{c:Option Nat}{L:List Blk}(hL:L[rt]?=some (.cells [dnA suf,.sl (aX l) l.length c,.int .i64 last])){dn tn:List Rdn}{k:Int}{v:List Atr}(hdm:dnM dn)(htm:dnM tn)(hvl:v.length<=1100000)(hvz:∀a∈v,a.2.length<=1100000)(ha:fe suf l k dn tn=0){K:ajq}(h:∀L' c',L'[rt]?=some (.cells [dnA suf,.sl (aX (doT suf l last k dn tn v).1) (doT suf l last k dn tn v).1.length c',.int .i64 (doT suf l last k dn tn v).2])->aF (λi=>i=rt) L L'->K (.int .i64 0) L'):
  ajp 35 [.ptr rt 0,.agg [.int .i64 k,dnA dn,dnA tn,atR v]] L K:=by
 have hrl:=(ajr.1 hL).1;have ar:∀X:List Blk,(L++X)[rt]?=some (.cells [dnA suf,.sl (aX l) l.length c,.int .i64 last]):=λX=>by rw[ajw hrl];exact hL
 have sr:∀(X:List Blk) b,(L++X).set rt b=L.set rt b++X:=λX b=>ak3 _ _ hrl
 have ar2:∀(X:List Blk) b,(L.set rt b++X)[rt]?=some b:=λX b=>by rw[ajw (by simpa using hrl)];simp[hrl]
 have sr2:∀(X:List Blk) b b',(L.set rt b++X).set rt b'=L.set rt b'++X:=λX b b'=>by rw[ak3 _ _ (by simpa using hrl),List.set_set]
 have ab2:∀(X:List Blk) (b b':Blk),(L.set rt b++b'::X)[L.length]?=some b':=λX b b'=>by rw[ajG amN];simp
 have hel:=oP l;have kk1:Hid (∀{X:List Blk}{K:ajq},K (.int .i64 0) (L++X)->ajp 81 [.ptr rt 0,.agg [.int .i64 k,dnA dn,dnA tn,.sl (aB v) v.length none]] (L++X) K):=@hid _ (by intro X K q;exact abb ht amM (ar X) hdm htm (by rw[ha];exact q))
 have kk2:Hid (∀{X:List Blk}{K:ajq},K (.int .i64 (atI l dn)) (L++X)->ajp 82 [.ptr rt 0,dnA dn] (L++X) K):=@hid _ (by intro X K q;exact YB ht.ok hdm amM (ar X) q)
 have kk3:Hid (Ctr Tryz.prog 16 [.sl (aB v) v.length none] (.sl (aB v) v.length none)):=@hid _ (by intro L K q;exact aa7 hvl hvz q);have fv:=dM v;have hfd:AV.frzL (dn.map ah)=dn.map ah:=aY _;unfold atR;unfold doT at h;rw[if_neg (λe=>e ha)]at h;have hable:=ha;unfold fe at ha;have hk14:¬(k<1\/4<k):=λe=>by rw[if_pos e]at ha;exact absurd ha (by decide)
 rw[if_neg hk14]at ha;have kU:Hid (∀y∈l,∀{L:List Blk}{K:ajq},K (.bool (bA y.nm dn)) L->ajp 38 [dnA y.nm,dnA dn] L K):=@hid _ (by intro y hy L K q;exact kO (ht.ok y hy).m hdm q);have hL0:=hid hL;have hok:=hid ht.ok;have hnd:=hid ht.nodup;by_cases k1:k=1
 .subst k1;rw[if_pos rfl]at ha h;have hfa:atI l dn=-1:=by rcases yA l dn with⟨q1,q2⟩|⟨n,hlt,q1,q2⟩;exact q1;exfalso;by_cases o:OkD dn;rw[if_neg (λe=>e o),if_pos (by rw[q2];simp)]at ha;exact absurd ha (by decide);rw[if_pos o]at ha;exact absurd ha (by decide)
  rw[hfa]at kk2;replace h:=hid h;clear ha hable hL hk14;refine ajo em ?_;refine bK (l:=[]) (n:=0) 7 3 rfl (ajX 3).symm ?_;simp only[ajA,ajz,aj9,akw,ajD,akd,aj0];refine aq (λm T' L'=>∃(j cnt:Nat) (C:List AV) (X:List Blk),m=l.length-j/\j<=l.length/\Hid (C=aX ((l.take j).flatMap (doE 1 0 dn tn v)))/\Hid (cnt=((l.take j).flatMap (doE 1 0 dn tn v)).length)/\T'=[(25,.int .i64 (j:Int)),(24,.int .i64 l.length),(23,.sl (aX l) l.length c),(7,.gsl C cnt (L.length+1) 3),(6,.int .i64 (-1)),(3,.ptr L.length 0),(0,.ptr rt 0)]/\L'=L++(.cells [.int .i64 1,dnA dn,dnA tn,.sl (aB v) v.length none] :: .spare cnt 3::X)) amQ ⟨0,0,[],[],rfl,aju _,hid rfl,hid rfl,rfl,amN⟩ ?_;rintro _ _ _ ⟨j,cnt,C,X,rfl,hj,hC,hcnt,rfl,rfl⟩;have hgX:∀(a s b:Blk) (Y:List Blk),(L++a::s::(X++b::Y))[L.length+(X.length+1+1)]?=some b:=λa s b Y=>by rw[ajG amM,show L.length+(X.length+1+1)-L.length=X.length+1+1 by omega,akv,akv,ajG (ajs _)];simp
  have hsX:∀(a s b b':Blk) (Y:List Blk),(L++a::s::(X++b::Y)).set (L.length+(X.length+1+1)) b'=L++a::s::(X++b'::Y):=λa s b b' Y=>by rw[ajZ _ _ amM,show L.length+(X.length+1+1)-L.length=X.length+1+1 by omega,ak2,ak2,ajZ _ _ (ajs _)];simp
  have hcb:cnt<=l.length:=by rw[hcnt.o];exact ajU (T8 _ _ _ _ _ _) (by simp;omega)
  by_cases hjl:j<l.length
  .have j1:(j:Int)<(l.length:Int):=amM;have j2:=ajn j amM;have e6:=qd hjl;have e7:j*3+3<=(aX l).length:=(by rw[hel];omega);have hym:l.getD j default∈l:=(by simp[hjl]);have hjn:(j:Int)≠-1:=amM;have htk:l.take (j+1)=l.take j++[l.getD j default]:=(by rw[ajN hjl];simp[hjl]);obtain⟨y,hy⟩:=ajl (l.getD j default);rw[hy]at e6 hym htk
   try rw[hy]at hjn
   unfold Om atR at e6;have hoy:=hok.o y hym;have kk4:=@hid _ (λ{L:List Blk}{K:ajq}=>kU.o y hym (L:=L) (K:=K));obtain⟨u,hu⟩:=ajl (bA y.nm dn);rw[hu]at kk4;have hstep:∀{r:List aA},doE 1 0 dn tn v y=r->Hid (C++aX r=aX ((l.take (j+1)).flatMap (doE 1 0 dn tn v)))/\Hid (cnt+r.length=((l.take (j+1)).flatMap (doE 1 0 dn tn v)).length):=λ{r} e=>by rw[htk,alZ,aj5,amx,aj6,e,xC,ajA,<- hC.o,<- hcnt.o];exact⟨hid rfl,hid rfl⟩
   have fy1:AV.frzL (y.nm.map ah)=y.nm.map ah:=aY _;have fy2:=dM y.av;obtain⟨yi,hyi⟩:=ajl (y.id);obtain⟨ya,hya⟩:=ajl (aB y.av);obtain⟨yk,hyk⟩:=ajl (y.av.length);obtain⟨yn,hyn⟩:=ajl (y.nm);rw[hyi,hya,hyk,hyn]at e6;rw[hya]at fy2;rw[hyn]at fy1 kk4;have hst:=hstep (r:=[y]) (by simp[doE]);have s3:aX [y]=[.int .i64 yi,dnA yn,.sl ya yk none]:=(by rw[<- hyi,<- hya,<- hyk,<- hyn];rfl);have s1:=hst.1;have s2:=hst.2;rw[s3]at s1;have s1:=hid s1.o;have s2:=hid s2.o;clear hst s3 hstep hC hcnt hy hym htk hoy hu kU hyi hya hyk hyn hok hnd;refine wk ?_;exact amR amM amP ⟨j+1,_,_,_,rfl,hjl,s1,s2,rfl,rfl⟩
  have hje:j=l.length:=amM;subst hje;have j1:¬(l.length:Int)<(l.length:Int):=amM;rw[ajL]at hC hcnt;have fs:AV.frzL (suf.map ah)=suf.map ah:=aY _;have j3:IntKind.i64.wrap (last+1)=last+1:=ae amM amM;have hdb:=hdm.b;have kk7:Hid (Ctr Tryz.prog 40 [dnA dn] (dnA dn)):=@hid _ (by intro L K q;exact Yl hdb.1 hdb.2 q);clear hnd hok kU kk1 kk2 ht;have ab1:∀(X:List Blk) (b b' b2:Blk),(L.set rt b++b'::b2::X)[L.length+1]?=some b2:=λX b b' b2=>by rw[ajG amN];simp
  have as1:∀(X:List Blk) (b b' b2 b3:Blk),(L.set rt b++b'::b2::X).set (L.length+1) b3=L.set rt b++b'::b3::X:=λX b b' b2 b3=>by rw[ajZ _ _ amN];simp
  refine wk ?_;refine JT rt (ar2 _ _) ?_;rw[sr2];refine ac ?_;have e1:=hC.o;have e2:=hcnt.o;rw[aiH]at e1 e2;refine h.o _ none ?_ ((aF.set (B:=λi=>i=rt) L rfl _).trans (aF.app _ _));rw[ar2];have e3:aX (qu l last dn v)=aX l++[.int .i64 (last+1),.sl (dn.map ah) dn.length none,.sl (aB v) v.length none]:=(by unfold qu;rw[xC];rfl);have e4:AV.frzL (C++[.int .i64 (last+1),.sl (dn.map ah) dn.length none,.sl (aB v) v.length none])=aX (qu l last dn v):=by rw[e1,<- e3,xB]
  have e5:(qu l last dn v).length=cnt+1:=(by rw[e2];simp[qu]);simp only[AV.frzL,AV.frz,dnA,fs,e4,e5]
 rw[if_neg k1]at ha h;rcases yA l dn with⟨q1,hx⟩|⟨n,hlt,q1,hx⟩;rw[hx]at ha;simp at ha;obtain⟨x,hxe⟩:=ajl (l.getD n default);rw[hxe]at hx;obtain⟨hod,hxl,hxn⟩:=bW hx;have hfx:aV l dn=x.id:=by unfold aV;rw[hx]
 rw[hfx]at h;rw[q1]at kk2;have hxu:bA x.nm dn=true:=bL.2 ⟨ht.ok x hxl,hod,by rw[hxn];exact als _⟩;rw[hx]at ha;dsimp only at ha;by_cases k2:k=2
 .subst k2;rw[if_pos rfl]at h;replace h:=hid h;clear ha hable hL hk14;refine ajo em ?_;refine bK (l:=[]) (n:=0) 7 3 rfl (ajX 3).symm ?_;simp only[ajA,ajz,aj9,akw,ajD,akd,aj0];refine aq (λm T' L'=>∃(j cnt:Nat) (C:List AV) (X:List Blk),m=l.length-j/\j<=l.length/\Hid (C=aX ((l.take j).flatMap (doE 2 x.id dn tn v)))/\Hid (cnt=((l.take j).flatMap (doE 2 x.id dn tn v)).length)/\T'=[(25,.int .i64 (j:Int)),(24,.int .i64 l.length),(23,.sl (aX l) l.length c),(7,.gsl C cnt (L.length+1) 3),(6,.int .i64 (n:Int)),(3,.ptr L.length 0),(0,.ptr rt 0)]/\L'=L++(.cells [.int .i64 2,dnA dn,dnA tn,.sl (aB v) v.length none] :: .spare cnt 3::X)) amQ ⟨0,0,[],[],rfl,aju _,hid rfl,hid rfl,rfl,amN⟩ ?_;rintro _ _ _ ⟨j,cnt,C,X,rfl,hj,hC,hcnt,rfl,rfl⟩;have hgX:∀(a s b:Blk) (Y:List Blk),(L++a::s::(X++b::Y))[L.length+(X.length+1+1)]?=some b:=λa s b Y=>by rw[ajG amM,show L.length+(X.length+1+1)-L.length=X.length+1+1 by omega,akv,akv,ajG (ajs _)];simp
  have hsX:∀(a s b b':Blk) (Y:List Blk),(L++a::s::(X++b::Y)).set (L.length+(X.length+1+1)) b'=L++a::s::(X++b'::Y):=λa s b b' Y=>by rw[ajZ _ _ amM,show L.length+(X.length+1+1)-L.length=X.length+1+1 by omega,ak2,ak2,ajZ _ _ (ajs _)];simp
  have hcb:cnt<=l.length:=by rw[hcnt.o];exact ajU (T8 _ _ _ _ _ _) (by simp;omega)
  by_cases hjl:j<l.length
  .have j1:(j:Int)<(l.length:Int):=amM;have j2:=ajn j amM;have e6:=qd hjl;have e7:j*3+3<=(aX l).length:=(by rw[hel];omega);have hym:l.getD j default∈l:=(by simp[hjl]);have hjn:j=n↔(l.getD j default).id=x.id:=by rw[<- hxe];constructor;intro e;rw[e];intro e;have e2:=ht.byI hym (by simp[hlt]:l.getD n default∈l) e;rw[ajO,ajO,ajF hjl,ajF hlt]at e2;simp only[aks]at e2;rcases alO j n with q|q|q;exact absurd e2 (akB.1 hnd.o j n hjl hlt q);exact q;exact absurd e2.symm (akB.1 hnd.o n j hlt hjl q)
   have htk:l.take (j+1)=l.take j++[l.getD j default]:=(by rw[ajN hjl];simp[hjl]);obtain⟨y,hy⟩:=ajl (l.getD j default);rw[hy]at e6 hym htk
   try rw[hy]at hjn
   unfold Om atR at e6;have hoy:=hok.o y hym;have kk4:=@hid _ (λ{L:List Blk}{K:ajq}=>kU.o y hym (L:=L) (K:=K));obtain⟨u,hu⟩:=ajl (bA y.nm dn);rw[hu]at kk4;have hstep:∀{r:List aA},doE 2 x.id dn tn v y=r->Hid (C++aX r=aX ((l.take (j+1)).flatMap (doE 2 x.id dn tn v)))/\Hid (cnt+r.length=((l.take (j+1)).flatMap (doE 2 x.id dn tn v)).length):=λ{r} e=>by rw[htk,alZ,aj5,amx,aj6,e,xC,ajA,<- hC.o,<- hcnt.o];exact⟨hid rfl,hid rfl⟩
   have fy1:AV.frzL (y.nm.map ah)=y.nm.map ah:=aY _;have fy2:=dM y.av;by_cases hjn2:j=n;have hyx:=hjn.1 hjn2;subst hjn2;have hst:=hstep (r:=[]) (by simp[doE,hyx]);have s1:=hst.1.o;have s2:=hst.2.o;rw[show aX ([]:List aA)=[]from rfl,aj6]at s1;rw[aj9,akz]at s2;replace s1:=hid s1;replace s2:=hid s2;obtain⟨yi,hyi⟩:=ajl (y.id);obtain⟨ya,hya⟩:=ajl (aB y.av);obtain⟨yk,hyk⟩:=ajl (y.av.length);obtain⟨yn,hyn⟩:=ajl (y.nm);rw[hyi,hya,hyk,hyn]at e6;rw[hya]at fy2;rw[hyn]at fy1 kk4;clear hst hstep hC hcnt hy hym htk hoy hu kU hyi hya hyk hyn hok hnd hjn hyx;refine wk ?_;exact amR amM amP ⟨j+1,_,_,_,rfl,hjl,s1,s2,rfl,rfl⟩;have hyx:¬y.id=x.id:=λe=>hjn2 (hjn.2 e)
   have hjn3:¬(j:Int)=(n:Int):=amM;obtain⟨yi,hyi⟩:=ajl (y.id);obtain⟨ya,hya⟩:=ajl (aB y.av);obtain⟨yk,hyk⟩:=ajl (y.av.length);obtain⟨yn,hyn⟩:=ajl (y.nm);rw[hyi,hya,hyk,hyn]at e6;rw[hya]at fy2;rw[hyn]at fy1 kk4;have hst:=hstep (r:=[y]) (by simp[doE,hyx]);have s3:aX [y]=[.int .i64 yi,dnA yn,.sl ya yk none]:=(by rw[<- hyi,<- hya,<- hyk,<- hyn];rfl);have s1:=hst.1;have s2:=hst.2;rw[s3]at s1;have s1:=hid s1.o;have s2:=hid s2.o;clear hst s3 hstep hC hcnt hy hym htk hoy hu kU hyi hya hyk hyn hok hnd;refine wk ?_;exact amR amM amP ⟨j+1,_,_,_,rfl,hjl,s1,s2,rfl,rfl⟩
  have hje:j=l.length:=amM;subst hje;have j1:¬(l.length:Int)<(l.length:Int):=amM;rw[ajL]at hC hcnt;have fs:AV.frzL (suf.map ah)=suf.map ah:=aY _;refine wk ?_;refine JT rt (ar2 _ _) ?_;rw[sr2];refine ac ?_;have e1:=hC.o;have e2:=hcnt.o;rw[aiG]at e1 e2;refine h.o _ none ?_ ((aF.set (B:=λi=>i=rt) L rfl _).trans (aF.app _ _));rw[ar2];simp only[AV.frzL,AV.frz,dnA,fs,e1,e2,xB]
 rw[if_neg k2]at h ha;by_cases k3:k=3
 .subst k3;rw[if_pos rfl]at h;replace h:=hid h;clear ha hable hL hk14;refine ajo em ?_;refine bK (l:=[]) (n:=0) 7 3 rfl (ajX 3).symm ?_;simp only[ajA,ajz,aj9,akw,ajD,akd,aj0];refine aq (λm T' L'=>∃(j cnt:Nat) (C:List AV) (X:List Blk),m=l.length-j/\j<=l.length/\Hid (C=aX ((l.take j).flatMap (doE 3 x.id dn tn v)))/\Hid (cnt=((l.take j).flatMap (doE 3 x.id dn tn v)).length)/\T'=[(25,.int .i64 (j:Int)),(24,.int .i64 l.length),(23,.sl (aX l) l.length c),(7,.gsl C cnt (L.length+1) 3),(6,.int .i64 (n:Int)),(3,.ptr L.length 0),(0,.ptr rt 0)]/\L'=L++(.cells [.int .i64 3,dnA dn,dnA tn,.sl (aB v) v.length none] :: .spare cnt 3::X)) amQ ⟨0,0,[],[],rfl,aju _,hid rfl,hid rfl,rfl,amN⟩ ?_;rintro _ _ _ ⟨j,cnt,C,X,rfl,hj,hC,hcnt,rfl,rfl⟩;have hgX:∀(a s b:Blk) (Y:List Blk),(L++a::s::(X++b::Y))[L.length+(X.length+1+1)]?=some b:=λa s b Y=>by rw[ajG amM,show L.length+(X.length+1+1)-L.length=X.length+1+1 by omega,akv,akv,ajG (ajs _)];simp
  have hsX:∀(a s b b':Blk) (Y:List Blk),(L++a::s::(X++b::Y)).set (L.length+(X.length+1+1)) b'=L++a::s::(X++b'::Y):=λa s b b' Y=>by rw[ajZ _ _ amM,show L.length+(X.length+1+1)-L.length=X.length+1+1 by omega,ak2,ak2,ajZ _ _ (ajs _)];simp
  have hcb:cnt<=l.length:=by rw[hcnt.o];exact ajU (T8 _ _ _ _ _ _) (by simp;omega)
  by_cases hjl:j<l.length
  .have j1:(j:Int)<(l.length:Int):=amM;have j2:=ajn j amM;have e6:=qd hjl;have e7:j*3+3<=(aX l).length:=(by rw[hel];omega);have hym:l.getD j default∈l:=(by simp[hjl]);have hjn:j=n↔(l.getD j default).id=x.id:=by rw[<- hxe];constructor;intro e;rw[e];intro e;have e2:=ht.byI hym (by simp[hlt]:l.getD n default∈l) e;rw[ajO,ajO,ajF hjl,ajF hlt]at e2;simp only[aks]at e2;rcases alO j n with q|q|q;exact absurd e2 (akB.1 hnd.o j n hjl hlt q);exact q;exact absurd e2.symm (akB.1 hnd.o n j hlt hjl q)
   have htk:l.take (j+1)=l.take j++[l.getD j default]:=(by rw[ajN hjl];simp[hjl]);obtain⟨y,hy⟩:=ajl (l.getD j default);rw[hy]at e6 hym htk
   try rw[hy]at hjn
   unfold Om atR at e6;have hoy:=hok.o y hym;have kk4:=@hid _ (λ{L:List Blk}{K:ajq}=>kU.o y hym (L:=L) (K:=K));obtain⟨u,hu⟩:=ajl (bA y.nm dn);rw[hu]at kk4;have hstep:∀{r:List aA},doE 3 x.id dn tn v y=r->Hid (C++aX r=aX ((l.take (j+1)).flatMap (doE 3 x.id dn tn v)))/\Hid (cnt+r.length=((l.take (j+1)).flatMap (doE 3 x.id dn tn v)).length):=λ{r} e=>by rw[htk,alZ,aj5,amx,aj6,e,xC,ajA,<- hC.o,<- hcnt.o];exact⟨hid rfl,hid rfl⟩
   have fy1:AV.frzL (y.nm.map ah)=y.nm.map ah:=aY _;have fy2:=dM y.av;by_cases hjn2:j=n;have hyx:=hjn.1 hjn2;subst hjn2;obtain⟨yi,hyi⟩:=ajl (y.id);obtain⟨ya,hya⟩:=ajl (aB y.av);obtain⟨yk,hyk⟩:=ajl (y.av.length);obtain⟨yn,hyn⟩:=ajl (y.nm);rw[hyi,hya,hyk,hyn]at e6;rw[hya]at fy2;rw[hyn]at fy1 kk4;have hst:=hstep (r:=[{y with av:=v}]) (by simp[doE,hyx]);have s3:aX [{y with av:=v}]=[.int .i64 yi,dnA yn,.sl (aB v) v.length none]:=(by rw[<- hyi,<- hyn];rfl);have s1:=hst.1;have s2:=hst.2;rw[s3]at s1;have s1:=hid s1.o;have s2:=hid s2.o;clear hst s3 hstep hC hcnt hy hym htk hoy hu kU hyi hya hyk hyn hok hnd;refine wk ?_;exact amR amM amP ⟨j+1,_,_,_,rfl,hjl,s1,s2,rfl,rfl⟩;have hyx:¬y.id=x.id:=λe=>hjn2 (hjn.2 e)
   have hjn3:¬(j:Int)=(n:Int):=amM;obtain⟨yi,hyi⟩:=ajl (y.id);obtain⟨ya,hya⟩:=ajl (aB y.av);obtain⟨yk,hyk⟩:=ajl (y.av.length);obtain⟨yn,hyn⟩:=ajl (y.nm);rw[hyi,hya,hyk,hyn]at e6;rw[hya]at fy2;rw[hyn]at fy1 kk4;have hst:=hstep (r:=[y]) (by simp[doE,hyx]);have s3:aX [y]=[.int .i64 yi,dnA yn,.sl ya yk none]:=(by rw[<- hyi,<- hya,<- hyk,<- hyn];rfl);have s1:=hst.1;have s2:=hst.2;rw[s3]at s1;have s1:=hid s1.o;have s2:=hid s2.o;clear hst s3 hstep hC hcnt hy hym htk hoy hu kU hyi hya hyk hyn hok hnd;refine wk ?_;exact amR amM amP ⟨j+1,_,_,_,rfl,hjl,s1,s2,rfl,rfl⟩
  have hje:j=l.length:=amM;subst hje;have j1:¬(l.length:Int)<(l.length:Int):=amM;rw[ajL]at hC hcnt;have fs:AV.frzL (suf.map ah)=suf.map ah:=aY _;refine wk ?_;refine JT rt (ar2 _ _) ?_;rw[sr2];refine ac ?_;have e1:=hC.o;have e2:=hcnt.o;rw[aiF]at e1 e2;refine h.o _ none ?_ ((aF.set (B:=λi=>i=rt) L rfl _).trans (aF.app _ _));rw[ar2];simp only[AV.frzL,AV.frz,dnA,fs,e1,e2,xB]
 rw[if_neg k3]at h ha;by_cases k4:k=4
 .subst k4;have htl:tn.length<=32:=(ht.canM hx ha).tok.len;replace h:=hid h;clear ha hable hL hk14;refine ajo em ?_;refine bK (l:=[]) (n:=0) 7 3 rfl (ajX 3).symm ?_;simp only[ajA,ajz,aj9,akw,ajD,akd,aj0];refine aq (λm T' L'=>∃(j cnt:Nat) (C:List AV) (X:List Blk),m=l.length-j/\j<=l.length/\Hid (C=aX ((l.take j).flatMap (doE 4 x.id dn tn v)))/\Hid (cnt=((l.take j).flatMap (doE 4 x.id dn tn v)).length)/\T'=[(25,.int .i64 (j:Int)),(24,.int .i64 l.length),(23,.sl (aX l) l.length c),(7,.gsl C cnt (L.length+1) 3),(6,.int .i64 (n:Int)),(3,.ptr L.length 0),(0,.ptr rt 0)]/\L'=L++(.cells [.int .i64 4,dnA dn,dnA tn,.sl (aB v) v.length none] :: .spare cnt 3::X)) amQ ⟨0,0,[],[],rfl,aju _,hid rfl,hid rfl,rfl,amN⟩ ?_;rintro _ _ _ ⟨j,cnt,C,X,rfl,hj,hC,hcnt,rfl,rfl⟩;have hgX:∀(a s b:Blk) (Y:List Blk),(L++a::s::(X++b::Y))[L.length+(X.length+1+1)]?=some b:=λa s b Y=>by rw[ajG amM,show L.length+(X.length+1+1)-L.length=X.length+1+1 by omega,akv,akv,ajG (ajs _)];simp
  have hsX:∀(a s b b':Blk) (Y:List Blk),(L++a::s::(X++b::Y)).set (L.length+(X.length+1+1)) b'=L++a::s::(X++b'::Y):=λa s b b' Y=>by rw[ajZ _ _ amM,show L.length+(X.length+1+1)-L.length=X.length+1+1 by omega,ak2,ak2,ajZ _ _ (ajs _)];simp
  have hcb:cnt<=l.length:=by rw[hcnt.o];exact ajU (T8 _ _ _ _ _ _) (by simp;omega)
  by_cases hjl:j<l.length
  .have j1:(j:Int)<(l.length:Int):=amM;have j2:=ajn j amM;have e6:=qd hjl;have e7:j*3+3<=(aX l).length:=(by rw[hel];omega);have hym:l.getD j default∈l:=(by simp[hjl]);have hjn:j=n↔(l.getD j default).id=x.id:=by rw[<- hxe];constructor;intro e;rw[e];intro e;have e2:=ht.byI hym (by simp[hlt]:l.getD n default∈l) e;rw[ajO,ajO,ajF hjl,ajF hlt]at e2;simp only[aks]at e2;rcases alO j n with q|q|q;exact absurd e2 (akB.1 hnd.o j n hjl hlt q);exact q;exact absurd e2.symm (akB.1 hnd.o n j hlt hjl q)
   have htk:l.take (j+1)=l.take j++[l.getD j default]:=(by rw[ajN hjl];simp[hjl]);obtain⟨y,hy⟩:=ajl (l.getD j default);rw[hy]at e6 hym htk
   try rw[hy]at hjn
   unfold Om atR at e6;have hoy:=hok.o y hym;have kk4:=@hid _ (λ{L:List Blk}{K:ajq}=>kU.o y hym (L:=L) (K:=K));obtain⟨u,hu⟩:=ajl (bA y.nm dn);rw[hu]at kk4;have hstep:∀{r:List aA},doE 4 x.id dn tn v y=r->Hid (C++aX r=aX ((l.take (j+1)).flatMap (doE 4 x.id dn tn v)))/\Hid (cnt+r.length=((l.take (j+1)).flatMap (doE 4 x.id dn tn v)).length):=λ{r} e=>by rw[htk,alZ,aj5,amx,aj6,e,xC,ajA,<- hC.o,<- hcnt.o];exact⟨hid rfl,hid rfl⟩
   have fy1:AV.frzL (y.nm.map ah)=y.nm.map ah:=aY _;have fy2:=dM y.av;by_cases hjn2:j=n;have hyx:=hjn.1 hjn2;subst hjn2;cases u with
   | true =>
     have hyle:dn.length<=y.nm.length:=by have:=(bL.1 hu).2.2.length_le;rwa[aW,aW]at this
     have hy32:=hoy.len;have hdl:=hod.len;obtain⟨Z,hZe⟩:=ajl (gm y.nm dn.length tn);have hZl:Z.length<=1100000/\∀r∈Z,r.length<=1100000:=by
      rw[<- hZe];unfold gm;refine⟨by simp;omega,λr hr=>?_⟩;rcases ajx.1 hr with hr|hr
      .exact(hoy.m.b.2 r (amg hr))
      .exact htm.b.2 r hr
     have kk5:Hid (Ctr Tryz.prog 83 [dnA y.nm,.int .i64 (dn.length:Int),dnA tn] (dnA Z)):=@hid _ (by intro L K q;exact Xw amM amM hyle (by rw[hZe];exact q))
     have kk6:Hid (Ctr Tryz.prog 40 [dnA Z] (dnA Z)):=@hid _ (by intro L K q;exact Yl hZl.1 hZl.2 q);have fZ:AV.frzL (Z.map ah)=Z.map ah:=aY _;obtain⟨yi,hyi⟩:=ajl (y.id);obtain⟨ya,hya⟩:=ajl (aB y.av);obtain⟨yk,hyk⟩:=ajl (y.av.length);obtain⟨yn,hyn⟩:=ajl (y.nm);rw[hyi,hya,hyk,hyn]at e6;rw[hya]at fy2;rw[hyn]at fy1 kk4 kk5;have hst:=hstep (r:=[{y with nm:=Z,av:=v}]) (by simp[doE,hyx,hu,hZe]);have s3:aX [{y with nm:=Z,av:=v}]=[.int .i64 yi,dnA Z,.sl (aB v) v.length none]:=(by rw[<- hyi];rfl);have s1:=hst.1;have s2:=hst.2;rw[s3]at s1;have s1:=hid s1.o;have s2:=hid s2.o;clear hZe hZl hyle hst s3 hstep hC hcnt hy hym htk hoy hu kU hyi hya hyk hyn hok hnd;refine wk ?_;exact amR amM amP ⟨j+1,_,_,_,rfl,hjl,s1,s2,rfl,rfl⟩
   | false =>
     have:=ht.byI hym hxl hyx;subst this;rw[hxu]at hu;cases hu
   have hyx:¬y.id=x.id:=λe=>hjn2 (hjn.2 e)
   have hjn3:¬(j:Int)=(n:Int):=amM;cases u with
   | true =>
     have hyle:dn.length<=y.nm.length:=by have:=(bL.1 hu).2.2.length_le;rwa[aW,aW]at this
     have hy32:=hoy.len;have hdl:=hod.len;obtain⟨Z,hZe⟩:=ajl (gm y.nm dn.length tn);have hZl:Z.length<=1100000/\∀r∈Z,r.length<=1100000:=by
      rw[<- hZe];unfold gm;refine⟨by simp;omega,λr hr=>?_⟩;rcases ajx.1 hr with hr|hr
      .exact(hoy.m.b.2 r (amg hr))
      .exact htm.b.2 r hr
     have kk5:Hid (Ctr Tryz.prog 83 [dnA y.nm,.int .i64 (dn.length:Int),dnA tn] (dnA Z)):=@hid _ (by intro L K q;exact Xw amM amM hyle (by rw[hZe];exact q))
     have kk6:Hid (Ctr Tryz.prog 40 [dnA Z] (dnA Z)):=@hid _ (by intro L K q;exact Yl hZl.1 hZl.2 q);have fZ:AV.frzL (Z.map ah)=Z.map ah:=aY _;obtain⟨yi,hyi⟩:=ajl (y.id);obtain⟨ya,hya⟩:=ajl (aB y.av);obtain⟨yk,hyk⟩:=ajl (y.av.length);obtain⟨yn,hyn⟩:=ajl (y.nm);rw[hyi,hya,hyk,hyn]at e6;rw[hya]at fy2;rw[hyn]at fy1 kk4 kk5;have hst:=hstep (r:=[{y with nm:=Z}]) (by simp[doE,hyx,hu,hZe]);have s3:aX [{y with nm:=Z}]=[.int .i64 yi,dnA Z,.sl ya yk none]:=(by rw[<- hyi,<- hya,<- hyk];rfl);have s1:=hst.1;have s2:=hst.2;rw[s3]at s1;have s1:=hid s1.o;have s2:=hid s2.o;clear hZe hZl hyle hst s3 hstep hC hcnt hy hym htk hoy hu kU hyi hya hyk hyn hok hnd;refine wk ?_;exact amR amM amP ⟨j+1,_,_,_,rfl,hjl,s1,s2,rfl,rfl⟩
   | false =>
     obtain⟨yi,hyi⟩:=ajl (y.id);obtain⟨ya,hya⟩:=ajl (aB y.av);obtain⟨yk,hyk⟩:=ajl (y.av.length);obtain⟨yn,hyn⟩:=ajl (y.nm);rw[hyi,hya,hyk,hyn]at e6;rw[hya]at fy2;rw[hyn]at fy1 kk4;have hst:=hstep (r:=[y]) (by simp[doE,hyx,hu]);have s3:aX [y]=[.int .i64 yi,dnA yn,.sl ya yk none]:=(by rw[<- hyi,<- hya,<- hyk,<- hyn];rfl);have s1:=hst.1;have s2:=hst.2;rw[s3]at s1;have s1:=hid s1.o;have s2:=hid s2.o;clear hst s3 hstep hC hcnt hy hym htk hoy hu kU hyi hya hyk hyn hok hnd;refine wk ?_;exact amR amM amP ⟨j+1,_,_,_,rfl,hjl,s1,s2,rfl,rfl⟩
  have hje:j=l.length:=amM;subst hje;have j1:¬(l.length:Int)<(l.length:Int):=amM;rw[ajL]at hC hcnt;have fs:AV.frzL (suf.map ah)=suf.map ah:=aY _;refine wk ?_;refine JT rt (ar2 _ _) ?_;rw[sr2];refine ac ?_;have e1:=hC.o;have e2:=hcnt.o;rw[aiE]at e1 e2;refine h.o _ none ?_ ((aF.set (B:=λi=>i=rt) L rfl _).trans (aF.app _ _));rw[ar2];simp only[AV.frzL,AV.frz,dnA,fs,e1,e2,xB]
 exact absurd (by omega:k<1\/4<k) hk14
theorem air{suf:List Rdn}{last:Int}{l:List aA}(ht:TOk suf last l)(hn:l.length<=900000)(hl0:0<=last)(hl1:last<=1000000){rt:Nat}{c:Option Nat}{L:List Blk}(hL:L[rt]?=some (.cells [dnA suf,.sl (aX l) l.length c,.int .i64 last])){dn tn:List Rdn}{k:Int}{v:List Atr}(hdm:dnM dn)(htm:dnM tn)(hvl:v.length<=1100000)(hvz:∀a∈v,a.2.length<=1100000){K:ajq}(h:∀L' c',L'[rt]?=some (.cells [dnA suf,.sl (aX (doT suf l last k dn tn v).1) (doT suf l last k dn tn v).1.length c',.int .i64 (doT suf l last k dn tn v).2])->aF (λi=>i=rt) L L'->K (.int .i64 (fe suf l k dn tn)) L'):
  ajp 35 [.ptr rt 0,.agg [.int .i64 k,dnA dn,dnA tn,atR v]] L K:=by
 by_cases ha:fe suf l k dn tn=0;exact ahw ht hn hl0 hl1 hL hdm htm hvl hvz ha (by rw[ha]at h;exact h);have hrl:=(ajr.1 hL).1;have ar:∀X:List Blk,(L++X)[rt]?=some (.cells [dnA suf,.sl (aX l) l.length c,.int .i64 last]):=λX=>by rw[ajw hrl];exact hL
 have kk1:Hid (∀{X:List Blk}{K:ajq},K (.int .i64 (fe suf l k dn tn)) (L++X)->ajp 81 [.ptr rt 0,.agg [.int .i64 k,dnA dn,dnA tn,.sl (aB v) v.length none]] (L++X) K):=@hid _ (by intro X K q;exact abb ht amM (ar X) hdm htm q)
 unfold doT at h;rw[if_pos ha]at h;obtain⟨z,hz⟩:=ajl (fe suf l k dn tn);rw[hz]at kk1 h ha;have j1:¬z=0:=ha;have h2:Hid (K (.int .i64 z) (L++[.cells [.int .i64 k,dnA dn,dnA tn,.sl (aB v) v.length none]])):=hid (h _ c (ar _) (aF.app _ _));clear h ht hL hz;unfold atR;refine ajo em ?_;exact ac h2.o
theorem af1(r:Rul):AV.frzL (rlC r)=rlC r:=by simp only[rlC,Kj,akd,aj0,AV.frzL,AV.frz,aY]
theorem Zd(a b:List AV):AV.frzL (a++b)=AV.frzL a++AV.frzL b:=by
 induction a with
 |nil=>rfl
 |cons x a ih=>simp[AV.frzL,ih]
theorem Yw:∀l:List Rul,AV.frzL (iL l)=iL l
 |[]=>rfl
 |r::l=>by rw[show iL (r::l)=rlC r++iL l from rfl,Zd,af1,Yw l]
theorem ahX{ts:List Typ}{capT:Option Nat}{c2:List AV}{n2:Nat}{cap2:Option Nat}(hts:ts.length<=1100000/\∀t∈ts,a8 t.1){adm:List Rdn}{ca:Option Nat}(ha:dnB adm){rs:List Rul}{cr:Option Nat}(hn:rs.length<=1000000)(hat:∀r∈rs,a8 r.at_){L:List Blk}{K:ajq}(h0:∀e,e≠0->(¬OkD adm\/OH ts rs≠0)->K (.tup [.nilptr,.int .i64 e]) L)(h1:OkD adm->OH ts rs=0->∀ib X c,(L++X)[ib]?=some (.cells [dnA adm,.sl (iL rs) rs.length c])->K (.tup [.ptr ib 0,.int .i64 0]) (L++X)):
  ajp 33 [.agg [.sl (cq ts) ts.length capT,.sl c2 n2 cap2],.sl (adm.map ah) adm.length ca,.sl (dz rs) rs.length cr] L K:=by
 have kk1:Hid (Ctr Tryz.prog 36 [.sl (adm.map ah) adm.length ca] (iQ (prS adm))):=@hid _ (λ{L K} q=>jm ha.1 ha.2 q);have kk2:Hid (∀{c:Option Nat}{L:List Blk}{K:ajq},K (dnA adm) L->ajp 59 [.sl (adm.map ah) adm.length ca,.sl [] 0 c] L K):=@hid _ (by intro c L K q;exact XE ha.1 ha.2 q);obtain⟨⟨p1,e1⟩,hp1⟩:∃q,prS adm=q:=⟨_,rfl⟩;have o1:OkD adm↔e1=0:=by unfold OkD;rw[hp1]
 rw[hp1]at kk1;simp only[iQ]at kk1;obtain⟨TS,hTS⟩:=ajl (AV.sl (cq ts) ts.length capT);obtain⟨CS,hCS⟩:=ajl (AV.sl c2 n2 cap2);by_cases he:e1=0;rotate_left;replace h0:=hid (h0 e1 he (.inl λc=>he (o1.1 c)));clear h1 hp1 o1 hat hts;rw[hTS,hCS];refine ajo Rk ?_;exact ab rfl h0.o;subst he;have hod:=o1.2 rfl;replace h0:=hid h0;replace h1:=hid (h1 hod);replace hat:=hid hat;have hts':=hid hts;have hfind:Hid (∀{n:List UInt8},a8 n->∀{L:List Blk}{K:ajq},K (Fk (fS ts n)) L->ajp 45 [.agg [TS,CS],.str n] L K):=@hid _ (λ{n} hn {L K} q=>by rw[<- hTS,<- hCS];exact aeK hts.1 hts.2 hn q);rw[hTS,hCS];clear hp1 o1 hts hTS hCS hod;refine ajo Rk ?_;refine V2 (L.length+1) 1 8 (c:=[dnA adm,.sl [] 0 (some 0)]) (l:=[]) (n:=0) amN rfl (ajX 8).symm ?_;refine aq (λm T' L'=>∃(k:Nat) (C:List AV) (X:List Blk),m=rs.length-k/\k<=rs.length/\Hid (C=iL (rs.take k))/\Hid ((∀r∈rs.take k,bkE ts r=0)/\OH ts (rs.drop k)=OH ts rs)/\T'=[(32,.int .i64 (k:Int)),(31,.int .i64 rs.length),(30,.sl (dz rs) rs.length cr),(10,.ptr (L.length+1) 0),(3,.ptr L.length 0)]/\L'=L++([.cells [TS,CS],.cells [dnA adm,.gsl C k (L.length+2) 8],.spare k 8]++X)) amQ ⟨0,[],[],rfl,aju _,hid rfl,hid ⟨amN,rfl⟩,rfl,by simp[dnA]⟩ ?_;clear kk1 kk2;rintro _ _ _ ⟨k,C,X,rfl,hk,hC,hI,rfl,rfl⟩;by_cases hlt:k<rs.length
 .have g1:(k:Int)<(rs.length:Int):=amM;have g2:=ajn k amM;have e3:=Yr hlt;have e4:k*6+6<=(dz rs).length:=(by rw[WA];omega);obtain⟨r,hrr⟩:=ajl (rs.getD k default);have hm:r∈rs:=(by rw[<- hrr];simp[hlt]);have hdr:rs.drop k=r::rs.drop (k+1):=(by rw[ajY hlt,<- hrr];simp[hlt]);have htk:rs.take (k+1)=rs.take k++[r]:=(by rw[ajN hlt,<- hrr];simp[hlt]);have hI2:=hI.o;rw[hdr,OH]at hI2;have hat2:=hat.o r hm;rw[hrr]at e3;have hC2:=hid (show C++rlC r=iL (rs.take (k+1))by rw[hC.o,htk,adL];simp[iL]);have hgood:=hid (λhz:bkE ts r=0=>(show(∀r∈rs.take (k+1),bkE ts r=0)/\OH ts (rs.drop (k+1))=OH ts rs from⟨λy hy=>by rw[htk]at hy;rcases ajx.1 hy with hy|hy;exact hI2.1 y hy;rw[ajI.1 hy];exact hz,by have:=hI2.2;rwa[if_neg (by simpa using hz)]at this⟩));have hbad:=hid (λhz:bkE ts r≠0=>(show OH ts rs≠0 by rw[<- hI2.2,if_pos hz];exact hz));have kk3:Hid (Ctr Tryz.prog 45 [.agg [TS,CS],.str r.at_] (Fk (fS ts r.at_))):=@hid _ (λ{L K} q=>hfind.o hat2 q);clear hI hI2 hdr htk hrr hm hC hat2;have hbk:bkE ts r=bkE ts r:=rfl;unfold bkE at hbk;obtain⟨w,d,wh,at_,rg,al⟩:=r;obtain⟨⟨P,pe⟩,hP⟩:∃q,da d=q:=⟨_,rfl⟩;obtain⟨⟨Q,qe⟩,hQ⟩:∃q,da wh=q:=⟨_,rfl⟩;have kk1:Hid (Ctr Tryz.prog 77 [.str d] (Tf (P,pe))):=@hid _ (λ{L K} q=>abe (by rw[hP];exact q));have kk2:Hid (Ctr Tryz.prog 77 [.str wh] (Tf (Q,qe))):=@hid _ (λ{L K} q=>abe (by rw[hQ];exact q));have hbE:bkE ts ⟨w,d,wh,at_,rg,al⟩=if w<0\/4<w then 24 else if pe≠0 then pe else if w<3/\P≠[]then 2 else if qe≠0 then qe else if at_≠[]/\fS ts at_=none then 20 else if rg<1\/15<rg then 23 else 0:=by unfold bkE;simp only[hP,hQ]
  have hrl:rlC ⟨w,d,wh,at_,rg,al⟩=[.int .i64 w,.str d,.str wh,.str at_,.int .i64 rg,.bool al,.sl (P.map ah) P.length none,.sl (Q.map ah) Q.length none]:=(by simp only[rlC,Kj,hP,hQ];rfl);rw[hrl]at hC2;simp only[Kj,Tf,Fk]at e3 kk1 kk2 kk3;clear hP hQ hrl hbk;obtain⟨o,ho⟩:=ajl (fS ts at_);rw[ho]at kk3 hbE;obtain⟨⟨t1,t2,t3,t4⟩,hty⟩:∃t,o.getD me=t:=⟨_,rfl⟩;rw[hty]at kk3;simp only[tyC]at kk3;replace hbE:=hid hbE;by_cases hA:w<0\/4<w;have q1:=decide_eq_true hA;have hx:=hid (show bkE ts ⟨w,d,wh,at_,rg,al⟩=24 by rw[hbE.o,if_pos hA]);clear hA;refine wk ?_;exact ab rfl (h0.o 24 (by decide) (.inr (hbad.o (by rw[hx.o];decide))));have q1:=decide_eq_false hA;replace hA:=hid hA;by_cases hB:pe=0;rotate_left;have hx:=hid (show bkE ts ⟨w,d,wh,at_,rg,al⟩=pe by rw[hbE.o,if_neg hA.o,if_pos hB]);refine wk ?_;exact ab rfl (h0.o pe hB (.inr (hbad.o (by rw[hx.o];exact hB))));subst hB;by_cases hCc:w<3/\P≠[];have q2:decide (w<3/\(0:Int)<(P.length:Int))=true:=decide_eq_true ⟨hCc.1,by have:=akh.2 hCc.2;omega⟩;have hx:=hid (show bkE ts ⟨w,d,wh,at_,rg,al⟩=2 by rw[hbE.o,if_neg hA.o,if_neg amN,if_pos hCc]);clear hCc;refine wk ?_;exact ab rfl (h0.o 2 (by decide) (.inr (hbad.o (by rw[hx.o];decide))));have q2:decide (w<3/\(0:Int)<(P.length:Int))=false:=decide_eq_false λc=>hCc ⟨c.1,λe=>by rw[e]at c;simp at c⟩
  replace hCc:=hid hCc;by_cases hD:qe=0;rotate_left;have hx:=hid (show bkE ts ⟨w,d,wh,at_,rg,al⟩=qe by rw[hbE.o,if_neg hA.o,if_neg amN,if_neg hCc.o,if_pos hD]);refine wk ?_;exact ab rfl (h0.o qe hD (.inr (hbad.o (by rw[hx.o];exact hD))));subst hD;by_cases hE:at_≠[]/\o=none;have hx:=hid (show bkE ts ⟨w,d,wh,at_,rg,al⟩=20 by rw[hbE.o,if_neg hA.o,if_neg amN,if_neg hCc.o,if_neg amN,if_pos hE]);have q3:decide (at_=[])=false:=decide_eq_false hE.1;have q4:o.isSome=false:=(by rw[hE.2];rfl);clear hE ho;refine wk ?_;exact ab rfl (h0.o 20 (by decide) (.inr (hbad.o (by rw[hx.o];decide))));have q3:(!decide (at_=[]) && !o.isSome)=false:=by
   cases o with
   |some x=>simp
   | none => have : at_ = [] := Decidable.byContradiction fun e => hE ⟨e, rfl⟩
             simp[this]
  replace hE:=hid hE;by_cases hF:rg<1\/15<rg;have hx:=hid (show bkE ts ⟨w,d,wh,at_,rg,al⟩=23 by rw[hbE.o,if_neg hA.o,if_neg amN,if_neg hCc.o,if_neg amN,if_neg hE.o,if_pos hF]);have q5:=decide_eq_true hF;clear hF ho;refine wk ?_;exact ab rfl (h0.o 23 (by decide) (.inr (hbad.o (by rw[hx.o];decide))));have q5:=decide_eq_false hF;have hx:=hgood.o (show bkE ts ⟨w,d,wh,at_,rg,al⟩=0 by rw[hbE.o,if_neg hA.o,if_neg amN,if_neg hCc.o,if_neg amN,if_neg hE.o,if_neg hF]);replace hx:=hid hx;have fP:AV.frzL (P.map ah)=P.map ah:=aY P;have fQ:AV.frzL (Q.map ah)=Q.map ah:=aY Q;clear hF ho hbE hgood hbad;refine wk ?_;exact amR amM amP ⟨k+1,_,_,rfl,hlt,hC2,hx,rfl,by simp;rfl⟩
 have g1:¬(k:Int)<(rs.length:Int):=amM;have hk2:k=rs.length:=amM;have hI2:=hI.o;have hC2:=hC.o;rw[hk2,ajL,ake]at hI2;rw[hk2,ajL]at hC2;subst hC2;replace hI2:=hid hI2;replace hk2:=hid hk2;clear hI hC hlt;refine wk ?_;refine JT (L.length+1) (c:=[dnA adm,.gsl (iL rs) k (L.length+2) 8]) amN ?_;have e:AV.frzL [dnA adm,.gsl (iL rs) k (L.length+2) 8]=[dnA adm,.sl (iL rs) rs.length none]:=by simp only[AV.frzL,AV.frz,dnA,aY,Yw,hk2.o]
 rw[e];simp;exact ac (h1.o (by rw[<- hI2.o.2];rfl) _ _ none amN)
end Go.Proofs.YtdnfjhflkkpokaaGreatDoor.Av
set_option maxRecDepth 100000
namespace Go.Proofs.YtdnfjhflkkpokaaGreatDoor.Av
open Go
def wY:LSO:=[Ak 0]
def wX:LSO:=[o1 1 (.build [(.str []),(.str [])] [(0,(1,(.av (.str [100,99])))),(1,(1,(.av (.str [122]))))]),BC 2 1,Bf 3 2,Aa 0 3]
def qq:aQ:=⟨4,(amF wY [] (amF wX Cp .ret)),[(.tmp 0)]⟩
attribute [push_cast] wY wX
theorem Rh:amK 31=amL qq:=amO
def jX:LSO:=[A5 1 0,Ci 2,Aj 3]
def jW:LSO:=[AL 14 15,Cj 4,An 2 4 14]
def jV:LSO:=[AL 16 31,Ai 17 30 16,Aa 15 17,Ap 18 15,Aq 19 15,Aa 5 18,Aa 6 19]
def jU:LSO:=[AL 21 31,Ai 22 32 21,Aa 20 22,Ap 23 20,Aq 24 20,Aa 7 23,Aa 8 24]
def jT:LSO:=[Aa 25 6,A8 26 25 0,Aa 27 26,.grp none 27 false
 [Ag 28 27 5,BI 29 27 28]
 30 (tm 29),Aa 31 30,.grp none 31 false
 [AA 32 31 0 1,AB 33 31 1 32,AM 34 31 33,AF 35 31 34 30]
 36 (tm 35),Aa 37 36,.grp none 37 false
 [AA 38 37 2 1,AB 39 37 1 38,AM 40 37 39,AF 41 37 40 20]
 42 (tm 41),Aa 43 42,.grp none 43 false
 [AA 44 43 1 1,AB 45 43 1 44,og 46 43 false (.build [(.int .i64 0),(.sl [] 0 (some 0)),(.sl [] 0 (some 0)),(.sl [] 0 (some 0))] [(1,(1,(tm 45)))]),AH 47 43 8 46,Bq 48 43 47]
 49 (tm 48)]
def jS:LSO:=[Ck 50,An 5 2 50,Aj 3]
def jR:LSO:=[Ar 52 2 4,Ac 53 1 1,Ab 54 1 53,Ac 55 2 1,Ab 56 1 55,AS 57 33 52 54 56,Aa 51 57,Ap 58 51,Aq 59 51,Aa 9 58,Aa 6 59]
def jQ:LSO:=[Aa 60 6,A8 61 60 0,Aa 62 61,.grp none 62 false
 [Ag 63 62 9,BI 64 62 63]
 65 (tm 64)]
def jP:LSO:=[Ck 66,An 5 2 66,Aj 3]
def jO:LSO:=[Ac 67 0 1,Ab 68 1 67,Af 69 68,Ad 70 0]
def jl:LSO:=[Al 71 70 69]
def jk:LSO:=[Am 72 4 68 70,Ar 73 4 72,o1 11 (.alloc [(.int .i64 0),(.sl [] 0 (some 0)),(.sl [] 0 (some 0)),(.sl [] 0 (some 0))]),An 4 11 73]
def jj:LSO:=[Ar 74 4 11,Ai 75 8 74,A7 76 75]
def ji:LSO:=[Ck 77,An 5 2 77,Aj 3]
def jh:LSO:=[Ar 79 2 4,Ac 80 3 11,Ab 81 1 80,Au 82 14 79 81,Aa 78 82,Ap 83 78,Aq 84 78,Aa 12 83,Aa 13 84]
def jg:LSO:=[Aa 85 13,A8 86 85 0]
def jf:LSO:=[Aa 87 12,Ac 88 3 11,An 1 88 87]
def je:LSO:=[Aa 89 5,Ar 90 4 11,Au 91 34 89 90]
def jd:LSO:=[Aa 92 7,Ar 93 4 11,Au 94 35 92 93]
def jc:LSO:=[Ah 95 70 1,Aa 70 95]
def jb:LSO:=[Aa 96 5,Aa 97 9,Aa 98 7,Ac 99 1 1,Ab 100 1 99,Ac 101 2 1,Ab 102 1 101,
 o1 103 (.build [(.sl [] 0 (some 0)),(.sl [] 0 (some 0))] [(0,(1,(tm 100))),(1,(1,(tm 102)))]),
 o1 104 (.build [.nilptr,.nilptr,.nilptr,(.sl [] 0 (some 0)),(.sl [] 0 (some 0))] [(0,(1,(tm 96))),(1,(1,(tm 97))),(2,(1,(tm 98))),(3,(2,(tm 103)))]),An 5 2 104,A6 3]
def ig:aQ:=⟨105,(amF jX [] (amF jW Cl (amF jV Cw (amF jU [false,true,false,false,false,false,false] (.seq (amF jT Cu (amH 49 (.sreg jS Cl))) (amF jR CP (.seq (amF jQ Cp (amH 65 (.sreg jP Cl))) (.seq (amF jO C0 (amI 0 (amF jl [] (.seq (amJ 71 0) (.seq (.block 1 (amF jk Cm (.seq (amF jj Cm (amH 76 (.sreg ji Cl))) (amF jh CE (.seq (amF jg Cl (amG 86 (.exit 1) .skip)) (amF jf [false,false] (amF je CG (.sreg jd CG)))))))) (.sreg jc Cl)))))) (amF jb Cu .ret))))))))),[(.cell true 5 2),(.tmp 3)]⟩
attribute [push_cast] jX jW jV jU jT jS jR jQ jP jO jl jk jj ji jh jg jf je jd jc jb
theorem yy:amK 7=amL ig:=amO
def EZ:LSO:=[Aj 0]
def EY:LSO:=[o1 11 (.build [(.int .i64 0),(.str []),(.str []),(.str []),(.int .i64 0),(.bool false)] [(4,(1,(iv 7))),(5,(1,(.av (.bool true))))]),
 o1 12 (.bslice false 6 1 [(.int .i64 0),(.str []),(.str []),(.str []),(.int .i64 0),(.bool false)] [(0,(6,(tm 11)))]),AL 13 31,
 o1 14 (.build [(.int .i64 0),(.sl [] 0 (some 0)),(.sl [] 0 (some 0)),(.sl [] 0 (some 0))] [(0,(1,(iv 1))),(1,(1,(tm 13)))]),
 o1 15 (.build [(.str []),(.str [])] [(0,(1,(.av (.str [99,110])))),(1,(1,(.av (.str [97]))))]),BC 16 15,Bf 17 16,AL 18 31,Bd 19 17 18,
 o1 20 (.bslice false 1 1 [(.str [])] [(0,(1,(.av (.str [97]))))]),o1 21 (.build [(.str []),(.sl [] 0 (some 0))] [(0,(1,(.av (.str [99,110])))),(1,(1,(tm 20)))]),Bw 22 21,
 o1 23 (.build [(.int .i64 0),(.sl [] 0 (some 0)),(.sl [] 0 (some 0)),(.sl [] 0 (some 0))] [(0,(1,(iv 1))),(1,(1,(tm 19))),(3,(1,(tm 22)))]),
 o1 24 (.bslice false 4 2 [(.int .i64 0),(.sl [] 0 (some 0)),(.sl [] 0 (some 0)),(.sl [] 0 (some 0)),(.int .i64 0),(.sl [] 0 (some 0)),(.sl [] 0 (some 0)),(.sl [] 0 (some 0))] [(0,(4,(tm 14))),(4,(4,(tm 23)))]),
 o1 25 (.build [(.sl [] 0 (some 0)),(.sl [] 0 (some 0)),(.sl [] 0 (some 0))] [(2,(1,(tm 12))),(0,(1,(tm 24)))]),
 o1 1 (.alloc [(.sl [] 0 (some 0)),(.sl [] 0 (some 0)),(.sl [] 0 (some 0))]),An 3 1 25]
def EX:LSO:=[Ar 27 3 1,Ai 28 7 27,Aa 26 28,Ap 29 26,Aq 30 26,Ci 2,An 5 2 29,Aa 3 30]
def EW:LSO:=[Aa 31 3,A7 32 31]
def EV:LSO:=[Aj 0]
def EU:LSO:=[o1 33 (.build [(.int .i64 0),(.str []),(.str []),(.sl [] 0 (some 0)),(.sl [] 0 (some 0))] [(0,(1,(iv 0)))]),
 o1 4 (.alloc [(.int .i64 0),(.str []),(.str []),(.sl [] 0 (some 0)),(.sl [] 0 (some 0))]),An 5 4 33]
def ET:LSO:=[Ac 35 0 2,Ab 36 1 35,As 37 36,Ac 38 0 37,Ab 39 1 38,AL 40 15,Ac 41 1 2,Ab 42 1 41,AL 43 31,Ar 44 5 4,
 o1 45 (.build [(.sl [] 0 (some 0)),(.sl [] 0 (some 0)),(.int .i64 0),(.int .i64 0),(.str []),(.str []),(.sl [] 0 (some 0)),(.sl [] 0 (some 0)),(.sl [] 0 (some 0)),(.bool false),(.int .i64 0),(.int .i64 0)] [(1,(1,(tm 43))),(2,(1,(iv 2))),(3,(5,(tm 44))),(10,(1,(iv 1)))]),
 o1 46 (.call 21 [(tm 39),(tm 40),(tm 42),(tm 45),(.av (.sl [] 0 (some 0)))]),Aa 34 46,Ap 47 34,Aq 48 34,Br 49 34,Aa 5 47,Aa 6 48,Aa 7 49]
def ES:LSO:=[Ac 51 0 2,Ab 52 1 51,As 53 52,Ac 54 0 53,Ab 55 1 54,AL 56 15,Ac 57 1 2,Ab 58 1 57,AL 59 31,Ar 60 5 4,
 o1 61 (.build [(.sl [] 0 (some 0)),(.sl [] 0 (some 0)),(.int .i64 0),(.int .i64 0),(.str []),(.str []),(.sl [] 0 (some 0)),(.sl [] 0 (some 0)),(.sl [] 0 (some 0)),(.bool false),(.int .i64 0),(.int .i64 0)] [(1,(1,(tm 59))),(2,(1,(iv 1))),(3,(5,(tm 60)))]),
 o1 62 (.call 21 [(tm 55),(tm 56),(tm 58),(tm 61),(.av (.sl [] 0 (some 0)))]),Aa 50 62,Ap 63 50,Aq 64 50,Br 65 50,Aa 8 63,Aa 9 64,Aa 10 65]
def ER:LSO:=[Aa 66 5,Af 67 66,Ao 68 67 1,Aa 69 68,.grp none 69 true
 [Ae 70 69 6,AX 71 69 70 4]
 72 (tm 71),Aa 73 72,.grp none 73 true
 [Ae 74 73 8,AI 75 73 74,AX 76 73 75 1]
 77 (tm 76),Aa 78 77,.grp none 78 true
 [Ae 79 78 9,AX 80 78 79 0]
 81 (tm 80),Aa 82 81,.grp none 82 true
 [Ae 83 82 8,og 84 82 true (.iaddr 2 (tm 83) (iv 0)),Ay 85 82 1 84,Az 86 82 1 85,AI 87 82 86,AX 88 82 87 1]
 89 (tm 88),Aa 0 89]
def tF:aQ:=⟨90,(amF EZ [] (amF EY [true,false,false,false,false,false,false,false,false,false,false,false,false,false,false,false] (amF EX Cw (.seq (amF EW Cl (amH 32 (.sreg EV []))) (amF EU Cl (.seq (.sdreg ET [.pure,(.read 0 0),(.read 0 0),.pure,(.read 0 0),(.read 0 0),.pure,(.read 0 0),(.read 0 0),(.read 0 0),.pure,(.read 0 0),.pure,.pure,.pure,.pure,.pure,.pure] CT) (.seq (.sdreg ES [.pure,(.read 0 0),(.read 0 0),.pure,(.read 0 0),(.read 0 0),.pure,(.read 0 0),(.read 0 0),(.read 0 0),.pure,(.read 0 0),.pure,.pure,.pure,.pure,.pure,.pure] CT) (amF ER C4 .ret)))))))),[(.tmp 0)]⟩
attribute [push_cast] EZ EY EX EW EV EU ET ES ER
theorem RZ:amK 9=amL tF:=amO
attribute [push_cast] qq ig tF
set_option maxHeartbeats 8000000
set_option maxRecDepth 100000
abbrev PAt:=Nat×Atr
abbrev pC(q:PAt):List AV:=[.str q.2.1,.lsl q.1 0 q.2.2.length none 1]
def psC(ps:List PAt):List AV:=ps.flatMap pC
abbrev noP:PAt:=(0,[],[])
def ZA(L:List Blk)(b p:Nat)(s1 s2:AV)(ps:List PAt):Prop :=
 b<=p/\(ps.map (·.1)).Nodup/\(∀q∈ps,b<=q.1/\q.1≠p/\∃rest,L[q.1]?=some (.cells (q.2.2.map AV.str++rest))) /\
 ((L[p]?=some (.cells [s1,s2,.sl [] 0 (some 0)])/\ps=[])\/∃r rest,L[p]?=some (.cells [s1,s2,.lsl r 0 ps.length none 2])/\L[r]?=some (.cells (psC ps++rest))/\b<=r/\r≠p/\∀q∈ps,q.1≠r)
theorem ZA.row{L:List Blk}{b p:Nat}{s1 s2:AV}{ps:List PAt}(h:ZA L b p s1 s2 ps):∃row,L[p]?=some (.cells [s1,s2,row])/\ajj L (psC ps) ps.length 2 row/\(row=.sl [] 0 (some 0)/\ps=[]\/∃r rest,row=.lsl r 0 ps.length none 2/\L[r]?=some (.cells (psC ps++rest))/\b<=r/\r≠p/\∀q∈ps,q.1≠r):=by obtain⟨_,_,_,h4⟩:=h;rcases h4 with⟨h1,rfl⟩|⟨r,rest,h1,h2,h3⟩;exact⟨_,h1,.inl ⟨some 0,rfl⟩,.inl ⟨rfl,rfl⟩⟩;exact⟨_,h1,.inr ⟨r,none,rest,rfl,h2⟩,.inr ⟨r,rest,rfl,h2,h3⟩⟩
def Kpt(b:Nat)(L L':List Blk):Prop:=b<=L'.length/\∀k,k<b->L'[k]?=L[k]?
theorem Kpt.trans{b:Nat}{L L1 L2:List Blk}(h:Kpt b L L1)(k:Kpt b L1 L2):Kpt b L L2:=⟨k.1,λi hi=>(k.2 i hi).trans (h.2 i hi)⟩
theorem Kpt.app{b:Nat}{L:List Blk}(h:b<=L.length)(X:List Blk):Kpt b L (L++X):=⟨by simp;omega,λk hk=>by rw[ajw amM]⟩
theorem Kpt.eq{b:Nat}{L L':List Blk}(h:Kpt b L L')(hb:b=L.length):∃X,L'=L++X:=by refine⟨L'.drop L.length,?_⟩;apply alv;intro i;rw[akT];split;rename_i hi;rw[h.2 i amM];rw[aki];congr 1;omega
theorem acU{syn:Int}{single:Bool}{l:List (List UInt8)}{v:List UInt8}{vs:List (List UInt8)}(h:sX syn v=none):fX syn single l (v::vs)=([],21):=by rw[fX,h]
theorem acT{syn:Int}{single:Bool}{l:List (List UInt8)}{v n:List UInt8}{vs:List (List UInt8)}(h:sX syn v=some n):fX syn single l (v::vs)=if inM syn l n=true then([],20)else fX syn single (ik syn v false l) vs:=by rw[fX,h]
theorem ZA.frame{L L':List Blk}{b p:Nat}{s1 s2:AV}{ps:List PAt}(h:ZA L b p s1 s2 ps)(hf:∀k,k<L.length->L'[k]?=L[k]?):ZA L' b p s1 s2 ps:=by
 have up:∀(i:Nat) (k:Blk),L[i]?=some k->L'[i]?=some k:=λi k hk=>by rw[hf i (ajr.1 hk).1];exact hk
 obtain⟨h1,h2,h3,h4⟩:=h;refine⟨h1,h2,λq hq=>?_,?_⟩;obtain⟨a,c,rest,d⟩:=h3 q hq;exact⟨a,c,rest,up _ _ d⟩;rcases h4 with⟨a,c⟩|⟨r,rest,a,c,d⟩;exact .inl ⟨up _ _ a,c⟩;exact .inr ⟨r,rest,up _ _ a,up _ _ c,d⟩
theorem acg{l:List Nat}{c x:Nat}(h:l.Nodup)(hx:∀i:Nat,i≠c->l[i]?≠some x):(l.set c x).Nodup:=by rw[List.nodup_iff_pairwise_ne,akB]at h⊢;intro i j hi hj hij;simp only[List.length_set]at hi hj;rw[List.getElem_set,List.getElem_set];split;rename_i e1;rw[if_neg amM];intro e;exact hx j amM (by rw[ajF hj,e]);split;intro e;exact hx i amM (by rw[ajF hi,<- e]);exact h i j hi hj hij
theorem SW{α:Type}{l:List α}{c:Nat}{x q:α}(h:q∈l.set c x):q=x\/∃i,i≠c/\l[i]?=some q:=by obtain⟨i,hi⟩:=alm.1 h;rw[aj1]at hi;split at hi;split at hi;cases hi;exact .inl rfl;cases hi;rename_i e;exact .inr ⟨i,λe'=>e e'.symm,hi⟩
theorem abn{ps:List PAt}(h:(ps.map (·.1)).Nodup){i c:Nat}{q a:PAt}(hi:ps[i]?=some q)(hc:ps[c]?=some a)(hne:i≠c):q.1≠a.1:=λe=>by obtain⟨h1,rfl⟩:=ajr.1 hi;obtain⟨h2,rfl⟩:=ajr.1 hc;rw[List.nodup_iff_pairwise_ne,akB]at h;rcases Nat.lt_or_gt_of_ne hne with h3|h3;exact h i c (by simpa using h1) (by simpa using h2) h3 (by simpa using e);exact h c i (by simpa using h2) (by simpa using h1) h3 (by simpa using e.symm)
theorem ZA.vals{L L' L2:List Blk}{b p:Nat}{s1 s2:AV}{ps:List PAt}{c j:Nat}{u:List (List UInt8)}{rest:List AV}(h:ZA L b p s1 s2 ps)(hc:c<ps.length){l0 jat:Nat}(hl0:L.length<=l0)(hjat:jat=(ps.getD c noP).1)(hfr:∀k,k<l0->k≠jat->L'[k]?=L[k]?\/L.length<=k)(hj:j=jat\/l0<=j)(hLj:L'[j]?=some (.cells (u.map AV.str++rest))){r:Nat}{rest2:List AV}(hLp:L[p]?=some (.cells [s1,s2,.lsl r 0 ps.length none 2]))(hLr:L[r]?=some (.cells (psC ps++rest2)))(hbr:b<=r)(hrp:r≠p)(hqr:∀q∈ps,q.1≠r)(h2:L2=L'.set r (.cells (psC (ps.set c (j,(ps.getD c noP).2.1,u))++rest2))):ZA L2 b p s1 s2 (ps.set c (j,(ps.getD c noP).2.1,u)):=by
 obtain⟨g1,g2,g3,g4⟩:=h;have hcg:ps[c]?=some (ps.getD c noP):=by simp[hc]
 have hm:ps.getD c noP∈ps:=akg hcg;have lt:∀(i:Nat) (k:Blk),L[i]?=some k->i<L.length:=λi k hk=>(ajr.1 hk).1
 obtain⟨m1,m2,mr,m3⟩:=g3 _ hm;rw[<- hjat]at m1 m2 m3;have hjl:=lt _ _ m3;have hrl:=lt _ _ hLr;have hpl:=lt _ _ hLp;have keep:∀k,k<L.length->k≠jat->k≠r->L2[k]?=L[k]?:=λk hk hkj hkr=>by rw[h2,ajJ (Ne.symm hkr)];rcases hfr k amM hkj with e|e;exact e;omega
 have hrj:r≠jat:=by rw[hjat];exact(hqr _ hm).symm
 have hjr:j≠r:=by rcases hj with e|e<;>omega
 have hrl':r<L'.length:=by rcases hfr r amM hrj with e|e;rw[hLr]at e;exact(ajr.1 e).1;omega
 refine⟨g1,?_,λq hq=>?_,.inr ⟨r,rest2,?_,?_,hbr,hrp,λq hq=>?_⟩⟩;rw[List.map_set];refine acg g2 λi hi e=>?_
 rw[akr,ajW]at e;obtain⟨q,e1,e2⟩:=e;have:=abn g2 e1 hcg hi;rw[<- hjat]at this;obtain⟨_,_,_,q3⟩:=g3 q (akg e1);have:=lt _ _ q3;omega;rcases SW hq with rfl|⟨i,hi,e⟩;refine⟨by simp only;omega,?_,rest,?_⟩;simp only;rcases hj with e|e;rw[e];exact m2;omega;simp only;rw[h2,ajJ (Ne.symm hjr)];exact hLj;obtain⟨q1,q2,qr,q3⟩:=g3 q (akg e);have hne:=abn g2 e hcg hi;rw[<- hjat]at hne;refine⟨q1,q2,qr,?_⟩;rw[keep _ (lt _ _ q3) hne (hqr q (akg e))];exact q3;rw[keep p hpl (λe=>m2 e.symm) (Ne.symm hrp),List.length_set];exact hLp;rw[h2];simp[hrl'];rcases SW hq with rfl|⟨i,hi,e⟩;exact hjr;exact hqr q (akg e)
def ah3(ts:List Typ):Prop:=ts.length<=1100000/\(∀ty∈ts,a8 ty.1)/\∀ty∈ts,fS ts ty.1=some ty
theorem Uo{n:List UInt8}{vs:List (List UInt8)}{a:Atr}:∀{d:Bool}{l:List Atr},a∈oS n vs d l->a=(n,vs)\/a∈l
 | d,[],h=>by
   rw[oS]at h;split at h
   .cases h
   .simp at h;exact .inl h
 | d,x::t,h=>by
   rw[oS,ajx,ajx]at h;rcases h with(h|h)|h
   .split at h
    .simp at h;exact .inl h
    .cases h
   .split at h
    .simp at h;exact .inr (by simp[h])
    .cases h
   .rcases Uo h with e|e
    .exact .inl e
    .exact .inr (by simp[e])
theorem Xk{n:List UInt8}{vs:List (List UInt8)}:∀{d:Bool}{l:List Atr},(oS n vs d l).length<=l.length+(if d=true then 0 else 1)
 |d,[]=>by rw[oS];split<;>simp
 | d,x::t=>by
   have ih:=@Xk n vs (d || !decide (ag x.1<ag n)) t;rw[oS];simp only[ajA,ajz];have h1:(if ag n≠ag x.1 then[x]else[]).length<=1:=(by split<;>simp);obtain⟨z,hz⟩:=ajl ((if ag n≠ag x.1 then[x]else[]).length);rw[hz]at h1⊢;cases d with
   | true =>
     simp only[akx,false_and,if_false,aj9,alf,if_true]at ih⊢;omega
   | false =>
     by_cases hx:ag x.1<ag n
     .simp only[hx,decide_true,alc,Bool.or_self,ajK,if_false]at ih⊢;simp;omega
     .simp only[hx,decide_false,alL,alP,if_true]at ih⊢;simp;omega
theorem adg{l:List Atr}{n:List UInt8}{m:Nat}(h:∀a∈l,a.2.length<=m):(md l n).length<=m:=by
 induction l with
 |nil=>simp[md]
 | cons a l ih =>
   rw[md];split
   .exact h a amN
   .exact ih λb hb=>h b (by simp[hb])
end Go.Proofs.YtdnfjhflkkpokaaGreatDoor.Av
set_option maxRecDepth 100000
namespace Go.Proofs.YtdnfjhflkkpokaaGreatDoor.Av
open Go
def Py:LSO:=[Ad 4 0]
def Px:LSO:=[Aa 6 0,Af 7 6,Ad 8 0]
def Pw:LSO:=[Al 9 8 7]
def Pv:LSO:=[Aa 10 8,Aa 5 10]
def Pu:LSO:=[Aa 11 0,Aa 12 5,Am 13 4 11 12,Ac 14 0 13,Ab 15 1 14,Ai 16 49 15,Aa 17 1,Ai 18 49 17,AD 19 16 18]
def Pt:LSO:=[Aa 20 5,Aa 4 20]
def Ps:LSO:=[Ah 21 8 1,Aa 8 21]
def Pr:LSO:=[Ad 4 (-1)]
def qm:aQ:=⟨22,(amF Py [] (.seq (amF Px Cs (amI 0 (amF Pw [] (.seq (amJ 9 0) (.seq (.block 1 (amF Pv Cl (amF Pu Cz (amH 19 (.sreg Pt Cl))))) (.sreg Ps Cl)))))) (amF Pr [] .ret))),[(.tmp 4)]⟩
attribute [push_cast] Py Px Pw Pv Pu Pt Ps Pr
theorem NV:amK 41=amL qm:=amO
def uS:LSO:=[Ak 4]
def uR:LSO:=[Aa 7 0,Af 8 7,Ad 9 0]
def uQ:LSO:=[Al 10 9 8]
def uP:LSO:=[Am 11 2 7 9,Ar 12 2 11,Ba 6,An 2 6 12]
def uO:LSO:=[Ac 13 0 6,Ab 14 1 13,Ai 15 49 14,Aa 16 1,Ai 17 49 16,AD 18 15 17]
def uN:LSO:=[o1 19 (.bslice false 1 0 [] []),Ac 20 1 6,Ab 21 1 20,BE 22 19 21,Aa 4 22]
def uM:LSO:=[Ah 23 9 1,Aa 9 23]
def uL:LSO:=[Ak 4]
def ql:aQ:=⟨24,(amF uS [] (.seq (amF uR [] (amI 0 (amF uQ [] (.seq (amJ 10 0) (.seq (.block 1 (amF uP Cm (amF uO Cq (amH 18 (.sreg uN Co))))) (.sreg uM Cl)))))) (amF uL [] .ret))),[(.tmp 4)]⟩
attribute [push_cast] uS uR uQ uP uO uN uM uL
theorem Rc:amK 29=amL ql:=amO
def Gc:LSO:=[Aw 4]
def Gb:LSO:=[Aa 8 0,Aa 9 1,Au 10 92 8 9,Aa 7 10,Ap 11 7,Aq 12 7,Aa 5 11,Aa 6 12]
def Ga:LSO:=[Aa 13 5,Aa 4 13]
def yc:aQ:=⟨14,(amF Gc [] (amF Gb C7 (amF Ga Cl .ret))),[(.tmp 4)]⟩
attribute [push_cast] Gc Gb Ga
theorem Tv:amK 142=amL yc:=amO
def Pq:LSO:=[Aj 6]
def Pp:LSO:=[Aa 9 1,Af 10 9,Ad 11 0]
def Po:LSO:=[Al 12 11 10]
def Pn:LSO:=[Am 13 1 9 11,Ab 14 1 13,Aa 8 14]
def Pm:LSO:=[Aa 15 0,Aa 16 8,Au 17 142 15 16,Aa 18 2,AD 19 17 18]
def Pl:LSO:=[A6 6]
def Pk:LSO:=[Ah 20 11 1,Aa 11 20]
def Pj:LSO:=[Aj 6]
def Ox:aQ:=⟨21,(amF Pq [] (.seq (amF Pp [] (amI 0 (amF Po [] (.seq (amJ 12 0) (.seq (.block 1 (amF Pn Cm (amF Pm Co (amH 19 (.sreg Pl []))))) (.sreg Pk Cl)))))) (amF Pj [] .ret))),[(.tmp 6)]⟩
attribute [push_cast] Pq Pp Po Pn Pm Pl Pk Pj
theorem Wd:amK 93=amL Ox:=amO
def Gm:LSO:=[Ak 6]
def Gl:LSO:=[Ak 7]
def Gk:LSO:=[Aj 8]
def Gj:LSO:=[Aa 11 1,Af 12 11,Ad 13 0]
def Gi:LSO:=[Al 14 13 12]
def Gh:LSO:=[Am 15 1 11 13,Ab 16 1 15,Aa 10 16]
def Gg:LSO:=[Aa 17 8,A7 18 17,Aa 19 18,.grp none 19 true
 [Ae 20 19 0,Ae 21 19 2,AE 22 19 142 20 21,Ae 23 19 0,Ae 24 19 10,AE 25 19 142 23 24,og 26 19 true (.bin .lss (tm 22) (tm 25))]
 27 (tm 26)]
def Gf:LSO:=[Aa 28 7,Aa 29 2,By 30 29,BE 31 28 30,Aa 7 31]
def Ge:LSO:=[A6 8]
def Gd:LSO:=[Aa 32 7,Aa 33 10,By 34 33,BE 35 32 34,Aa 7 35]
def zi:LSO:=[Ah 36 13 1,Aa 13 36]
def zh:LSO:=[Aa 37 8,A7 38 37]
def zg:LSO:=[Aa 39 7,Aa 40 2,By 41 40,BE 42 39 41,Aa 7 42]
def zf:LSO:=[Aa 43 7,Aa 6 43]
def yd:aQ:=⟨44,(amF Gm [] (amF Gl [] (amF Gk [] (.seq (amF Gj [] (amI 0 (amF Gi [] (.seq (amJ 14 0) (.seq (.block 1 (amF Gh Cm (.seq (amF Gg Cp (amG 27 (amF Gf Co (.sreg Ge [])) .skip)) (.sreg Gd Co)))) (.sreg zi Cl)))))) (.seq (amF zh Cl (amG 38 (.sreg zg Co) .skip)) (amF zf Cl .ret)))))),[(.tmp 6)]⟩
attribute [push_cast] Gm Gl Gk Gj Gi Gh Gg Gf Ge Gd zi zh zg zf
theorem Tw:amK 94=amL yd:=amO
def LV:LSO:=[A5 3 0,Ak 6,Ad 7 0]
def LU:LSO:=[Aa 12 2,Af 13 12,Ad 14 0]
def LT:LSO:=[Al 15 14 13]
def LS:LSO:=[Am 16 1 12 14,Ab 17 1 16,Aa 9 17]
def LR:LSO:=[Ac 19 1 3,Ab 20 1 19,Aa 21 9,Au 22 92 20 21,Aa 18 22,Ap 23 18,Aq 24 18,Aa 10 23,Aa 11 24]
def LQ:LSO:=[Aa 25 11,A7 26 25]
def LP:LSO:=[Ak 6,Ad 7 21]
def LO:LSO:=[Ac 27 1 3,Ab 28 1 27,Aa 29 1,Aa 30 10,AS 31 93 28 29 30]
def LN:LSO:=[Ak 6,Ad 7 20]
def LM:LSO:=[Ac 32 1 3,Ab 33 1 32,Aa 34 1,Aa 35 9,AS 36 94 33 34 35,Aa 1 36]
def Gr:LSO:=[Ah 37 14 1,Aa 14 37]
def Gq:LSO:=[Ac 38 2 3,Ab 39 1 38,Aa 40 39,.grp none 40 true
 [Ae 41 40 1,AI 42 40 41,BB 43 40 42 1]
 44 (tm 43)]
def Gp:LSO:=[Ak 6,Ad 7 19]
def Gn:LSO:=[Aa 45 1,Aa 6 45,Ad 7 0]
def JE:aQ:=⟨46,(amF LV [] (.seq (amF LU [] (amI 0 (amF LT [] (.seq (amJ 15 0) (.seq (.block 1 (amF LS Cm (amF LR CE (.seq (amF LQ Cl (amH 26 (.sreg LP []))) (.seq (amF LO Co (amH 31 (.sreg LN []))) (.sreg LM Cq)))))) (.sreg Gr Cl)))))) (.seq (amF Gq Cp (amH 44 (.sreg Gp []))) (amF Gn Cs .ret)))),[(.tmp 6),(.tmp 7)]⟩
attribute [push_cast] LV LU LT LS LR LQ LP LO LN LM Gr Gq Gp Gn
theorem VC:amK 42=amL JE:=amO
def Mb:LSO:=[Ak 6]
def Ma:LSO:=[Ak 7]
def L9:LSO:=[Aa 11 2,Af 12 11,Ao 13 12 0,Aa 8 13]
def L8:LSO:=[Aa 14 0,Af 15 14,Ad 16 0]
def L7:LSO:=[Al 17 16 15]
def L6:LSO:=[Am 18 2 14 16,Ar 19 2 18,Ba 10,An 2 10 19]
def LZ:LSO:=[Aa 20 8,A7 21 20,Aa 22 21,.grp none 22 true
 [Ae 23 22 1,Bu 24 22 49 23,Ay 25 22 0 10,Az 26 22 1 25,Bu 27 22 49 26,og 28 22 true (.bin .leq (tm 24) (tm 27))]
 29 (tm 28)]
def LY:LSO:=[Aa 30 7,Aa 31 1,Aa 32 2,o1 33 (.build [(.str []),(.sl [] 0 (some 0))] [(0,(1,(tm 31))),(1,(1,(tm 32)))]),Bw 34 33,B6 35 30 34,Aa 7 35]
def LX:LSO:=[A6 8]
def LW:LSO:=[Aa 36 1,Ai 37 49 36,Ac 38 0 10,Ab 39 1 38,Ai 40 49 39,Bg 41 37 40]
def GE:LSO:=[Aa 42 7,Ar 43 2 10,Bw 44 43,B6 45 42 44,Aa 7 45]
def GD:LSO:=[Ah 46 16 1,Aa 16 46]
def GC:LSO:=[Aa 47 8,A7 48 47]
def GB:LSO:=[Aa 49 7,Aa 50 1,Aa 51 2,o1 52 (.build [(.str []),(.sl [] 0 (some 0))] [(0,(1,(tm 50))),(1,(1,(tm 51)))]),Bw 53 52,B6 54 49 53,Aa 7 54]
def GA:LSO:=[Aa 55 7,Aa 6 55]
def JF:aQ:=⟨56,(amF Mb [] (amF Ma [] (amF L9 Cp (.seq (amF L8 [] (amI 0 (amF L7 [] (.seq (amJ 17 0) (.seq (.block 1 (amF L6 Cm (.seq (.seq (.sdreg LZ [.pure,.pure,.pure,.pure,(.read 0 0),.pure,(.read 0 0)] Cp) (amG 29 (amF LY Cr (.sreg LX [])) .skip)) (.seq (.sdreg LW [.pure,(.read 0 0),.pure,(.read 0 0)] Cq) (amG 41 (.sreg GE Co) .skip))))) (.sreg GD Cl)))))) (.seq (amF GC Cl (amG 48 (.sreg GB Cr) .skip)) (amF GA Cl .ret)))))),[(.tmp 6)]⟩
attribute [push_cast] Mb Ma L9 L8 L7 L6 LZ LY LX LW GE GD GC GB GA
theorem VD:amK 43=amL JF:=amO
def G2:LSO:=[A5 2 0,Ak 4,Ad 5 0]
def G1:LSO:=[Ak 6]
def G0:LSO:=[Aa 12 1,Af 13 12,Ad 14 0]
def GZ:LSO:=[Al 15 14 13]
def GY:LSO:=[Am 16 2 12 14,Ar 17 2 16,Ba 8,An 2 8 17]
def GX:LSO:=[Ac 18 0 2,Ab 19 1 18,Ac 20 0 8,Ab 21 1 20,Au 22 41 19 21,Aa 9 22]
def GW:LSO:=[Aa 23 9,AT 24 23 0]
def GV:LSO:=[Ak 4,Ad 5 17]
def GU:LSO:=[Ac 25 1 8,Ab 26 1 25,Af 27 26,Ao 28 27 0]
def GT:LSO:=[Ak 4,Ad 5 19]
def zx:LSO:=[Ac 30 0 2,Ab 31 1 30,Aa 32 9,Am 33 4 31 32,Ar 34 4 33,Aa 35 6,Ac 36 0 8,Ab 37 1 36,Au 38 29 35 37,Ac 39 1 8,Ab 40 1 39,AS 41 42 34 38 40,Aa 29 41,
 Ap 42 29,Aq 43 29,Aa 10 42,Aa 11 43]
def zw:LSO:=[Aa 44 11,A8 45 44 0]
def zu:LSO:=[Aa 46 11,Ak 4,Aa 5 46]
def zt:LSO:=[Aa 47 6,Ac 48 0 2,Ab 49 1 48,Aa 50 9,Am 51 4 49 50,Ac 52 0 51,Ab 53 1 52,Aa 54 10,AS 55 43 47 53 54,Aa 6 55]
def zr:LSO:=[Ah 56 14 1,Aa 14 56]
def zq:LSO:=[Aa 57 6,Aa 4 57,Ad 5 0]
def yg:aQ:=⟨58,(amF G2 [] (amF G1 [] (.seq (amF G0 [] (amI 0 (amF GZ [] (.seq (amJ 15 0) (.seq (.block 1 (amF GY Cm (amF GX Cq (.seq (amF GW Cl (amH 24 (.sreg GV []))) (.seq (amF GU Cp (amH 28 (.sreg GT []))) (.seq (.sdreg zx [.pure,(.read 0 0),.pure,(.read 0 0),(.read 0 0),.pure,.pure,(.read 0 0),(.read 0 0),.pure,(.read 0 0),(.read 0 0),.pure,.pure,.pure,.pure] [true,true,false,false,false,false,false,false,false,false,false,false,false,false,false,false,false]) (.seq (amF zw Cl (amH 45 (.sreg zu Cs))) (.sreg zt Cu)))))))) (.sreg zr Cl)))))) (amF zq Cs .ret)))),[(.tmp 4),(.tmp 5)]⟩
attribute [push_cast] G2 G1 G0 GZ GY GX GW GV GU GT zx zw zu zt zr zq
theorem Tz:amK 14=amL yg:=amO
attribute [push_cast] qm ql yc Ox yd JE JF yg
variable {L:List Blk}{K:ajq}
set_option maxHeartbeats 8000000
set_option maxRecDepth 100000
theorem ajg{ts:List Typ}{cap:Option Nat}{n:List UInt8}(hl:ts.length<=1100000)(hts:∀t∈ts,a8 t.1)(hn:a8 n)(h1:fS ts n=none->K (.int .i64 (-1)) L)(h2:∀k:Nat,k<ts.length->fS ts n=some (ts.getD k me)->K (.int .i64 k) L):
  ajp 41 [.sl (cq ts) ts.length cap,.str n] L K:=by
 replace h1:=hid h1;replace h2:=hid h2;refine ajo NV ?_;refine aq (λm T' L'=>∃k:Nat,m=ts.length-k/\k<=ts.length/\T'=[(8,.int .i64 (k:Int)),(7,.int .i64 ts.length),(0,.sl (cq ts) ts.length cap),(1,.str n)]/\L=L' /\
  ∀j,j<k->¬ag (ts.getD j me).1=ag n) (CutS (b:=ajs _)) ⟨0,rfl,aju _,rfl,rfl,amN⟩ ?_
 rintro _ _ L' ⟨k,rfl,hk,rfl,e,hr⟩;subst e;replace hr:=hid hr;by_cases hlt:k<ts.length;have g1:(k:Int)<(ts.length:Int):=amM;have g2:=ajn k amM;have e4:k*4<(cq ts).length:=by rw[tK];omega
 have e3:(cq ts).getD (k*4) .undef=.str (ts.getD k me).1:=by have h3:=congrArg (λl=>l[0]?) (qC hlt);simp only[akj (show 0<4 by omega),aki,akz]at h3;rw[ajO,h3];rfl
 obtain⟨ty,hty⟩:=ajl (ts.getD k me);have hm:a8 ty.1:=hts _ (by rw[<- hty];simp[hlt]);rw[hty]at e3;replace hty:=hid hty;by_cases hq:ag ty.1=ag n;have e:fS ts n=some (ts.getD k me):=Ol (d:=me) hlt (λj hj=>decide_eq_false (hr.o j hj)) (by rw[hty.o];exact decide_eq_true hq);have h':=hid (h2.o k hlt e);have kk1:=@amT _ _ _ _ (bu hm);have kk2:=@amT _ _ _ _ (bu hn);refine wk ?_;exact ac h'.o;have kk1:=@amT _ _ _ _ (bu hm);have kk2:=@amT _ _ _ _ (bu hn);refine wk ?_;refine amR amM amP ⟨k+1,rfl,hlt,rfl,rfl,λj hj=>?_⟩;rcases ajT j k with h|h;exact hr.o j h;have:j=k:=amM;subst this;rw[hty.o];exact hq;have g1:¬(k:Int)<(ts.length:Int):=amM;have h':=hid (h1.o (akJ.2 λty hty=>by obtain⟨j,hj,e⟩:=akk.1 hty;have:=hr.o j amM;simpa[hj,e]using this))
 refine wk ?_;exact ac h'.o
theorem N9{syn:Int}{v:List UInt8}{L:List Blk}{K:ajq}(h:K (.str (iy syn v)) L):ajp 142 [.int .i64 syn,.str v] L K:=by
 unfold iy at h;refine ajo Tv ?_;refine R8 ?_;rcases hm:sX syn v with _|m
 all_goals rw[hm]at h
 replace h:Hid (K (.str []) L):=hid h;simp only[YN];refine amU ?_;exact ac h.o;replace h:Hid (K (.str m) L):=hid h;simp only[YN];refine amU ?_;exact ac h.o
theorem aix{syn:Int}{l:List (List UInt8)}{cap:Option Nat}{n:List UInt8}(hl:l.length<=1100000)(h:K (.bool (inM syn l n)) L):
  ajp 93 [.int .i64 syn,.sl (l.map AV.str) l.length cap,.str n] L K:=by
 obtain⟨R,hR⟩:=ajl (inM syn l n);rw[hR]at h;replace h:=hid h;refine ajo Wd ?_;refine aq (λm T' L'=>∃k:Nat,m=l.length-k/\k<=l.length/\Hid (inM syn (l.drop k) n=R)/\T'=[(11,.int .i64 (k:Int)),(10,.int .i64 l.length),(9,.sl (l.map AV.str) l.length cap),(0,.int .i64 syn),(2,.str n)]/\L=L') (CutS (b:=ajs _)) ⟨0,rfl,aju _,hid (by simpa using hR),rfl,rfl⟩ ?_;rintro _ _ L' ⟨k,rfl,hk,hI,rfl,e⟩;subst e;by_cases hlt:k<l.length;have g1:(k:Int)<(l.length:Int):=amM;have g2:=ajn k amM;obtain⟨v,hv⟩:=ajl (l.getD k []);have g3:(l.map AV.str).getD k .undef=.str v:=by rw[<- hv];simp[hlt]
 have hdr:l.drop k=v::l.drop (k+1):=by rw[ajY hlt,<- hv];simp[hlt]
 have hI2:=hI.o;rw[hdr,inM,List.any_cons]at hI2;clear hv hdr hI hR;by_cases hq:iy syn v=n;rw[decide_eq_true hq,alf]at hI2;have h':=h.o;rw[<- hI2]at h';replace h':=hid h';clear hI2;have kk1:=@hid _ @N9;refine wk ?_;exact ac h'.o;rw[decide_eq_false hq,akE]at hI2;replace hI2:=hid hI2;have kk1:=@hid _ @N9;refine wk ?_;exact amR amM amP ⟨k+1,rfl,hlt,hI2,rfl,rfl⟩;have hke:k=l.length:=amM;subst hke;have g1:¬(l.length:Int)<(l.length:Int):=amM;have h':=h.o;rw[<- hI.o,ake]at h';replace h':=hid h';clear hI hR;refine wk ?_;exact ac h'.o
theorem ahC{syn:Int}{l:List (List UInt8)}{cap:Option Nat}{v:List UInt8}(hl:l.length<=1100000)(h:K (Xl (ik syn v false l)) L):
  ajp 94 [.int .i64 syn,.sl (l.map AV.str) l.length cap,.str v] L K:=by
 obtain⟨R,hR⟩:=ajl (ik syn v false l);rw[hR]at h;replace h:=hid h;refine ajo Tw ?_;refine bK (l:=[]) (n:=0) 7 1 rfl (ajX 1).symm ?_;refine aq (λm T' L'=>∃(k:Nat) (d:Bool) (u:List (List UInt8)) (C:List AV) (n:Nat),m=l.length-k/\k<=l.length/\n<=k+1/\(d=false->n<=k)/\Hid (C=u.map AV.str/\n=u.length)/\Hid (u++ik syn v d (l.drop k)=R)/\T'=[(13,.int .i64 (k:Int)),(12,.int .i64 l.length),(11,.sl (l.map AV.str) l.length cap),(8,.bool d),(7,.gsl C n L.length 1),(0,.int .i64 syn),(2,.str v)]/\L'=L++[.spare n 1]) amQ ⟨0,false,[],[],0,rfl,aju _,amN,amN,hid ⟨rfl,rfl⟩,hid (by simpa using hR),rfl,rfl⟩ ?_;rintro _ _ _ ⟨k,d,u,C,n,rfl,hk,hul,hul2,hC,hI,rfl,rfl⟩;by_cases hlt:k<l.length
 .have g1:(k:Int)<(l.length:Int):=amM;have g2:=ajn k amM;obtain⟨x,hx⟩:=ajl (l.getD k []);have g3:(l.map AV.str).getD k .undef=.str x:=(by rw[<- hx];simp[hlt]);have hdr:l.drop k=x::l.drop (k+1):=(by rw[ajY hlt,<- hx];simp[hlt]);have hI2:=hI.o;rw[hdr,ik]at hI2;clear hx hdr hI hR;have fin:∀(y:List UInt8),(C++[.str y]=(u++[y]).map AV.str/\n+1=(u++[y]).length):=λy=>by obtain⟨rfl,rfl⟩:=hC.o;simp
  replace fin:=hid fin;replace hI2:=hid hI2;cases d with
  | true =>
    have hI3:=hI2.o;rw[if_neg amN]at hI3;simp only[aj0,alf]at hI3;replace hI3:=hid hI3;clear hI2;have kk1:=@hid _ @N9;refine wk ?_;refine amR amM amP ⟨k+1,true,u++[x],C++[.str x],n+1,rfl,hlt,amM,amN,hid (fin.o x),hid (by simpa using hI3.o),rfl,rfl⟩
  | false =>
    have hul3:=hul2 rfl
    repeat' first
     |refine cA ?_
     | (first|refine bG amO ?_|refine ba amO ?_|refine be ?_|refine dN ?_|refine cD (fun _=>?_)|refine aU ?_|refine bI ?_|refine N9 ?_|refine bQ (N9 ⟨rfl,rfl⟩) (N9 ⟨rfl,rfl⟩) ?_|refine bi (N9 ⟨rfl,rfl⟩) ?_)
       refine sm ?_
     | (first|refine bC amO ?_|refine bz ?_|refine bd ?_|refine bH ?_|refine cI (aT ?_))
       refine sl ?_
     |exact cE
     |first|apply cF|apply bD|apply cG|apply bE|apply cH|apply bF
     |refine bh ?_
     |refine bc ?_
     |first|refine bf rfl ?_|refine bg rfl ?_|refine aI rfl ?_ ?_|refine bm rfl (λ_=>?_) (λ_=>?_)|refine bj rfl (λ_=>?_) (λ_=>?_)
     |((first|refine aG (λ_=>?_) (λ_=>?_)|refine aS (λ_=>?_) (λ_=>?_))<;>try refine sm ?_)
     |refine And.intro trivial ?_
     |refine And.intro amM ?_
     |refine br rfl (λ_=>?_) (λ_=>?_)
     |refine And.intro ?_ ?_
    .rename_i hq;rw[bytesLess_eq,decide_eq_true_eq]at hq;have hI3:=hI2.o;rw[if_pos ⟨rfl,hq⟩,decide_eq_true hq,alP]at hI3;refine amR amM amP ⟨k+1,true,u++[v]++[x],C++[.str v]++[.str x],n+1+1,rfl,hlt,amM,amN,hid ?_,hid (by simpa using hI3),rfl,rfl⟩;obtain⟨rfl,rfl⟩:=hC.o;simp
    .rename_i hq;rw[bytesLess_eq,decide_eq_false_iff_not]at hq;have hI3:=hI2.o;rw[if_neg (λe=>hq e.2),decide_eq_false hq]at hI3;refine amR amM amP ⟨k+1,false,u++[x],C++[.str x],n+1,rfl,hlt,amM,amM,hid (fin.o x),hid (by simpa using hI3),rfl,rfl⟩
 have hke:k=l.length:=amM;subst hke;have g1:¬(l.length:Int)<(l.length:Int):=amM;have hI2:=hI.o;rw[ake,ik]at hI2;have e0:AV.frzL (R.map AV.str)=R.map AV.str:=gu R;have hfin:∀X:List Blk,Fin L (.sl (R.map AV.str) R.length none) (L++X) K:=λX=>ab (by simp only[AV.refs,kb]) h.o
 replace hfin:=hid hfin;cases d with
 | true =>
   rw[if_pos rfl,aj6]at hI2;subst hI2;refine wk ?_;refine aJ ?_;simp only[AV.frz];rw[hC.o.1,e0,hC.o.2];exact hfin.o _
 | false =>
   rw[if_neg amN]at hI2;subst hI2;have hul3:=hul2 rfl;refine wk ?_;refine aJ ?_;simp only[AV.frz];rw[show C++[AV.str v]=(u++[v]).map AV.str by rw[hC.o.1];simp,e0,show n+1=(u++[v]).length by rw[hC.o.2];simp];exact hfin.o _
theorem UQ(syn:Int)(v:List UInt8):∀(l:List (List UInt8)) (d:Bool),(ik syn v d l).length<=l.length+1
 |[],d=>by rw[ik];split<;>simp
 | x::t,d=>by
   rw[ik];by_cases h:d=false/\iy syn v<iy syn x
   .rw[if_pos h,decide_eq_true h.2,alP,Od];simp
   .have:=UQ syn v t (d ||decide (iy syn v<iy syn x));rw[if_neg h];simp;omega
theorem ahx{ty:Typ}{l vs:List (List UInt8)}{cap capV:Option Nat}(hl:l.length+vs.length<=1100000){R:List (List UInt8)×Int}(hR:fX ty.2.1 ty.2.2.1 l vs=R)(h:K (.tup [Xl R.1,.int .i64 R.2]) L):
  ajp 42 [.agg (tyC ty),.sl (l.map AV.str) l.length cap,.sl (vs.map AV.str) vs.length capV] L K:=by
 replace h:=hid h;replace hR:=hid hR;simp only[tyC];refine ajo VC ?_;refine aq (λm T' L'=>∃(i:Nat) (u:List (List UInt8)) (cu:Option Nat),m=vs.length-i/\i<=vs.length/\u.length<=l.length+i/\Hid (fX ty.2.1 ty.2.2.1 u (vs.drop i)=R)/\T'=[(14,.int .i64 (i:Int)),(13,.int .i64 vs.length),(12,.sl (vs.map AV.str) vs.length capV),(1,.sl (u.map AV.str) u.length cu),(3,.ptr L.length 0)]/\L'=L++[Blk.cells (tyC ty)]) amQ ⟨0,l,cap,rfl,aju _,ajs _,hid (by simpa using hR.o),rfl,rfl⟩ ?_;rintro _ _ _ ⟨i,u,cu,rfl,hi,hul,hI,rfl,rfl⟩;simp only[tyC];by_cases hlt:i<vs.length
 .have g1:(i:Int)<(vs.length:Int):=amM;have g2:=ajn i amM;obtain⟨v,hv⟩:=ajl (vs.getD i []);have g3:(vs.map AV.str).getD i .undef=.str v:=(by rw[<- hv];simp[hlt]);have hdr:vs.drop i=v::vs.drop (i+1):=(by rw[ajY hlt,<- hv];simp[hlt]);have hI2:=hI.o;rw[hdr]at hI2;have hu1:u.length<=1100000:=amM;clear hv hdr hI hR;refine wk ?_;refine R8 ?_;rcases hn:sX ty.2.1 v with _|n;rw[acU hn]at hI2;have h':=h.o;rw[<- hI2]at h';replace h':=hid h';simp only[YN];clear hI2 hn;refine amU ?_;exact aJ (ab rfl h'.o);rw[acT hn]at hI2;simp only[YN];rcases hb:inM ty.2.1 u n with _|_
  rotate_left
  rw[if_pos hb]at hI2;have h':=h.o;rw[<- hI2]at h';replace h':=hid h';clear hI2 hn;refine sk ?_;have kk1:=@amT _ _ _ _ (aix (syn:=ty.2.1) (n:=n) (cap:=cu) hu1);refine wk ?_;exact aJ (ab rfl h'.o);rw[if_neg (by rw[hb];simp)]at hI2;obtain⟨u',hu'⟩:=ajl (ik ty.2.1 v false u);have hl':=UQ ty.2.1 v u false;rw[hu']at hI2 hl';replace hI2:=hid hI2;clear hn;refine sk ?_;have kk1:=@amT _ _ _ _ (aix (syn:=ty.2.1) (n:=n) (cap:=cu) hu1);have kk2:=@amT _ _ _ _ (ahC (syn:=ty.2.1) (v:=v) (cap:=cu) hu1);refine wk ?_;exact amR amM amP ⟨i+1,u',none,rfl,hlt,amM,hI2,rfl,rfl⟩
 have hke:i=vs.length:=amM;subst hke;have g1:¬(vs.length:Int)<(vs.length:Int):=amM;have hI2:=hI.o;rw[ake,fX]at hI2;by_cases hs:ty.2.2.1=true/\1<u.length;rw[if_pos hs]at hI2;have h':=h.o;rw[<- hI2]at h';replace h':=hid h';obtain⟨hs1,hs2⟩:=hs;have g3:(1:Int)<(u.length:Int):=amM;clear hI hI2 hR hs2;refine wk ?_;exact aJ (ab rfl h'.o);rw[if_neg hs]at hI2;have g3:(ty.2.2.1&&decide ((1:Int)<(u.length:Int)))=false:=by rcases hsg:ty.2.2.1 with _|_;rfl;simp only[aj7,decide_eq_false_iff_not];intro e;exact hs ⟨hsg,amM⟩
 have h':=h.o;rw[<- hI2]at h';replace h':=hid h';clear hI hI2 hR hs;refine wk ?_;refine aJ (ab ?_ ?_);simp only[AV.frz,AV.frzL,gu,AV.refs,AV.refsL,kb];rfl;simp only[AV.frz,AV.frzL,gu];exact h'.o
theorem abW{l:List Atr}{cap:Option Nat}{n:List UInt8}(hl:l.length<=1100000)(hz:∀a∈l,a8 a.1/\a.2.length<=1100000)(hn:a8 n)(h:K (Xl (md l n)) L):
  ajp 29 [.sl (aB l) l.length cap,.str n] L K:=by
 obtain⟨R,hR⟩:=ajl (md l n);rw[hR]at h;replace h:=hid h;replace hR:=hid hR;refine ajo Rc ?_;refine aq (λm T' L'=>∃(k:Nat) (X:List Blk),m=l.length-k/\k<=l.length/\Hid (md (l.drop k) n=R)/\T'=[(9,.int .i64 (k:Int)),(8,.int .i64 l.length),(7,.sl (aB l) l.length cap),(1,.str n)]/\L'=L++X) amQ ⟨0,[],rfl,aju _,hid (by simpa using hR.o),rfl,amN⟩ ?_;rintro _ _ _ ⟨k,X,rfl,hk,hI,rfl,rfl⟩;by_cases hlt:k<l.length;have g1:(k:Int)<(l.length:Int):=amM;have g2:=ajn k amM;have e3:=iw hlt;have e4:k*2+2<=(aB l).length:=by rw[ir];omega
 obtain⟨⟨nm,vs⟩,ha⟩:∃a,l.getD k ([],[])=a:=⟨_,rfl⟩;have hdr:l.drop k=(nm,vs)::l.drop (k+1):=by rw[ajY hlt,<- ha];simp[hlt]
 obtain⟨hnm,hvs⟩:=hz (nm,vs) (by rw[<- ha];simp[hlt]);simp only at hnm hvs;rw[ha]at e3;simp only[atA]at e3;have hI2:=hI.o;rw[hdr,md]at hI2;simp only at hI2;clear hI hdr ha hz hR;by_cases hq:ag nm=ag n;rw[if_pos hq]at hI2;subst hI2;have e0:AV.frzL (vs.map AV.str)=vs.map AV.str:=gu vs;have kk1:=@amT _ _ _ _ (bu hnm);have kk2:=@amT _ _ _ _ (bu hn);refine wk ?_;refine aJ ?_;simp only[AV.frz,e0];exact ab (by simp only[AV.refs,kb]) h.o;rw[if_neg hq]at hI2;replace hI2:=hid hI2;have kk1:=@amT _ _ _ _ (bu hnm);have kk2:=@amT _ _ _ _ (bu hn);refine wk ?_;exact amR amM amP ⟨k+1,_,rfl,hlt,hI2,rfl,rfl⟩;have hke:k=l.length:=amM;subst hke;have g1:¬(l.length:Int)<(l.length:Int):=amM;have hI2:=hI.o;rw[ake,md]at hI2;subst hI2;refine wk ?_;exact aJ (ab rfl h.o)
theorem aht{l:List Atr}{cap capV:Option Nat}{n:List UInt8}{vs:List (List UInt8)}(hl:l.length<=1100000)(hz:∀a∈l,a8 a.1/\a.2.length<=1100000)(hn:a8 n)(h:K (.sl (aB (oS n vs vs.isEmpty l)) (oS n vs vs.isEmpty l).length none) L):
  ajp 43 [.sl (aB l) l.length cap,.str n,.sl (vs.map AV.str) vs.length capV] L K:=by
 obtain⟨R,hR⟩:=ajl (oS n vs vs.isEmpty l);rw[hR]at h;replace h:=hid h;obtain⟨d0,hd0⟩:=ajl (vs.isEmpty);have hd1:decide ((vs.length:Int)=0)=d0:=by rw[<- hd0];cases vs<;>simp;omega
 rw[hd0]at hR;replace hR:=hid hR;have ev:AV.frzL (vs.map AV.str)=vs.map AV.str:=gu vs;replace hd0:=hid hd0;refine ajo VD ?_;refine bK (l:=[]) (n:=0) 7 2 rfl (ajX 2).symm ?_;refine aq (λm T' L'=>∃(k:Nat) (d:Bool) (u:List Atr) (C:List AV) (z:Nat) (X:List Blk),m=l.length-k/\k<=l.length/\z<=k+1/\(d=false->z<=k)/\Hid (C=aB u/\z=u.length)/\Hid (u++oS n vs d (l.drop k)=R)/\T'=[(16,.int .i64 (k:Int)),(15,.int .i64 l.length),(14,.sl (aB l) l.length cap),(8,.bool d),(7,.gsl C z L.length 2),(1,.str n),(2,.sl (vs.map AV.str) vs.length capV)]/\L'=L++(.spare z 2::X)) amQ ⟨0,d0,[],[],0,[],rfl,aju _,amN,amN,hid ⟨rfl,rfl⟩,hid (by simpa using hR.o),rfl,rfl⟩ ?_;rintro _ _ _ ⟨k,d,u,C,z,X,rfl,hk,hul,hul2,hC,hI,rfl,rfl⟩;by_cases hlt:k<l.length;have g1:(k:Int)<(l.length:Int):=amM;have g2:=ajn k amM;have e3:=iw hlt;have e4:k*2+2<=(aB l).length:=by rw[ir];omega
 obtain⟨⟨nm,ws⟩,ha⟩:∃a,l.getD k ([],[])=a:=⟨_,rfl⟩;have hdr:l.drop k=(nm,ws)::l.drop (k+1):=by rw[ajY hlt,<- ha];simp[hlt]
 obtain⟨hnm,hws⟩:=hz (nm,ws) (by rw[<- ha];simp[hlt]);simp only at hnm hws;rw[ha]at e3;simp only[atA]at e3;have ew:AV.frzL (ws.map AV.str)=ws.map AV.str:=gu ws;have hI2:=hI.o;rw[hdr,oS]at hI2;simp only at hI2;have fin:∀(C':List AV) (u':List Atr) (z':Nat) (a:Atr),C'=aB u'/\z'=u'.length->C'++[.str a.1,.sl (a.2.map AV.str) a.2.length none]=aB (u'++[a])/\z'+1=(u'++[a]).length:=λC' u' z' a e=>by obtain⟨rfl,rfl⟩:=e;simp[Rn,aB]
 replace fin:=hid fin;replace hd1:=hid hd1;clear hI hdr ha hz hR;by_cases hx:ag nm<ag n;have hq:ag n≠ag nm:=λe=>by rw[e]at hx;exact akI _ hx
 have hb:Op.bytesLess (ag n) (ag nm)=false:=by rw[bytesLess_eq,decide_eq_false_iff_not];exact λe=>akI _ (alG hx e)
 cases d with
 | true =>
   have hI3:=hI2;rw[if_neg (λe=>by cases e.1),if_pos hq]at hI3;rw[show(true || !decide (ag nm<ag n))=true by simp[hx]]at hI3;replace hI3:=hid hI3;clear hI2;have kk1:=@amT _ _ _ _ (bu hn);have kk2:=@amT _ _ _ _ (bu hnm);refine wk ?_;exact amR amM amP ⟨k+1,true,u++[(nm,ws)],C++[.str nm,.sl (ws.map AV.str) ws.length none],z+1,_,rfl,hlt,amM,amN,hid (fin.o _ _ _ (nm,ws) hC.o),hid (by simpa using hI3.o),rfl,rfl⟩
 | false =>
   have hul3:=hul2 rfl;have hI3:=hI2;rw[if_neg (λe=>e.2 hx),if_pos hq]at hI3;rw[show(false || !decide (ag nm<ag n))=false by simp[hx]]at hI3;replace hI3:=hid hI3;clear hI2;have kk1:=@amT _ _ _ _ (bu hn);have kk2:=@amT _ _ _ _ (bu hnm);refine wk ?_;exact amR amM amP ⟨k+1,false,u++[(nm,ws)],C++[.str nm,.sl (ws.map AV.str) ws.length none],z+1,_,rfl,hlt,amM,by simp;omega,hid (fin.o _ _ _ (nm,ws) hC.o),hid (by simpa using hI3.o),rfl,rfl⟩
 by_cases hq:ag n=ag nm;have hb:Op.bytesLess (ag n) (ag nm)=false:=by rw[bytesLess_eq,decide_eq_false_iff_not,hq];exact akI _
 cases d with
 | true =>
   have hI3:=hI2;rw[if_neg (λe=>by cases e.1),if_neg (λe=>e hq)]at hI3;rw[show(true || !decide (ag nm<ag n))=true by simp[hx]]at hI3;replace hI3:=hid hI3;clear hI2;have kk1:=@amT _ _ _ _ (bu hn);have kk2:=@amT _ _ _ _ (bu hnm);refine wk ?_;exact amR amM amP ⟨k+1,true,u,C,z,_,rfl,hlt,amM,amN,hid hC.o,hid (by simpa using hI3.o),rfl,rfl⟩
 | false =>
   have hul3:=hul2 rfl;have hI3:=hI2;rw[if_pos ⟨rfl,hx⟩,if_neg (λe=>e hq)]at hI3;rw[show(false || !decide (ag nm<ag n))=true by simp[hx]]at hI3;replace hI3:=hid hI3;clear hI2;have kk1:=@amT _ _ _ _ (bu hn);have kk2:=@amT _ _ _ _ (bu hnm);refine wk ?_;exact amR amM amP ⟨k+1,true,u++[(n,vs)],C++[.str n,.sl (vs.map AV.str) vs.length none],z+1,_,rfl,hlt,amM,amN,hid (fin.o _ _ _ (n,vs) hC.o),hid (by simpa using hI3.o),rfl,rfl⟩
 have hb:Op.bytesLess (ag n) (ag nm)=true:=by rw[bytesLess_eq,decide_eq_true_eq];exact(alU.1 (akR.1 hx)).resolve_right hq
 cases d with
 | true =>
   have hI3:=hI2;rw[if_neg (λe=>by cases e.1),if_pos hq]at hI3;rw[show(true || !decide (ag nm<ag n))=true by simp[hx]]at hI3;replace hI3:=hid hI3;clear hI2;have kk1:=@amT _ _ _ _ (bu hn);have kk2:=@amT _ _ _ _ (bu hnm);refine wk ?_;exact amR amM amP ⟨k+1,true,u++[(nm,ws)],C++[.str nm,.sl (ws.map AV.str) ws.length none],z+1,_,rfl,hlt,amM,amN,hid (fin.o _ _ _ (nm,ws) hC.o),hid (by simpa using hI3.o),rfl,rfl⟩
 | false =>
   have hul3:=hul2 rfl;have hI3:=hI2;rw[if_pos ⟨rfl,hx⟩,if_pos hq]at hI3;rw[show(false || !decide (ag nm<ag n))=true by simp[hx]]at hI3;replace hI3:=hid hI3;clear hI2;have kk1:=@amT _ _ _ _ (bu hn);have kk2:=@amT _ _ _ _ (bu hnm);refine wk ?_;exact amR amM amP ⟨k+1,true,u++[(n,vs)]++[(nm,ws)],C++[.str n,.sl (vs.map AV.str) vs.length none]++[.str nm,.sl (ws.map AV.str) ws.length none],z+1+1,_,rfl,hlt,amM,amN,hid (fin.o _ _ _ (nm,ws) (fin.o _ _ _ (n,vs) hC.o)),hid (by simpa using hI3.o),rfl,rfl⟩
 have hke:k=l.length:=amM;subst hke;have g1:¬(l.length:Int)<(l.length:Int):=amM;have hI2:=hI.o;rw[ake,oS]at hI2;have e0:=dM R;have hfin:∀X:List Blk,Fin L (.sl (aB R) R.length none) (L++X) K:=λX=>ab (by simp only[AV.refs,gX]) h.o
 replace hfin:=hid hfin;replace hd1:=hid hd1;clear hI hR;cases d with
 | true =>
   rw[if_pos rfl,aj6]at hI2;subst hI2;refine wk ?_;refine aJ ?_;simp only[AV.frz];rw[hC.o.1,e0,hC.o.2];exact hfin.o _
 | false =>
   rw[if_neg amN]at hI2;subst hI2;have hul3:=hul2 rfl;refine wk ?_;refine aJ ?_;simp only[AV.frz];rw[show C++[AV.str n,.sl (vs.map AV.str) vs.length none]=aB (u++[(n,vs)])by rw[hC.o.1,Rn];simp[aB],e0,show z+1=(u++[(n,vs)]).length by rw[hC.o.2];simp];exact hfin.o _
theorem aa8{ts:List Typ}{capT:Option Nat}{c2:List AV}{n2:Nat}{cap2:Option Nat}{list:List Atr}{cap:Option Nat}(hts:ah3 ts)(hl:list.length<=100)(hv:∀a∈list,a8 a.1/\a.2.length<=9000){R:List Atr×Int}(hR:mf ts [] list=R)(h:K (.tup [.sl (aB R.1) R.1.length none,.int .i64 R.2]) L):
  ajp 14 [.agg [.sl (cq ts) ts.length capT,.sl c2 n2 cap2],.sl (aB list) list.length cap] L K:=by
 replace h:=hid h;replace hR:=hid hR;refine ajo Tz ?_;obtain⟨sC,hsC⟩:=ajl (AV.sl c2 n2 cap2);rw[hsC];refine aq (λm T' L'=>∃(i:Nat) (out:List Atr) (co:Option Nat) (X:List Blk),m=list.length-i/\i<=list.length/\out.length<=i/\Hid (mf ts out (list.drop i)=R)/\Hid (∀a∈out,a8 a.1/\a.2.length<=9000*i)/\T'=[(14,.int .i64 (i:Int)),(13,.int .i64 list.length),(12,.sl (aB list) list.length cap),(6,.sl (aB out) out.length co),(2,.ptr L.length 0)]/\L'=L++(.cells [.sl (cq ts) ts.length capT,sC]::X)) amQ ⟨0,[],some 0,[],rfl,aju _,ajs _,hid (by simpa using hR.o),hid amN,rfl,amN⟩ ?_;rintro _ _ _ ⟨i,out,co,X,rfl,hi,hol,hI,ho,rfl,rfl⟩;by_cases hlt:i<list.length;have g1:(i:Int)<(list.length:Int):=amM;have g2:=ajn i amM;have e3:=iw hlt;have e4:i*2+2<=(aB list).length:=by rw[ir];omega
 obtain⟨⟨nm,vs⟩,ha⟩:∃a,list.getD i ([],[])=a:=⟨_,rfl⟩;have hdr:list.drop i=(nm,vs)::list.drop (i+1):=by rw[ajY hlt,<- ha];simp[hlt]
 obtain⟨hnm,hvs⟩:=hv (nm,vs) (by rw[<- ha];simp[hlt]);simp only at hnm hvs;rw[ha]at e3;simp only[atA]at e3;have hI2:=hI.o;rw[hdr,mf]at hI2;simp only at hI2;replace hI2:=hid hI2;clear hI hdr ha hv hR;refine wk ?_;refine ajg hts.1 hts.2.1 hnm (λhty=>?_) (λt ht hty=>?_);have hI3:=hI2.o;rw[hty]at hI3;simp only at hI3;have h':=h.o;rw[<- hI3]at h';replace h':=hid h';clear hI2 hI3 hty;refine amU ?_;exact aJ (ab rfl h'.o);have hI3:=hI2.o;have e5:=qC ht;have e6:t*4+4<=(cq ts).length:=by rw[tK];omega
 have e8:(cq ts).getD (t*4) .undef=.str (ts.getD t me).1:=by have h3:=congrArg (λl=>l[0]?) (qC ht);simp only[akj (show 0<4 by omega),aki,akz]at h3;rw[ajO,h3];rfl
 have g3:¬(t:Int)<0:=amM;have g4:(t:Int)<(ts.length:Int):=amM;have g6:t*4<(cq ts).length:=amM;have htn:=Rs hty;obtain⟨ty,hte⟩:=ajl (ts.getD t me);rw[hte]at hty e5 e8 htn;rw[hty]at hI3;simp only at hI3;simp only[tyC]at e5;by_cases hvn:vs=[];rw[if_pos hvn]at hI3;have h':=h.o;rw[<- hI3]at h';replace h':=hid h';subst hvn;clear hI2 hI3 hty htn hte;refine amU ?_;exact aJ (ab rfl h'.o);rw[if_neg hvn]at hI3;have g5:¬(vs.length:Int)=0:=by rcases vs with _|⟨x,t⟩;exact absurd rfl hvn;simp;omega
 obtain⟨V,hV⟩:=ajl (md out nm);have hVl:V.length<=9000*i:=by rw[<- hV];exact adg λa ha=>(ho.o a ha).2
 rw[hV]at hI3;obtain⟨A,hA⟩:=ajl (fX ty.2.1 ty.2.2.1 V vs);rw[hA]at hI3;have kk1:Hid (Ctr Tryz.prog 29 [.sl (aB out) out.length co,.str nm] (.sl (V.map AV.str) V.length none)):=hid λq=>abW amM (λa ha=>⟨(ho.o a ha).1,by have:=(ho.o a ha).2;omega⟩) hnm (by rw[hV];exact q)
 have kk2:Hid (Ctr Tryz.prog 42 [.agg [.str ty.1,.int .i64 ty.2.1,.bool ty.2.2.1,.bool ty.2.2.2],.sl (V.map AV.str) V.length none,.sl (vs.map AV.str) vs.length none] (.tup [.sl (A.1.map AV.str) A.1.length none,.int .i64 A.2])):=hid λq=>ahx (ty:=ty) amM hA q
 have kk3:Hid (Ctr Tryz.prog 43 [.sl (aB out) out.length co,.str ty.1,.sl (A.1.map AV.str) A.1.length none] (.sl (aB (oS ty.1 A.1 A.1.isEmpty out)) (oS ty.1 A.1 A.1.isEmpty out).length none)):=hid λq=>aht amM (λa ha=>⟨(ho.o a ha).1,by have:=(ho.o a ha).2;omega⟩) (hts.2.1 ty htn.1) q
 obtain⟨A1,A2⟩:=A;simp only at kk2 kk3 hI3;obtain⟨out',hout'⟩:=ajl (oS ty.1 A1 A1.isEmpty out);rw[hout']at kk3 hI3;clear hI2 hvn hty;by_cases hc0:A2=0;subst hc0;rw[if_neg amN]at hI3;have hAl:=VW (by rw[hA]:(fX ty.2.1 ty.2.2.1 V vs).2=0);rw[hA]at hAl;simp only at hAl;have hol':out'.length<=i+1:=by have:=@Xk ty.1 A1 A1.isEmpty out;rw[hout']at this;split at this<;>omega
 have ho':∀a∈out',a8 a.1/\a.2.length<=9000*(i+1):=λa ha=>by rw[<- hout']at ha;rcases Uo ha with e|e;rw[e];exact⟨hts.2.1 ty htn.1,by simp only;omega⟩;have:=ho.o a e;exact⟨this.1,amM⟩
 replace hI3:=hid hI3;replace ho':=hid ho';clear hA hV hout' hAl htn hte;refine amU ?_;exact amR amM amP ⟨i+1,out',none,_,rfl,hlt,hol',hI3,ho',rfl,rfl⟩;rw[if_pos hc0]at hI3;have h':=h.o;rw[<- hI3]at h';replace h':=hid h';clear hA hV hout' htn hI3 hte;refine amU ?_;exact aJ (ab rfl h'.o);have hke:i=list.length:=amM;subst hke;have g1:¬(list.length:Int)<(list.length:Int):=amM;have hI2:=hI.o;rw[ake,mf]at hI2;have h':=h.o;rw[<- hI2]at h';replace h':=hid h';clear hI hI2 hR hv;have e0:=dM out;refine wk ?_;refine aJ ?_;simp only[AV.frz,AV.frzL,e0];exact ab (by simp only[AV.refs,AV.refsL,gX];rfl) h'.o
theorem Z7{ts:List Typ}{B:Nat}:∀{l out:List Atr}{i:Nat},out.length<=i->(∀a∈out,a.2.length<=B*i)->(∀a∈l,a.2.length<=B)->(mf ts out l).1.length<=i+l.length/\∀a∈(mf ts out l).1,a.2.length<=B*(i+l.length)
 |[],out,i,h1,h2,_=>by rw[mf];exact⟨h1,h2⟩
 | x::t,out,i,h1,h2,h3=>by
   have nil:([]:List Atr).length<=i+(x::t).length/\∀a∈([]:List Atr),a.2.length<=B*(i+(x::t).length):=⟨amN,λa ha=>by cases ha⟩;rw[mf];rcases hty:fS ts x.1 with _|ty
   .exact nil
   .simp only;split
    .exact nil
    .split
     .exact nil
     .rename_i hd;simp only[ne_eq,alH]at hd;have hl:=VW hd;have hv:=adg (l:=out) (n:=x.1) h2;have hx:=h3 x amN;have hB:=Nat.mul_add_one B i;have:=@Z7 ts B t (oS ty.1 (fX ty.2.1 ty.2.2.1 (md out x.1) x.2).1 (fX ty.2.1 ty.2.2.1 (md out x.1) x.2).1.isEmpty out) (i+1) (by
       have:=@Xk ty.1 (fX ty.2.1 ty.2.2.1 (md out x.1) x.2).1 (fX ty.2.1 ty.2.2.1 (md out x.1) x.2).1.isEmpty out;split at this<;>omega) (λa ha=>by
       rcases Uo ha with e|e
       .rw[e];simp only;omega
       .have:=h2 a e;omega) (λa ha=>h3 a (by simp[ha]))
      rw[ajz,show i+(t.length+1)=i+1+t.length by omega];exact this
end Go.Proofs.YtdnfjhflkkpokaaGreatDoor.Av
set_option maxRecDepth 100000
namespace Go.Proofs.YtdnfjhflkkpokaaGreatDoor.Av
open Go
def zF:LSO:=[Ak 6]
def zE:LSO:=[Aa 9 2,Af 10 9,Ad 11 0]
def zD:LSO:=[Al 12 11 10]
def zC:LSO:=[Am 13 1 9 11,Ab 14 1 13,Aa 8 14]
def zB:LSO:=[Aa 15 0,Aa 16 8,Aa 17 1,o1 18 (.build [(.str []),(.int .i64 0),(.bool false),(.bool false)] [(0,(1,(tm 16))),(1,(1,(tm 17)))]),BO 19 18,BP 20 15 19,
 Aa 0 20]
def zA:LSO:=[Ah 21 11 1,Aa 11 21]
def zy:LSO:=[Aa 22 0,Aa 6 22]
def tu:aQ:=⟨23,(amF zF [] (.seq (amF zE [] (amI 0 (amF zD [] (.seq (amJ 12 0) (.seq (.block 1 (amF zC Cm (.sreg zB Cr))) (.sreg zA Cl)))))) (amF zy Cl .ret))),[(.tmp 6)]⟩
attribute [push_cast] zF zE zD zC zB zA zy
theorem RR:amK 44=amL tu:=amO
def Hc:LSO:=[Cj 0]
def Hb:LSO:=[Cj 1]
def Ha:LSO:=[Ac 5 0 1,Ab 6 1 5,o1 7 (.bslice false 1 1 [(.str [])] [(0,(1,(.av (.str [111,98,106,101,99,116,67,108,97,115,115]))))]),B7 8 44 6 3 7,Ac 9 0 1,An 1 9 8]
def G9:LSO:=[Ac 10 0 1,Ab 11 1 10,
 o1 12 (.bslice false 1 4 [(.str []),(.str []),(.str []),(.str [])] [(0,(1,(.av (.str [99,110])))),(1,(1,(.av (.str [115,110])))),(2,(1,(.av (.str [111,117])))),(3,(1,(.av (.str [111]))))]),
 B7 13 44 11 1 12,Ac 14 0 1,An 1 14 13]
def G8:LSO:=[Ac 15 0 1,Ab 16 1 15,
 o1 17 (.bslice false 1 3 [(.str []),(.str []),(.str [])] [(0,(1,(.av (.str [100,99])))),(1,(1,(.av (.str [117,105,100])))),(2,(1,(.av (.str [109,97,105,108]))))]),
 B7 18 44 16 3 17,Ac 19 0 1,An 1 19 18]
def G7:LSO:=[Ac 20 0 1,Ab 21 1 20,BH 22,B7 23 44 21 1 22,Ac 24 0 1,An 1 24 23]
def G6:LSO:=[Ac 25 0 1,Ab 26 1 25,o1 27 (.bslice false 1 1 [(.str [])] [(0,(1,(.av (.str [109,101,109,98,101,114]))))]),B7 28 44 26 6 27,Ac 29 0 1,An 1 29 28]
def G5:LSO:=[Ac 30 0 1,Ab 31 1 30,o1 32 (.bslice false 1 1 [(.str [])] [(0,(1,(.av (.str [117,115,101,114,80,97,115,115,119,111,114,100]))))]),B7 33 44 31 7 32,
 Ac 34 0 1,An 1 34 33]
def G4:LSO:=[Ac 35 0 1,Ab 36 1 35,
 o1 37 (.build [(.str []),(.int .i64 0),(.bool false),(.bool false)] [(0,(1,(.av (.str [101,109,112,108,111,121,101,101,78,117,109,98,101,114])))),(1,(1,(iv 4))),(2,(1,(.av (.bool true))))]),
 BO 38 37,BP 39 36 38,Ac 40 0 1,An 1 40 39]
def G3:LSO:=[Ac 41 0 1,Ab 42 1 41,
 o1 43 (.build [(.str []),(.int .i64 0),(.bool false),(.bool false)] [(0,(1,(.av (.str [97,99,116,105,118,101])))),(1,(1,(iv 5))),(2,(1,(.av (.bool true))))]),BO 44 43,
 BP 45 42 44,Ac 46 0 1,An 1 46 45]
def zY:LSO:=[o1 47 (.bslice false 1 5 [(.str []),(.str []),(.str []),(.str []),(.str [])] [(0,(1,(.av (.str [99,114,101,97,116,101,100,65,116])))),(1,(1,(.av (.str [99,104,97,110,103,101,100,65,116])))),(2,(1,(.av (.str [112,119,100,70,97,105,108,117,114,101])))),(3,(1,(.av (.str [112,119,100,76,111,99,107,101,100])))),(4,(1,(.av (.str [112,119,100,67,104,97,110,103,101,100]))))]),
 Af 48 47,Ad 49 0]
def zX:LSO:=[Al 50 49 48]
def zW:LSO:=[Am 51 1 47 49,Ab 52 1 51,Aa 3 52]
def zV:LSO:=[Aa 53 3,
 o1 54 (.build [(.str []),(.int .i64 0),(.bool false),(.bool false)] [(0,(1,(tm 53))),(1,(1,(iv 4))),(2,(1,(.av (.bool true)))),(3,(1,(.av (.bool true))))]),B5 4,An 4 4 54]
def zU:LSO:=[Aa 55 3,o1 56 (.bin .eql (tm 55) (.av (.str [112,119,100,70,97,105,108,117,114,101])))]
def zT:LSO:=[Ac 57 1 4,o0 (.store 1 (tm 57) (iv 3))]
def zS:LSO:=[Ac 58 2 4,o0 (.store 1 (tm 58) (.av (.bool false)))]
def zR:LSO:=[Ac 59 0 1,Ab 60 1 59,Ar 61 4 4,BO 62 61,BP 63 60 62,Ac 64 0 1,An 1 64 63]
def zQ:LSO:=[Ah 65 49 1,Aa 49 65]
def zP:LSO:=[Ac 66 1 1,Ab 67 1 66,o1 68 (.bslice false 1 1 [(.str [])] [(0,(1,(.av (.str [111,98,106,101,99,116,67,108,97,115,115]))))]),
 o1 69 (.bslice false 1 5 [(.str []),(.str []),(.str []),(.str []),(.str [])] [(0,(1,(.av (.str [99,114,101,97,116,101,100,65,116])))),(1,(1,(.av (.str [99,104,97,110,103,101,100,65,116])))),(2,(1,(.av (.str [112,119,100,70,97,105,108,117,114,101])))),(3,(1,(.av (.str [112,119,100,76,111,99,107,101,100])))),(4,(1,(.av (.str [112,119,100,67,104,97,110,103,101,100]))))]),
 o1 70 (.build [(.str []),(.str []),(.int .i64 0),(.sl [] 0 (some 0)),(.sl [] 0 (some 0))] [(0,(1,(.av (.str [116,111,112])))),(3,(1,(tm 68))),(4,(1,(tm 69)))]),Bk 71 70,
 Bl 72 67 71,Ac 73 1 1,An 1 73 72]
def zO:LSO:=[Ac 74 1 1,Ab 75 1 74,o1 76 (.bslice false 1 1 [(.str [])] [(0,(1,(.av (.str [100,99]))))]),BH 77,
 o1 78 (.build [(.str []),(.str []),(.int .i64 0),(.sl [] 0 (some 0)),(.sl [] 0 (some 0))] [(0,(1,(.av (.str [100,111,109,97,105,110])))),(1,(1,(.av (.str [116,111,112])))),(2,(1,(iv 1))),(3,(1,(tm 76))),(4,(1,(tm 77)))]),
 Bk 79 78,Bl 80 75 79,Ac 81 1 1,An 1 81 80]
def zN:LSO:=[Ac 82 1 1,Ab 83 1 82,o1 84 (.bslice false 1 1 [(.str [])] [(0,(1,(.av (.str [111]))))]),BH 85,
 o1 86 (.build [(.str []),(.str []),(.int .i64 0),(.sl [] 0 (some 0)),(.sl [] 0 (some 0))] [(0,(1,(.av (.str [111,114,103,97,110,105,122,97,116,105,111,110])))),(1,(1,(.av (.str [116,111,112])))),(2,(1,(iv 1))),(3,(1,(tm 84))),(4,(1,(tm 85)))]),
 Bk 87 86,Bl 88 83 87,Ac 89 1 1,An 1 89 88]
def zM:LSO:=[Ac 90 1 1,Ab 91 1 90,o1 92 (.bslice false 1 1 [(.str [])] [(0,(1,(.av (.str [111,117]))))]),BH 93,
 o1 94 (.build [(.str []),(.str []),(.int .i64 0),(.sl [] 0 (some 0)),(.sl [] 0 (some 0))] [(0,(1,(.av (.str [111,114,103,97,110,105,122,97,116,105,111,110,97,108,85,110,105,116])))),(1,(1,(.av (.str [116,111,112])))),(2,(1,(iv 1))),(3,(1,(tm 92))),(4,(1,(tm 93)))]),
 Bk 95 94,Bl 96 91 95,Ac 97 1 1,An 1 97 96]
def zL:LSO:=[Ac 98 1 1,Ab 99 1 98,o1 100 (.bslice false 1 2 [(.str []),(.str [])] [(0,(1,(.av (.str [99,110])))),(1,(1,(.av (.str [115,110]))))]),
 o1 101 (.bslice false 1 2 [(.str []),(.str [])] [(0,(1,(.av (.str [100,101,115,99,114,105,112,116,105,111,110])))),(1,(1,(.av (.str [117,115,101,114,80,97,115,115,119,111,114,100]))))]),
 o1 102 (.build [(.str []),(.str []),(.int .i64 0),(.sl [] 0 (some 0)),(.sl [] 0 (some 0))] [(0,(1,(.av (.str [112,101,114,115,111,110])))),(1,(1,(.av (.str [116,111,112])))),(2,(1,(iv 1))),(3,(1,(tm 100))),(4,(1,(tm 101)))]),
 Bk 103 102,Bl 104 99 103,Ac 105 1 1,An 1 105 104]
def zK:LSO:=[Ac 106 1 1,Ab 107 1 106,
 o1 108 (.bslice false 1 4 [(.str []),(.str []),(.str []),(.str [])] [(0,(1,(.av (.str [117,105,100])))),(1,(1,(.av (.str [109,97,105,108])))),(2,(1,(.av (.str [101,109,112,108,111,121,101,101,78,117,109,98,101,114])))),(3,(1,(.av (.str [97,99,116,105,118,101]))))]),
 o1 109 (.build [(.str []),(.str []),(.int .i64 0),(.sl [] 0 (some 0)),(.sl [] 0 (some 0))] [(0,(1,(.av (.str [105,110,101,116,80,101,114,115,111,110])))),(1,(1,(.av (.str [112,101,114,115,111,110])))),(2,(1,(iv 1))),(4,(1,(tm 108)))]),
 Bk 110 109,Bl 111 107 110,Ac 112 1 1,An 1 112 111]
def zJ:LSO:=[Ac 113 1 1,Ab 114 1 113,o1 115 (.bslice false 1 2 [(.str []),(.str [])] [(0,(1,(.av (.str [99,110])))),(1,(1,(.av (.str [109,101,109,98,101,114]))))]),
 BH 116,
 o1 117 (.build [(.str []),(.str []),(.int .i64 0),(.sl [] 0 (some 0)),(.sl [] 0 (some 0))] [(0,(1,(.av (.str [103,114,111,117,112])))),(1,(1,(.av (.str [116,111,112])))),(2,(1,(iv 1))),(3,(1,(tm 115))),(4,(1,(tm 116)))]),
 Bk 118 117,Bl 119 114 118,Ac 120 1 1,An 1 120 119]
def zI:LSO:=[Ac 121 1 1,Ab 122 1 121,o1 123 (.bslice false 1 1 [(.str [])] [(0,(1,(.av (.str [117,115,101,114,80,97,115,115,119,111,114,100]))))]),
 o1 124 (.build [(.str []),(.str []),(.int .i64 0),(.sl [] 0 (some 0)),(.sl [] 0 (some 0))] [(0,(1,(.av (.str [115,101,99,117,114,101,100])))),(1,(1,(.av (.str [116,111,112])))),(2,(1,(iv 2))),(3,(1,(tm 123)))]),
 Bk 125 124,Bl 126 122 125,Ac 127 1 1,An 1 127 126]
def zH:LSO:=[Ac 128 1 1,Ab 129 1 128,o1 130 (.bslice false 1 2 [(.str []),(.str [])] [(0,(1,(.av (.str [117,105,100])))),(1,(1,(.av (.str [109,97,105,108]))))]),
 o1 131 (.build [(.str []),(.str []),(.int .i64 0),(.sl [] 0 (some 0)),(.sl [] 0 (some 0))] [(0,(1,(.av (.str [108,97,98,101,108,108,101,100])))),(1,(1,(.av (.str [116,111,112])))),(2,(1,(iv 2))),(4,(1,(tm 130)))]),
 Bk 132 131,Bl 133 129 132,Ac 134 1 1,An 1 134 133]
def zG:LSO:=[Ar 135 2 1,An 2 0 135]
def yh:aQ:=⟨136,(amF Hc [] (amF Hb [] (amF Ha C6 (amF G9 C6 (amF G8 C6 (amF G7 C6 (amF G6 C6 (amF G5 C6 (amF G4 CK (amF G3 CK (.seq (amF zY [] (amI 0 (amF zX [] (.seq (amJ 50 0) (.seq (.block 1 (amF zW Cm (amF zV Cm (.seq (amF zU Cl (amG 56 (amF zT [false] (.sreg zS [false])) .skip)) (.sreg zR CK))))) (.sreg zQ Cl)))))) (amF zP C2 (amF zO C2 (amF zN C2 (amF zM C2 (amF zL C2 (amF zK CB (amF zJ C2 (amF zI CB (amF zH CB (amF zG [false] .ret))))))))))))))))))))),[(.cell true 2 0)]⟩
attribute [push_cast] Hc Hb Ha G9 G8 G7 G6 G5 G4 G3 zY zX zW zV zU zT zS zR zQ zP zO zN zM zL zK zJ zI zH zG
theorem TA:amK 15=amL yh:=amO
attribute [push_cast] tu
variable {L:List Blk}{K:ajq}
set_option maxHeartbeats 8000000
set_option maxRecDepth 1000000
abbrev tnC(syn:Int)(nm:List UInt8):List AV:=[.str nm,.int .i64 syn,.bool false,.bool false]
theorem abU{α:Type}{L:List α}{p:Nat}{b:α}(h:L[p]?=some b):L.set p b=L:=by apply alv;intro i;rw[aj1];split;rename_i e;subst e;rw[h,if_pos (ajr.1 h).1];rfl
theorem afB{C:List AV}{n p:Nat}{syn:Int}{names:List (List UInt8)}{cap:Option Nat}(hn:n+names.length<=1100000)(hp:L[p]?=some (.spare n 4))(h:K (.gsl (C++names.flatMap (tnC syn)) (n+names.length) p 4) (L.set p (.spare (n+names.length) 4))):
  ajp 44 [.gsl C n p 4,.int .i64 syn,.sl (names.map AV.str) names.length cap] L K:=by
 have hpl:p<L.length:=(ajr.1 hp).1;have hset:∀b,(L.set p b)[p]?=some b:=λb=>by simp[hpl]
 replace h:=hid h;refine ajo RR ?_;refine aq (λm T' L'=>∃(j z:Nat) (D:List AV) (M:List Blk),m=names.length-j/\j<=names.length/\z=n+j/\Hid (D=C++(names.take j).flatMap (tnC syn))/\Hid (M=L.set p (.spare z 4))/\T'=[(11,.int .i64 (j:Int)),(10,.int .i64 names.length),(9,.sl (names.map AV.str) names.length cap),(0,.gsl D z p 4),(1,.int .i64 syn)]/\M=L') (CutS (b:=ajs _)) ⟨0,n,C,L,rfl,aju _,rfl,hid amN,hid (abU hp).symm,rfl,rfl⟩ ?_;rintro _ _ _ ⟨j,z,D,M,rfl,hj,hz,hD,hM,rfl,rfl⟩;by_cases hlt:j<names.length;have g1:(j:Int)<(names.length:Int):=amM;have g2:=ajn j amM;obtain⟨x,hx⟩:=ajl (names.getD j []);have j3:(names.map AV.str).getD j .undef=.str x:=by rw[<- hx];simp[hlt]
 have htk:names.take (j+1)=names.take j++[x]:=by rw[ajN hlt,<- hx];simp[hlt]
 have hMp:M[p]?=some (.spare z 4):=by rw[hM.o];exact hset _
 have hD2:D++[.str x,.int .i64 syn,.bool false,.bool false]=C++(names.take (j+1)).flatMap (tnC syn):=by rw[hD.o,htk];simp
 have hM2:M.set p (.spare (z+1) 4)=L.set p (.spare (z+1) 4):=by rw[hM.o,List.set_set]
 have hMl:M.length=L.length:=by rw[hM.o];simp
 replace hD2:=hid hD2;replace hM2:=hid hM2;have hz1:z+1<=1100000:=amM;have hz2:z+1=n+(j+1):=amM;replace hz2:=hid hz2;clear hx htk hD hM hset hz;refine wk ?_;exact amR amM (CutL (b:=by simp;omega)) ⟨j+1,z+1,_,_,rfl,hlt,hz2.o,hD2,hM2,rfl,rfl⟩;have hke:j=names.length:=amM;subst hke;have g1:¬(names.length:Int)<(names.length:Int):=amM;have hD2:=hD.o;have hM2:=hM.o;rw[ajL]at hD2;subst hD2 hz;rw[hM2]at *;clear hD hM hM2;refine wk ?_;exact ac h.o
def aN:List Typ:=[([111,98,106,101,99,116,67,108,97,115,115],3,false,false),([99,110],1,false,false),([115,110],1,false,false),([111,117],1,false,false),([111],1,false,false),([100,99],3,false,false),([117,105,100],3,false,false),([109,97,105,108],3,false,false),([100,101,115,99,114,105,112,116,105,111,110],1,false,false),([109,101,109,98,101,114],6,false,false),([117,115,101,114,80,97,115,115,119,111,114,100],7,false,false),([101,109,112,108,111,121,101,101,78,117,109,98,101,114],4,true,false),([97,99,116,105,118,101],5,true,false),([99,114,101,97,116,101,100,65,116],4,true,true),([99,104,97,110,103,101,100,65,116],4,true,true),([112,119,100,70,97,105,108,117,114,101],3,false,true),([112,119,100,76,111,99,107,101,100],4,true,true),([112,119,100,67,104,97,110,103,101,100],4,true,true)]
def Zm:List AV:=[.str [116,111,112],.str [],.int .i64 0,.sl [.str [111,98,106,101,99,116,67,108,97,115,115]] 1 none,.sl [.str [99,114,101,97,116,101,100,65,116],.str [99,104,97,110,103,101,100,65,116],.str [112,119,100,70,97,105,108,117,114,101],.str [112,119,100,76,111,99,107,101,100],.str [112,119,100,67,104,97,110,103,101,100]] 5 none,.str [100,111,109,97,105,110],.str [116,111,112],.int .i64 1,.sl [.str [100,99]] 1 none,.sl [.str [100,101,115,99,114,105,112,116,105,111,110]] 1 none,.str [111,114,103,97,110,105,122,97,116,105,111,110],.str [116,111,112],.int .i64 1,.sl [.str [111]] 1 none,.sl [.str [100,101,115,99,114,105,112,116,105,111,110]] 1 none,.str [111,114,103,97,110,105,122,97,116,105,111,110,97,108,85,110,105,116],.str [116,111,112],.int .i64 1,.sl [.str [111,117]] 1 none,.sl [.str [100,101,115,99,114,105,112,116,105,111,110]] 1 none,.str [112,101,114,115,111,110],.str [116,111,112],.int .i64 1,.sl [.str [99,110],.str [115,110]] 2 none,.sl [.str [100,101,115,99,114,105,112,116,105,111,110],.str [117,115,101,114,80,97,115,115,119,111,114,100]] 2 none,.str [105,110,101,116,80,101,114,115,111,110],.str [112,101,114,115,111,110],.int .i64 1,.sl [] 0 none,.sl [.str [117,105,100],.str [109,97,105,108],.str [101,109,112,108,111,121,101,101,78,117,109,98,101,114],.str [97,99,116,105,118,101]] 4 none,.str [103,114,111,117,112],.str [116,111,112],.int .i64 1,.sl [.str [99,110],.str [109,101,109,98,101,114]] 2 none,.sl [.str [100,101,115,99,114,105,112,116,105,111,110]] 1 none,.str [115,101,99,117,114,101,100],.str [116,111,112],.int .i64 2,.sl [.str [117,115,101,114,80,97,115,115,119,111,114,100]] 1 none,.sl [] 0 none,.str [108,97,98,101,108,108,101,100],.str [116,111,112],.int .i64 2,.sl [] 0 none,.sl [.str [117,105,100],.str [109,97,105,108]] 2 none]
theorem Yj:∀ts:List Typ,AV.frzL (cq ts)=cq ts
 |[]=>rfl
 |ty::ts=>by rw[show cq (ty::ts)=tyC ty++cq ts from rfl];simp only[tyC,akd,aj0,AV.frzL,AV.frz,Yj ts]
theorem Wu(p:Nat->Bool):∀ts:List Typ,AV.refsL p (cq ts)=true
 |[]=>rfl
 |ty::ts=>by rw[show cq (ty::ts)=tyC ty++cq ts from rfl];simp only[tyC,akd,aj0,AV.refsL,AV.refs,Wu p ts,alo]
theorem aik{P:Program}{N:Nat}{own:Nat->Nat->Nat}{Q:Exit->Tm->List Blk->Prop}{T:Tm}{lc:bq}{L L':List Blk}(e:L=L')(h:AW P N own lc Q T L'):AW P N own lc Q T L:=e▸h
theorem aaD(h:K (.agg [.sl (cq aN) aN.length none,.sl Zm 9 none]) L):ajp 15 [] L K:=by
 have st:∀(a:Nat) (syn:Int) (ns:List (List UInt8)) (b:Nat),cq (aN.take a)++ns.flatMap (tnC syn)=cq (aN.take b)->a+ns.length=b->b<=100->∀K:AV->List Blk->Prop,K (.gsl (cq (aN.take b)) b (L.length+2) 4) (L++[.cells [.sl [] 0 (some 0),.sl [] 0 (some 0)],.cells [.gsl (cq (aN.take a)) a (L.length+2) 4,.gsl [] 0 (L.length+3) 5],.spare b 4,.spare 0 5])->ajp 44 [.gsl (cq (aN.take a)) a (L.length+2) 4,.int .i64 syn,.sl (ns.map AV.str) ns.length (some ns.length)] (L++[.cells [.sl [] 0 (some 0),.sl [] 0 (some 0)],.cells [.gsl (cq (aN.take a)) a (L.length+2) 4,.gsl [] 0 (L.length+3) 5],.spare a 4,.spare 0 5]) K:=λa syn ns b h1 h2 h3 K q=>by refine afB amM amN ?_;rw[h1,h2,ajZ _ _ amM,show L.length+2-L.length=2 by omega];exact q
 have s1:=st 0 3 [[111,98,106,101,99,116,67,108,97,115,115]] 1 rfl rfl amM;have s2:=st 1 1 [[99,110],[115,110],[111,117],[111]] 5 rfl rfl amM;have s3:=st 5 3 [[100,99],[117,105,100],[109,97,105,108]] 8 rfl rfl amM;have s4:=st 8 1 [[100,101,115,99,114,105,112,116,105,111,110]] 9 rfl rfl amM;have s5:=st 9 6 [[109,101,109,98,101,114]] 10 rfl rfl amM;have s6:=st 10 7 [[117,115,101,114,80,97,115,115,119,111,114,100]] 11 rfl rfl amM;clear st;obtain⟨C1,h1⟩:=ajl (cq (aN.take 1));obtain⟨C5,h5⟩:=ajl (cq (aN.take 5));obtain⟨C8,h8⟩:=ajl (cq (aN.take 8));obtain⟨C9,h9⟩:=ajl (cq (aN.take 9));obtain⟨C10,h10⟩:=ajl (cq (aN.take 10));obtain⟨C11,h11⟩:=ajl (cq (aN.take 11));rw[show cq (aN.take 0)=[]from rfl]at s1;rw[h1]at s1 s2;rw[h5]at s2 s3;rw[h8]at s3 s4;rw[h9]at s4 s5;rw[h10]at s5 s6;rw[h11]at s6;simp only[ajP,akA,ajz,aj9,akw,Nat.reduceAdd]at s1 s2 s3 s4 s5 s6;have kk1:=@hid _ (λ{K:ajq}=>s1 K);have kk2:=@hid _ (λ{K:ajq}=>s2 K);have kk3:=@hid _ (λ{K:ajq}=>s3 K);have kk4:=@hid _ (λ{K:ajq}=>s4 K);have kk5:=@hid _ (λ{K:ajq}=>s5 K);have kk6:=@hid _ (λ{K:ajq}=>s6 K);clear s1 s2 s3 s4 s5 s6;clear h1 h5 h8 h9 h10;replace h11:=hid h11;replace h:=hid h;refine aa TA (by simp[yh]) ?_;simp only[yh,am]
 iterate 6 first
  |refine cA ?_
  | (first|refine bG amO ?_|refine ba amO ?_|refine be ?_|refine dN ?_|refine cD (fun _=>?_)|refine aU ?_|refine bI ?_)
    simp(config:={maxSteps:=2000000}) only[Kon,push_cast,reduceIte,Nat.reduceEqDiff,Nat.reduceAdd,Nat.reduceMul,Nat.reduceSub,Nat.reduceLT,Nat.reduceLeDiff,Int.reduceLT,Int.reduceLE,Int.reduceAdd,Int.reduceSub,Int.reduceNeg,Int.reduceToNat,Int.reduceEq,reduceCtorEq, *]
  | (first|refine bC amO ?_|refine bz ?_|refine bd ?_|refine bH ?_|refine cI (aT ?_))
    simp only[push_cast,reduceIte,Nat.reduceEqDiff,Nat.reduceAdd,Nat.reduceMul,Nat.reduceSub,Nat.reduceLT,Nat.reduceLeDiff,Int.reduceLT,Int.reduceLE,Int.reduceAdd,Int.reduceSub,Int.reduceNeg,Int.reduceToNat,Int.reduceEq,reduceCtorEq, *]
  |exact cE
  |first|apply cF|apply bD|apply cG|apply bE|apply cH|apply bF
  |refine bh ?_
  |refine bc ?_
  |first|refine bf rfl ?_|refine bg rfl ?_|refine aI rfl ?_ ?_|refine bm rfl (λ_=>?_) (λ_=>?_)|refine bj rfl (λ_=>?_) (λ_=>?_)
  |((first|refine aG (λ_=>?_) (λ_=>?_)|refine aS (λ_=>?_) (λ_=>?_))<;>try simp(config:={maxSteps:=2000000}) only[Kon,push_cast,reduceIte,Nat.reduceEqDiff,Nat.reduceAdd,Nat.reduceMul,Nat.reduceSub,Nat.reduceLT,Nat.reduceLeDiff,Int.reduceLT,Int.reduceLE,Int.reduceAdd,Int.reduceSub,Int.reduceNeg,Int.reduceToNat,Int.reduceEq,reduceCtorEq, *])
  |refine And.intro trivial ?_
  |refine And.intro amM ?_
  |refine br rfl (λ_=>?_) (λ_=>?_)
  |refine And.intro ?_ ?_
 refine V2 (L.length+1) 0 4 (c:=[.sl [] 0 (some 0),.sl [] 0 (some 0)]) (l:=[]) (n:=0) amN rfl rfl ?_;refine V2 (L.length+1) 1 5 (c:=[.gsl [] 0 (L.length+2) 4,.sl [] 0 (some 0)]) (l:=[]) (n:=0) amN rfl rfl ?_;refine aik (L':=L++[.cells [.sl [] 0 (some 0),.sl [] 0 (some 0)],.cells [.gsl [] 0 (L.length+2) 4,.gsl [] 0 (L.length+3) 5],.spare 0 4,.spare 0 5]) amN ?_;refine wk ?_;refine aq (λm T' L'=>∃(j z:Nat) (D:List AV) (X:List Blk),m=5-j/\j<=5/\Hid (z=13+j)/\Hid (D=cq (aN.take (13+j)))/\T'=[(49,.int .i64 (j:Int)),(48,.int .i64 5),(47,.sl [.str [99,114,101,97,116,101,100,65,116],.str [99,104,97,110,103,101,100,65,116],.str [112,119,100,70,97,105,108,117,114,101],.str [112,119,100,76,111,99,107,101,100],.str [112,119,100,67,104,97,110,103,101,100]] 5 (some 5)),(1,.ptr (L.length+1) 0),(0,.ptr L.length 0)]/\L'=L++(.cells [.sl [] 0 (some 0),.sl [] 0 (some 0)] :: .cells [.gsl D z (L.length+2) 4,.gsl [] 0 (L.length+3) 5] :: .spare z 4 :: .spare 0 5::X)) amQ ⟨0,13,_,[],rfl,amM,hid rfl,hid (by rw[<- h11.o];rfl),rfl,rfl⟩ ?_;clear kk1 kk2 kk3 kk4 kk5 kk6 h11;rintro _ _ _ ⟨j,z,D,X,rfl,hj,hz,hD,rfl,rfl⟩;by_cases hlt:j<5;have g1:(j:Int)<5:=amM;have g2:=ajn j amM;have hz1:z<=20:=by have:=hz.o;omega
 have hz2:z+1=13+(j+1):=by have:=hz.o;omega
 replace hz2:=hid hz2;have hj5:j=0\/j=1\/j=2\/j=3\/j=4:=amM;clear hz;rcases hj5 with e|e|e|e|e;have e3:([.str [99,114,101,97,116,101,100,65,116],.str [99,104,97,110,103,101,100,65,116],.str [112,119,100,70,97,105,108,117,114,101],.str [112,119,100,76,111,99,107,101,100],.str [112,119,100,67,104,97,110,103,101,100]]:List AV).getD j .undef=.str [99,114,101,97,116,101,100,65,116]:=by rw[e];rfl
 have hD2:D++[.str [99,114,101,97,116,101,100,65,116],.int .i64 4,.bool true,.bool true]=cq (aN.take (13+(j+1))):=by rw[hD.o,e];rfl
 replace hD2:=hid hD2;replace e:=hid e;clear hD;refine wk ?_;exact amR amM amP ⟨j+1,z+1,_,_,rfl,hlt,hz2,hD2,rfl,rfl⟩;have e3:([.str [99,114,101,97,116,101,100,65,116],.str [99,104,97,110,103,101,100,65,116],.str [112,119,100,70,97,105,108,117,114,101],.str [112,119,100,76,111,99,107,101,100],.str [112,119,100,67,104,97,110,103,101,100]]:List AV).getD j .undef=.str [99,104,97,110,103,101,100,65,116]:=by rw[e];rfl
 have hD2:D++[.str [99,104,97,110,103,101,100,65,116],.int .i64 4,.bool true,.bool true]=cq (aN.take (13+(j+1))):=by rw[hD.o,e];rfl
 replace hD2:=hid hD2;replace e:=hid e;clear hD;refine wk ?_;exact amR amM amP ⟨j+1,z+1,_,_,rfl,hlt,hz2,hD2,rfl,rfl⟩;have e3:([.str [99,114,101,97,116,101,100,65,116],.str [99,104,97,110,103,101,100,65,116],.str [112,119,100,70,97,105,108,117,114,101],.str [112,119,100,76,111,99,107,101,100],.str [112,119,100,67,104,97,110,103,101,100]]:List AV).getD j .undef=.str [112,119,100,70,97,105,108,117,114,101]:=by rw[e];rfl
 have hD2:D++[.str [112,119,100,70,97,105,108,117,114,101],.int .i64 3,.bool false,.bool true]=cq (aN.take (13+(j+1))):=by rw[hD.o,e];rfl
 replace hD2:=hid hD2;replace e:=hid e;clear hD;refine wk ?_;exact amR amM amP ⟨j+1,z+1,_,_,rfl,hlt,hz2,hD2,rfl,rfl⟩;have e3:([.str [99,114,101,97,116,101,100,65,116],.str [99,104,97,110,103,101,100,65,116],.str [112,119,100,70,97,105,108,117,114,101],.str [112,119,100,76,111,99,107,101,100],.str [112,119,100,67,104,97,110,103,101,100]]:List AV).getD j .undef=.str [112,119,100,76,111,99,107,101,100]:=by rw[e];rfl
 have hD2:D++[.str [112,119,100,76,111,99,107,101,100],.int .i64 4,.bool true,.bool true]=cq (aN.take (13+(j+1))):=by rw[hD.o,e];rfl
 replace hD2:=hid hD2;replace e:=hid e;clear hD;refine wk ?_;exact amR amM amP ⟨j+1,z+1,_,_,rfl,hlt,hz2,hD2,rfl,rfl⟩;have e3:([.str [99,114,101,97,116,101,100,65,116],.str [99,104,97,110,103,101,100,65,116],.str [112,119,100,70,97,105,108,117,114,101],.str [112,119,100,76,111,99,107,101,100],.str [112,119,100,67,104,97,110,103,101,100]]:List AV).getD j .undef=.str [112,119,100,67,104,97,110,103,101,100]:=by rw[e];rfl
 have hD2:D++[.str [112,119,100,67,104,97,110,103,101,100],.int .i64 4,.bool true,.bool true]=cq (aN.take (13+(j+1))):=by rw[hD.o,e];rfl
 replace hD2:=hid hD2;replace e:=hid e;clear hD;refine wk ?_;exact amR amM amP ⟨j+1,z+1,_,_,rfl,hlt,hz2,hD2,rfl,rfl⟩;have g1:¬(j:Int)<5:=amM;have hj5:j=5:=amM;have hD2:D=cq aN:=by rw[hD.o,hj5];rfl
 have hz2:z=aN.length:=by rw[hz.o,hj5];rfl
 replace hD2:=hid hD2;replace hz2:=hid hz2;clear hz hD hj5;refine wk ?_;rw[hD2.o,hz2.o];refine aJ ?_;simp only[AV.frz,AV.frzL,Yj];refine ab ?_ h.o;simp only[AV.refs,AV.refsL,Wu,alo]
theorem jt:ah3 aN:=by refine⟨by decide,λty h=>?_,λty h=>?_⟩;have:aN.all (λt=>decide (t.1.length<=1000))=true:=amO;have:=ajE.1 this ty h;simp only[decide_eq_true_eq]at this;unfold a8;omega;have:aN.all (λt=>decide (fS aN t.1=some t))=true:=amO;simpa using ajE.1 this ty h
end Go.Proofs.YtdnfjhflkkpokaaGreatDoor.Av
set_option maxRecDepth 100000
namespace Go.Proofs.YtdnfjhflkkpokaaGreatDoor.Av
open Go
def uh:LSO:=[Ad 8 0,Ak 9]
def ug:LSO:=[Aa 17 3,Ai 18 36 17,Aa 16 18,Ap 19 16,Aq 20 16,Aa 10 19,Aa 11 20]
def uf:LSO:=[Aa 21 11,A8 22 21 0]
def ue:LSO:=[Ad 8 0,Ak 9]
def uc:LSO:=[Aa 23 3,Af 24 23,Ah 25 24 1,Ad 26 0]
def ub:LSO:=[Al 27 26 25]
def t8:LSO:=[Aa 28 26,Aa 12 28]
def t7:LSO:=[Aa 29 0,Aa 30 3,Aa 31 12,BU 32 30 31,Au 33 24 29 32,Aa 13 33]
def tZ:LSO:=[Aa 34 13,Ao 35 34 0]
def tY:LSO:=[Aa 37 0,Aa 38 13,Au 39 25 37 38,Aa 36 39,Ap 40 36,Aq 41 36,Aa 14 40,Aa 15 41]
def rz:LSO:=[Aa 42 1,Aa 43 2,Aa 44 14,o1 45 (.call 26 [(tm 42),(tm 43),(tm 44),(.av (.str [])),(iv 1)]),A7 46 45]
def ry:LSO:=[Aa 47 12,Ao 48 47 0]
def rx:LSO:=[Aa 49 13,Aa 8 49,Ak 9]
def ru:LSO:=[Aa 50 14,Ad 8 0,Aa 9 50]
def rr:LSO:=[Ah 51 26 1,Aa 26 51]
def rq:LSO:=[Ad 8 0,Ak 9]
def gK:aQ:=⟨52,(amF uh [] (.seq (amF ug Cr (amF uf Cl (amH 22 (.sreg ue [])))) (.seq (amF uc Cx (amI 0 (amF ub [] (.seq (amJ 27 0) (.seq (.block 1 (amF t8 Cl (amF t7 Cq (.seq (amF tZ Cl (amG 35 (.exit 1) .skip)) (amF tY C7 (.seq (amF rz Co (amG 46 (.exit 1) .skip)) (.seq (amF ry Cl (amH 48 (.sreg rx Cs))) (amF ru Cs .ret)))))))) (.sreg rr Cl)))))) (amF rq [] .ret)))),[(.tmp 8),(.tmp 9)]⟩
attribute [push_cast] uh ug uf ue uc ub t8 t7 tZ tY rz ry rx ru rr rq
theorem ta:amK 10=amL gK:=amO
def Lu:LSO:=[A5 4 0,Ak 8]
def Lt:LSO:=[Ak 9]
def Lr:LSO:=[Aa 18 1,Af 19 18,Ad 20 0]
def Lq:LSO:=[Al 21 20 19]
def Lp:LSO:=[Am 22 2 18 20,Ar 23 2 22,Ba 11,An 2 11 23]
def Lo:LSO:=[Ar 25 2 4,Ac 26 0 11,Ab 27 1 26,Au 28 45 25 27,Aa 24 28,Ap 29 24,Aq 30 24,B5 12,An 4 12 29,Aa 13 30]
def Ln:LSO:=[Aa 31 2,Af 32 31,Ao 33 32 0,Aa 34 33,.grp none 34 true
 [Ay 35 34 3 12,Az 36 34 1 35,Bt 37 34 36]
 38 (tm 37),Aa 14 38]
def Lm:LSO:=[Aa 39 2,Af 40 39,Ad 41 0]
def Ll:LSO:=[Al 42 41 40]
def Lk:LSO:=[Am 43 1 39 41,Ab 44 1 43,Aa 16 44]
def FP:LSO:=[Aa 45 14,Aa 46 45,.grp none 46 false
 [Ag 47 46 16,og 48 46 false (.bin .eql (tm 47) (.av (.str [42]))),Ag 49 46 48,.grp (some (46,false)) 49 true
 [Ay 50 49 3 12,Az 51 49 1 50,Bt 52 49 51]
 53 (tm 52)]
 54 (tm 53),Aa 55 54,.grp none 55 false
 [Ag 56 55 16,og 57 55 false (.bin .eql (tm 56) (.av (.str [43]))),Ag 58 55 57,.grp (some (55,false)) 58 true
 [Ay 59 58 3 12,Az 60 58 1 59]
 61 (tm 60)]
 62 (tm 61),Aa 63 62,.grp none 63 false
 [Ag 64 63 16,AH 65 63 46 64,AA 66 63 0 11,AB 67 63 1 66,AH 68 63 46 67,Bp 69 63 65 68]
 70 (tm 69),Aa 14 70]
def FO:LSO:=[Ah 71 41 1,Aa 41 71]
def FN:LSO:=[Aa 72 14,A7 73 72]
def FM:LSO:=[Ac 74 0 11,Ab 75 1 74,o1 76 (.build [(.str []),(.sl [] 0 (some 0))] [(0,(1,(tm 75)))]),Ba 17,An 2 17 76]
def FL:LSO:=[Aa 77 3,A7 78 77]
def FK:LSO:=[Ac 79 1 11,Ab 80 1 79,Ai 81 47 80,Ac 82 1 17,An 1 82 81]
def FJ:LSO:=[Aa 83 9,Ar 84 2 17,Bw 85 84,B6 86 83 85,Aa 9 86]
def FI:LSO:=[Ah 87 20 1,Aa 20 87]
def FH:LSO:=[Aa 88 9,Aa 8 88]
def JC:aQ:=⟨89,(amF Lu [] (amF Lt [] (.seq (amF Lr [] (amI 0 (amF Lq [] (.seq (amJ 21 0) (.seq (.block 1 (amF Lp Cm (amF Lo [false,true,false,false,false,false,false,false,false] (amF Ln Cq (.seq (amF Lm [] (amI 2 (amF Ll [] (.seq (amJ 42 2) (.seq (.block 3 (amF Lk Cm (.sdreg FP [.pure,.pure,.pure,.pure,.pure,.pure,(.read 0 0),.pure,.pure,.pure,.pure,.pure,.pure,.pure,.pure,(.read 0 0),.pure,.pure,.pure,.pure,(.read 0 0),.pure,(.read 0 0)] Ct))) (.sreg FO Cl)))))) (.seq (amF FN Cl (amG 73 (.exit 1) .skip)) (amF FM Cp (.seq (amF FL Cl (amG 78 (.sreg FK Cy) .skip)) (.sreg FJ Co))))))))) (.sreg FI Cl)))))) (amF FH Cl .ret)))),[(.tmp 8)]⟩
attribute [push_cast] Lu Lt Lr Lq Lp Lo Ln Lm Ll Lk FP FO FN FM FL FK FJ FI FH
theorem VB:amK 17=amL JC:=amO
def yS:LSO:=[A5 6 1,A5 8 3,Ak 10,Ad 11 0,Ak 12]
def yR:LSO:=[Ac 23 1 8,Ab 24 1 23,Ai 25 36 24,Aa 22 25,Ap 26 22,Aq 27 22,Aa 13 26,Aa 14 27]
def yQ:LSO:=[Ac 29 2 8,Ab 30 1 29,AT 31 30 0,Aa 32 31,.grp none 32 false
 [AA 33 32 2 8,AB 34 32 1 33,AF 35 32 34 2]
 36 (tm 35),Aa 37 36,.grp none 37 false
 [AA 38 37 10 8,AB 39 37 1 38,Bz 40 37 39 0]
 41 (tm 40),Aa 42 41,.grp none 42 false
 [AA 43 42 11 8,AB 44 42 1 43,Bz 45 42 44 0]
 46 (tm 45),Aa 28 46]
def yP:LSO:=[Ak 10,Ad 11 2,Ak 12]
def yO:LSO:=[Aa 48 14,A8 49 48 0,Aa 47 49]
def yN:LSO:=[Ak 10,Ad 11 34,Ak 12]
def yM:LSO:=[Aa 51 0,Aa 52 2,Ac 53 0 8,Ab 54 1 53,Ac 55 1 8,Ab 56 1 55,BG 57 10 51 52 54 56,Aa 50 57,Ap 58 50,Aq 59 50,Aa 15 58,Aa 16 59]
def yL:LSO:=[Aa 60 15,Ao 61 60 0]
def yK:LSO:=[Aa 62 16,Ak 10,Ad 11 32,Aa 12 62]
def yJ:LSO:=[Ak 17]
def uA:LSO:=[Aa 63 0,Aa 64 15,Ac 65 2 8,Ab 66 1 65,AS 67 23 63 64 66,Af 68 67,Ad 69 0]
def uz:LSO:=[Al 70 69 68]
def uy:LSO:=[Aa 71 69,Am 72 1 67 69,Ab 73 1 72,o1 19 (.alloc [(.int .i64 0)]),Aa 18 71,An 1 19 73]
def ux:LSO:=[Ac 74 11 8,Ab 75 1 74,A9 76 75 0,Aa 77 76,.grp none 77 true
 [Ae 78 77 18,og 79 77 true (.bin .quo (tm 78) (iv 100)),Ay 80 77 11 8,Az 81 77 1 80,og 82 77 true (.bin .geq (tm 79) (tm 81))]
 83 (tm 82)]
def uw:LSO:=[Aa 84 17,Aa 10 84,Ad 11 3,Ak 12]
def uv:LSO:=[Aa 85 4,o1 86 (.mkfn 52 [(tm 19)]),Au 87 51 85 86]
def uu:LSO:=[Aa 89 0,Ab 90 1 19,Au 91 25 89 90,Aa 88 91,Ap 92 88,Aq 93 88,Aa 20 92,Aa 21 93]
def ur:LSO:=[Aa 94 2,Ac 95 0 8,Ab 96 1 95,Aa 97 20,o1 98 (.call 26 [(tm 94),(tm 96),(tm 97),(.av (.str [])),(iv 1)]),A7 99 98,Aa 100 99,.grp none 100 false
 [og 101 100 false (.load true 2 (tm 6)),AA 102 100 3 8,og 103 100 false (.load true 5 (tm 102)),Ag 104 100 2,AA 105 100 0 8,AB 106 100 1 105,Ag 107 100 20,Ag 108 100 21,
 og 109 100 false (.call 28 [(tm 104),(tm 106),(tm 107),(tm 108),(iv 4)]),og 110 100 false (.call 27 [(tm 101),(tm 103),(tm 109)]),Bb 111 100 110 1]
 112 (tm 111)]
def uo:LSO:=[Ac 113 10 8,Ab 114 1 113,A9 115 114 0,Aa 116 115,.grp none 116 true
 [Ae 117 116 17,AI 118 116 117,Ay 119 116 10 8,Az 120 116 1 119,BA 121 116 118 120]
 122 (tm 121)]
def um:LSO:=[Aa 123 17,Aa 10 123,Ad 11 4,Ak 12]
def ul:List (aw×Kd):=
 [AC 124 17,AC 125 20,od 126 (.load true 2 (tm 6)) (.read 0 0),AC 127 2,A0 128 0 8,A3 129 1 128 0 0,AC 130 20,AC 131 21,
 od 132 (.call 28 [(tm 127),(tm 129),(tm 130),(tm 131),(iv 2)]) (.read 0 0),A0 133 8 8,A3 134 1 133 0 0,A0 135 9 8,A3 136 1 135 0 0,
 od 137 (.call 17 [(tm 126),(tm 132),(tm 134),(tm 136)]) (.read 0 0),od 138 (.build [(.sl [] 0 (some 0)),(.sl [] 0 (some 0))] [(0,(1,(tm 125))),(1,(1,(tm 137)))]) .pure,
 od 139 (.bslice false 2 1 [(.sl [] 0 (some 0)),(.sl [] 0 (some 0))] [(0,(2,(tm 138)))]) (.read 0 0)]
def rA:List aw :=
 [⟨(some 140),(.app 1 2 48 [(.sl [] 0 (some 0)),(.sl [] 0 (some 0))] (tm 124) (tm 139)),none⟩,⟨(some 17),(.mv (tm 140)),none⟩]
def uj:LSO:=[Ah 141 69 1,Aa 69 141]
def ui:LSO:=[Aa 142 17,Aa 10 142,Ad 11 0,Ak 12]
def tq:aQ:=⟨143,(amF yS [] (amF yR Ct (.seq (.block 0 (amF yQ Cu (amG 28 (amF yP [] .ret) (amF yO Cm (amH 47 (.sreg yN [])))))) (amF yM CC (.seq (amF yL Cl (amH 61 (.sreg yK C0))) (amF yJ [] (.seq (amF uA CR (amI 1 (amF uz [] (.seq (amJ 70 1) (.seq (.block 2 (amF uy Cv (.seq (amF ux Co (amH 83 (.sreg uw C0))) (.seq (amF uv Cm (amG 87 (.exit 2) .skip)) (amF uu CF (.seq (.seq (.sdreg ur [.pure,.pure,(.read 0 0),.pure,(.read 0 0),.pure,.pure,(.read 0 0),.pure,(.read 0 0),.pure,.pure,(.read 0 0),.pure,.pure,(.read 0 0)] Ct) (amG 112 (.exit 2) .skip)) (.seq (amF uo Co (amH 122 (.sreg um C0))) (.dregM ul rA [true,false,false,false,false,false,false,false,false,false,false,false,false,false,false,false,false,false])))))))) (.sreg uj Cl)))))) (amF ui C0 .ret)))))))),[(.tmp 10),(.tmp 11),(.tmp 12)]⟩
attribute [push_cast] yS yR yQ yP yO yN yM yL yK yJ uA uz uy ux uw uv uu ur uo um ul rA uj ui
theorem RP:amK 21=amL tq:=amO
def fh:LSO:=[Aj 4]
def fg:LSO:=[Aa 5 0,Aa 6 1,Au 7 97 5 6,AJ 8 7 0,Aa 4 8]
def dv:aQ:=⟨9,(amF fh [] (amF fg Co .ret)),[(.tmp 4)]⟩
attribute [push_cast] fh fg
theorem jv:amK 51=amL dv:=amO
def gg:LSO:=[Ad 4 0]
def gf:LSO:=[Aa 6 0,Af 7 6,Ad 8 0]
def gc:LSO:=[Al 9 8 7]
def gb:LSO:=[Aa 10 8,Aa 5 10]
def ga:LSO:=[Aa 11 1,Aa 12 0,Aa 13 5,Am 14 1 12 13,Ab 15 1 14,BK 16 11 15]
def f9:LSO:=[Aa 17 5,Aa 4 17]
def f8:LSO:=[Ah 18 8 1,Aa 8 18]
def f7:LSO:=[Ad 4 (-1)]
def ek:aQ:=⟨19,(amF gg [] (.seq (amF gf Cs (amI 0 (amF gc [] (.seq (amJ 9 0) (.seq (.block 1 (amF gb Cl (amF ga Cq (amH 16 (.sreg f9 Cl))))) (.sreg f8 Cl)))))) (amF f7 [] .ret))),[(.tmp 4)]⟩
attribute [push_cast] gg gf gc gb ga f9 f8 f7
theorem l8:amK 97=amL ek:=amO
attribute [push_cast] gK JC dv ek
variable {α:Type}
structure Wn(l:List (Ent α)):Prop where
 ok:∀x∈l,OkD x.nm
 by_:∀a∈l,∀b∈l,NK a.nm=NK b.nm->a=b
 ne:∀x∈l,x.nm≠[]
theorem TOk.nms{suf:List Rdn}{last:Int}{l:List (Ent α)}(h:TOk suf last l):Wn l:=⟨h.ok,λa ha b hb e=>h.byN ha hb e,λx hx e=>h.inv.ne (fH hx) (JQ.2 e)⟩
def NY(P:List Rdn->Bool)(d:List Rdn)(best:List Rdn)(l:List (Ent α)):List Rdn:=l.foldl (λb x=>if(bA d x.nm=true/\b.length<x.nm.length)/\P x.nm=true then x.nm else b) best
def xM(P:List Rdn->Bool)(l:List (Ent α))(d:List Rdn):Int×List Rdn:=if(NY P d [] l).length=d.length then(aV l d,[])else(0,NY P d [] l)
def tI(P:List Rdn->Bool)(l:List (Ent α)):Bool->List Rdn->Int×List Rdn
 |_,[]=>(0,[])
 |b,r::s=>match atE l (r::s)with|some x=>if P x.nm=true then(if b then(x.id,[])else(0,x.nm))else tI P l false s|none=>tI P l false s
theorem Rr(P:List Rdn->Bool)(d best:List Rdn)(x:Ent α)(l:List (Ent α)):NY P d best (x::l)=NY P d (if(bA d x.nm=true/\best.length<x.nm.length)/\P x.nm=true then x.nm else best) l:=rfl
theorem Fw(P:List Rdn->Bool)(d:List Rdn):∀(l:List (Ent α)) (best:List Rdn),best.length<=(NY P d best l).length/\(∀x∈l,bA d x.nm=true->P x.nm=true->x.nm.length<=(NY P d best l).length)/\(NY P d best l=best\/∃x∈l,bA d x.nm=true/\P x.nm=true/\NY P d best l=x.nm)
 |[],best=>⟨ajs _,λ_ h=>absurd h akl,.inl rfl⟩
 | x::l,best=>by
   rw[Rr];by_cases hc:(bA d x.nm=true/\best.length<x.nm.length)/\P x.nm=true
   .rw[if_pos hc];obtain⟨h1,h2,h3⟩:=Fw P d l x.nm;refine⟨ajU (Nat.le_of_lt hc.1.2) h1,λy hy hu hp=>?_,?_⟩
    .rcases ajM.1 hy with rfl|hy
     .exact h1
     .exact h2 y hy hu hp
    .rcases h3 with e|⟨y,hy,hu,hp,e⟩
     .exact .inr ⟨x,amN,hc.1.1,hc.2,e⟩
     .exact .inr ⟨y,by simp[hy],hu,hp,e⟩
   .rw[if_neg hc];obtain⟨h1,h2,h3⟩:=Fw P d l best;refine⟨h1,λy hy hu hp=>?_,?_⟩
    .rcases ajM.1 hy with rfl|hy
     .refine ajU ?_ h1;rcases ajT best.length y.nm.length with h|h
      .exact absurd ⟨⟨hu,h⟩,hp⟩ hc
      .exact h
     .exact h2 y hy hu hp
    .rcases h3 with e|⟨y,hy,hu,hp,e⟩
     .exact .inl e
     .exact .inr ⟨y,by simp[hy],hu,hp,e⟩
theorem Wn.fnd{l:List (Ent α)}(h:Wn l){x:Ent α}(hx:x∈l){d:List Rdn}(hd:OkD d)(e:NK x.nm=NK d):atE l d=some x:=by
 unfold atE;rw[if_pos hd];cases hf:l.find? (λx=>decide (NK x.nm=NK d))with
 |none=>exact absurd e (by simpa using akJ.1 hf x hx)
 |some y=>rw[h.by_ y (ak6 hf) x hx (by rw[e];simpa using ak7 hf)]
theorem Wn.und{l:List (Ent α)}(h:Wn l){x:Ent α}(hx:x∈l){d:List Rdn}(hu:bA d x.nm=true)(hl:x.nm.length=d.length):aV l d=x.id:=by obtain⟨h1,_,h2⟩:=bL.1 hu;have:=h.fnd hx h1 (h2.eq_of_length (by rw[aW,aW,hl]));unfold aV;rw[this]
theorem Wr{P:List Rdn->Bool}{l:List (Ent α)}(h:Wn l):∀(d:List Rdn) (b:Bool),OkD d->(tI P l b d=(0,[])/\∀x∈l,P x.nm=true->¬NK x.nm <:+ NK d) \/
  ∃x∈l,P x.nm=true/\NK x.nm <:+ NK d/\(tI P l b d=if b=true/\x.nm.length=d.length then(x.id,[])else(0,x.nm))/\∀y∈l,P y.nm=true->NK y.nm <:+ NK d->y.nm.length<=x.nm.length
 |[],b,_=>.inl ⟨rfl,λx hx _ hs=>h.ne x hx (JQ.1 (List.suffix_nil.1 hs))⟩
 | r::d,b,hd=>by
   have hdd:OkD d:=OkD.app (c:=[r]) hd;have low:(∀x∈l,P x.nm=true->NK x.nm≠NK (r::d))->tI P l b (r::d)=tI P l false d->(tI P l b (r::d)=(0,[])/\∀x∈l,P x.nm=true->¬NK x.nm <:+ NK (r::d)) \/
     ∃x∈l,P x.nm=true/\NK x.nm <:+ NK (r::d)/\(tI P l b (r::d)=if b=true/\x.nm.length=(r::d).length then(x.id,[])else(0,x.nm))/\∀y∈l,P y.nm=true->NK y.nm <:+ NK (r::d)->y.nm.length<=x.nm.length:=by
    intro hno he;rw[he];have hs':∀x∈l,P x.nm=true->NK x.nm <:+ NK (r::d)->NK x.nm <:+ NK d:=λx hx hp hs=>by
     rcases List.suffix_cons_iff.1 (show NK x.nm <:+ cP true r::NK d from hs)with e|e
     .exact absurd e (hno x hx hp)
     .exact e
    rcases Wr h d false hdd with⟨h1,h2⟩|⟨x,hx,hp,h1,h2,h3⟩
    .exact .inl ⟨h1,λx hx hp hs=>h2 x hx hp (hs' x hx hp hs)⟩
    .have:=h1.length_le;rw[aW,aW]at this;refine .inr ⟨x,hx,hp,h1.trans (alF _ _),?_,λy hy hp hs=>h3 y hy hp (hs' y hy hp hs)⟩;rw[h2,if_neg amN,if_neg (by simp;omega)]
   cases hf:atE l (r::d)with
   | some x =>
     obtain⟨_,hx,e⟩:=bW hf;by_cases hp:P x.nm=true
     .have hlen:x.nm.length=(r::d).length:=(by have:=congrArg List.length e;rwa[aW,aW]at this);refine .inr ⟨x,hx,hp,by rw[e];exact als _,?_,λy hy _ hs=>?_⟩
      .rw[tI,hf];simp only;rw[if_pos hp];simp only[hlen,and_true]
      .have:=hs.length_le;rw[aW,aW]at this;omega
     .refine low (λy hy hp' ey=>hp ?_) (by rw[tI,hf];simp only;rw[if_neg hp]);rw[h.by_ x hx y hy (by rw[e,ey])];exact hp'
   | none =>
     have hno:=qt.1 hf hd;exact low (λx hx _=>hno x hx) (by rw[tI,hf])
theorem afy{P:List Rdn->Bool}{l:List (Ent α)}(h:Wn l){d:List Rdn}(hd:OkD d):tI P l true d=xM P l d:=by
 obtain⟨h1,h2,h3⟩:=Fw P d l [];unfold xM;rcases Wr h d true hd with⟨e1,e2⟩|⟨x,hx,hp,e1,e2,e3⟩;rw[e1];have hv:NY P d [] l=[]:=by rcases h3 with e|⟨y,hy,hu,hp,e⟩;exact e;exact absurd (bL.1 hu).2.2 (e2 y hy hp)
 rw[hv];split;rename_i h0;have hd0:d=[]:=by simpa using h0.symm
 subst hd0;unfold aV;cases hf:atE l ([]:List Rdn)with
 |none=>rfl
 | some x =>
   obtain⟨_,hx,e⟩:=bW hf;exact absurd (JQ.1 (by rw[e];rfl)) (h.ne x hx)
 rfl;have hu:=bL.2 ⟨hd,h.ok x hx,e1⟩;have hxl:=h2 x hx hu hp;have hv:NY P d [] l=x.nm:=by rcases h3 with e|⟨y,hy,huy,hpy,e⟩;rw[e]at hxl;exact absurd (by simpa using hxl) (h.ne x hx);rw[e]at hxl⊢;have hys:=(bL.1 huy).2.2;have hl:=e3 y hy hpy hys;have:NK x.nm <:+ NK y.nm:=Ru e1 hys (by rw[aW,aW];exact hxl);rw[h.by_ x hx y hy (this.eq_of_length (by rw[aW,aW];omega))]
 rw[hv,e2];simp only[true_and];split;rename_i hl;rw[h.und hx hu hl];rfl
end Go.Proofs.YtdnfjhflkkpokaaGreatDoor.Av
