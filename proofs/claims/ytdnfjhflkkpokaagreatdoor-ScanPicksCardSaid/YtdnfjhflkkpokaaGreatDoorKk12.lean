/- Joined texts of the walk, made small by a program. -/
import Derived.Test.YtdnfjhflkkpokaaGreatDoorKk8
import Derived.Test.YtdnfjhflkkpokaaGreatDoorKk11
import Derived.Test.YtdnfjhflkkpokaaGreatDoorKk10
import Derived.Test.YtdnfjhflkkpokaaGreatDoorKk9
import Derived.Test.YtdnfjhflkkpokaaGreatDoorKk4
import Derived.Test.YtdnfjhflkkpokaaGreatDoorRows
import Derived.KernelRfl
import Derived.Test.YtdnfjhflkkpokaaGreatDoorKk5
set_option linter.unusedSimpArgs false
set_option linter.unusedVariables false
namespace Go.Proofs.YtdnfjhflkkpokaaGreatDoor.Av
open Go
variable {x y:aA}{dn tn:List Rdn}{k:Int}{ids:List Int}{i rt ib:Nat}{L' A:List Blk}{w m s:List AV}
def opM(ts:List Typ)(n:List UInt8):Bool:=((fS ts n).getD ([],0,false,false)).2.2.2
def R7(o:Bool)(nm n:List UInt8):Bool:=(decide (n=[42]) && !o) ||((decide (n=[43])&&o) ||decide (ag n=ag nm))
def Fv(ts:List Typ)(names:List (List UInt8))(a:Atr):Bool:=(decide (names=[]) && !opM ts a.1) ||names.any (R7 (opM ts a.1) a.1)
def cW(ts:List Typ)(names:List (List UInt8))(tonly:Bool)(l:List Atr):List Atr:=(l.filter (Fv ts names)).map λa=>(a.1,if tonly then[]else a.2)
abbrev Fnd:=List Rdn×List Atr
variable {α:Type}
def Wb(ts:List Typ)(P:List Rdn->List UInt8->Int->Bool)(T:List Atr->Int)(names:List (List UInt8))(tonly:Bool)(x:Ent (List Atr)):Option Fnd :=
 if(P x.nm [] 1&&decide (T (x.av.filter λa=>P x.nm a.1 4)=1))=true then some (x.nm,cW ts names tonly (x.av.filter λa=>P x.nm a.1 2))else none
def srL(f:α->Option Fnd)(time size:Int):Nat->List Fnd->List α->List Fnd×Int
 |_,out,[]=>(out,0)
 | n,out,x::l=>if 0<time/\time<=((n / 100:Nat):Int) then (out,3) else
   match f x with
   |none=>srL f time size (n+1) out l
   |some y=>if 0<size/\(out.length:Int)=size then(out,4)else srL f time size (n+1) (out++[y]) l
def Um(ts:List Typ)(l:List (Ent (List Atr)))(P:List Rdn->List UInt8->Int->Bool)(T:List Atr->Int)(base:List Rdn)(scope:Int)(names:List (List UInt8))(tonly:Bool)(size time:Int):List Fnd×Int×List Rdn :=
 if scope<0\/2<scope\/size<0\/time<0 then([],2,[])else
 if ¬OkD base then([],34,[])else
 if(xM (P · [] 1) l base).1=0 then([],32,(xM (P · [] 1) l base).2)else
 ((srL (Wb ts P T names tonly) time size 0 [] (match l6 l (xM (P · [] 1) l base).1 with|some a=>scL l a scope|none=>[])).1,(srL (Wb ts P T names tonly) time size 0 [] (match l6 l (xM (P · [] 1) l base).1 with|some a=>scL l a scope|none=>[])).2,[])
set_option maxHeartbeats 8000000
set_option maxRecDepth 100000
theorem Yq{l:List aA}(h:l6 l x.id=some x):scT l x.id 2=(scL l x 2).map (·.id):=by unfold scT;rw[h];exact if_neg amM
theorem TV{suf:List Rdn}{last:Int}{l:List aA}(ht:TOk suf last l)(hx:atE l dn=some x):y∈scL l x 2↔y∈l/\bA y.nm dn=true:=by
 obtain⟨hd,hxl,e⟩:=bW hx;unfold scL;rw[List.Perm.mem_iff (ali _ _),aka];refine and_congr_right λhy=>?_
 unfold gr;rw[decide_eq_true (rfl:(2:Int)=2),alf,alw,bL,bL,e];exact⟨λ⟨a,_,c⟩=>⟨a,hd,c⟩,λ⟨a,_,c⟩=>⟨a,ht.ok x hxl,c⟩⟩
theorem aa4(l:List aA)(x:aA)(s:Int):(scL l x s).length<=l.length:=by unfold scL;rw[amv];exact ak9 _ _
theorem agH{suf:List Rdn}{last:Int}{l:List aA}(ht:TOk suf last l)(hx:atE l dn=some x):aaG l dn tn=(scL l x 2).any λy => !decide (OkD (gm y.nm dn.length tn)):=by rw[ak8,aaG,akX,akX];constructor;rintro⟨y,hy,h⟩;rw[ajv]at h;exact⟨y,(TV ht hx).2 ⟨hy,h.1⟩,h.2⟩;rintro⟨y,hy,h⟩;obtain⟨h1,h2⟩:=(TV ht hx).1 hy;exact⟨y,h1,by rw[ajv];exact⟨h2,h⟩⟩
theorem ahl{suf:List Rdn}{last:Int}{l:List aA}(ht:TOk suf last l)(hln:l.length<=1100000){L:List Blk}{iv mn mi:Nat}{nb bn:Int->Nat}{ck ci:Nat}{rs:List TKy}(hc:bO L iv mn mi nb bn ck ci rs suf last l){v:AV}(hx:atE l dn=some x)(htb:dnB tn){K:ajq}(h:K (.int .i64 (Xx suf l x.id dn tn)) L):
  ajp 124 [.ptr iv 0,.int .i64 x.id,.agg [.int .i64 k,dnA dn,dnA tn,v]] L K:=by
 obtain⟨hd,hxl,hxe⟩:=bW hx;have hsb:=ht.sok.m.b;have hdb:=hd.m.b;have hv:=hc.v;have hivl:iv<L.length:=(ajr.1 hv).1;have av:∀X:List Blk,(L++X)[iv]?=some (.cells [dnA suf,.lmap mn,.lmap mi,.int .i64 last]):=λX=>by rw[ajw hivl];exact hv
 obtain⟨⟨ps,pe⟩,hp⟩:∃q,prS tn=q:=⟨_,rfl⟩;have kk1:Hid (Ctr Tryz.prog 36 [dnA tn] (.tup [.str ps,.int .i64 pe])):=@hid _ (by intro L K q;exact jm htb.1 htb.2 (by rw[hp];exact q));have kk2:Hid (∀{v:Nat}{L:List Blk}{K:ajq},K (.bool (gF dn suf)) L->ajp 123 [.ptr v 0,dnA dn,dnA suf] L K):=@hid _ (by intro v L K q;exact aaV hdb hsb q);have p1:OkD tn↔pe=0:=by unfold OkD;rw[hp]
 unfold Xx at h;by_cases c1:gF dn suf=true;rw[if_pos c1]at h;rw[c1]at kk2;replace h:=hid h;clear hc hp p1 hdb hsb;refine ajo bR ?_;exact ab rfl h.o;rw[if_neg c1]at h;rw[amw.2 c1]at kk2;by_cases c2:pe=0;rotate_left;rw[if_pos (.inl λc=>c2 (p1.1 c))]at h;replace h:=hid h;clear hc hp p1 hdb hsb;refine ajo bR ?_;exact ab rfl h.o;have hto:=p1.2 c2;have ht32:=hto.len;subst c2;by_cases c3:tn=[];rw[if_pos (.inr c3)]at h;replace h:=hid h;subst c3;clear hc hp p1 hdb hsb;refine ajo bR ?_;exact ab rfl h.o;rw[if_neg (λc=>c.elim (λc=>c hto) c3)]at h;have hl3:¬(tn.length:Int)=0:=λc=>c3 (aj4.1 amM)
 have hl4:(1:Int)<=(tn.length:Int):=amM;have htt:tn.tail.length=tn.length-1:=ak5;have hdr:List.take (tn.length-1) (List.drop 1 (tn.map ah))=tn.tail.map ah:=by rw[amc,List.map_tail,aj3 amN]
 have hot:=hto.tail;have kk3:Hid (∀{c:Option Nat}{L:List Blk}{K:ajq},K (.bool (bA tn.tail dn)) L->ajp 62 [.sl (List.take (tn.length-1) (List.drop 1 (tn.map ah))) (tn.length-1) c,dnA dn] L K):=@hid _ (by intro c L K q;rw[hdr,<- htt];exact OO hot.m.b hdb q)
 have kf:Hid (∀{c:Option Nat}{L':List Blk}{K:ajq}(d:List Rdn) (X:List Blk),dnB d->K (.int .i64 (aV l d)) (L++X)->ajp 24 [.ptr iv 0,.sl (d.map ah) d.length c] (L++X) K):=@hid _ (by intro c L' K d X hdd q;exact qB hdd ht (hc.app X) q)
 have kk4:Hid (∀{c:Option Nat}{X:List Blk}{K:ajq},K (.int .i64 (aV l tn.tail)) (L++X)->ajp 24 [.ptr iv 0,.sl (List.take (tn.length-1) (List.drop 1 (tn.map ah))) (tn.length-1) c] (L++X) K):=@hid _ (by intro c X K q;rw[hdr,<- htt];exact kf.o (L':=L) _ X hot.m.b q)
 by_cases c4:bA tn.tail dn=true;rw[if_pos c4]at h;rw[c4]at kk3;replace h:=hid h;clear hc hp p1 hdb hsb kf kk4 hdr;refine ajo bR ?_;exact ab rfl h.o;rw[if_neg c4]at h;rw[amw.2 c4]at kk3;by_cases c5:atE l tn.tail=none;rw[if_pos c5]at h;rw[ht.find0.2 c5]at kk4;replace h:=hid h;clear hc hp p1 hdb hsb kf hdr;refine ajo bR ?_;exact ab rfl h.o;rw[if_neg c5]at h;have c5':¬aV l tn.tail=0:=λc=>c5 (ht.find0.1 c)
 have kk5:Hid (∀{X:List Blk}{K:ajq},K (.int .i64 (aV l tn)) (L++X)->ajp 24 [.ptr iv 0,dnA tn] (L++X) K):=@hid _ (by intro X K q;exact kf.o (L':=L) _ X hto.m.b q)
 obtain⟨z,hz⟩:=ajl (aV l tn.tail);rw[hz]at kk4 c5';have hoth:Z3 l x.id tn=(decide (0<aV l tn)&&decide (aV l tn≠x.id)):=by
  unfold Z3 aV;cases hq:atE l tn with
  |none=>simp
  | some y =>
    have:=(ht.ids y (bW hq).2.1).1;simp only;rw[decide_eq_true (by omega:0<y.id),aj7]
 rw[hoth]at h;obtain⟨w,hw⟩:=ajl (aV l tn);rw[hw]at kk5 h;obtain⟨xi,hxi⟩:=ajl (x.id);rw[hxi]at h⊢;by_cases c6:0<w/\w≠xi;obtain⟨c6,c7⟩:=c6;have c6':w>0:=c6;rw[if_pos (by rw[decide_eq_true c6,decide_eq_true c7];rfl)]at h;replace h:=hid h;clear hc hp p1 hdb hsb kf hdr;refine ajo bR ?_;exact ab rfl h.o;rw[if_neg (by intro c;rw[ajv,decide_eq_true_eq,decide_eq_true_eq]at c;exact c6 c)]at h
 have c8:w<=0\/w=xi:=amM;rw[agH ht hx]at h;have hsc:scT l xi 2=(scL l x 2).map (·.id):=by rw[<- hxi];exact Yq (ht.ent hxl)
 have kk6:Hid (∀{X:List Blk}{K:ajq},K (.sl (((scL l x 2).map (·.id)).map (AV.int .i64)) (scL l x 2).length none) (L++X)->ajp 23 [.ptr iv 0,.int .i64 xi,.int .i64 2] (L++X) K):=@hid _ (by intro X K q;refine Uf ht hln (hc.app X) ?_;rw[hsc,ajR];exact q)
 obtain⟨sc,hsce⟩:=ajl (scL l x 2);have hscl:=aa4 l x 2;have hscm:=λy=>(TV (y:=y) ht hx).1
 rw[hsce]at kk6 h hscl hscm;replace hscm:=hid hscm;replace h:=hid h;replace hc:=hid hc;replace ht:=hid ht;clear hp p1 hdb hsb kf hdr hsc hsce hoth hw hz hxi;have c9:(¬0<w/\¬w>0)\/(0<w/\w>0/\xi=w):=amM;clear c8 c6;have hdl:=hd.len;rcases c9 with⟨c9,c9'⟩|⟨c9,c9',rfl⟩
 all_goals
  refine ajo bR ?_;refine aq (λm T' L'=>∃j:Nat,m=sc.length-j/\j<=sc.length/\Hid (∀i,i<j->OkD (gm (sc.getD i default).nm dn.length tn))/\T'=[(68,.int .i64 (j:Int)),(67,.int .i64 sc.length),(66,.sl ((sc.map (·.id)).map (AV.int .i64)) sc.length none),(5,.ptr L.length 0),(0,.ptr iv 0)]/\L'=L++[.cells [.int .i64 k,dnA dn,dnA tn,v]]) amQ ⟨0,rfl,aju _,hid (λi hi=>absurd hi (alX _)),rfl,rfl⟩ ?_;rintro _ _ _ ⟨j,rfl,hj,hI,rfl,rfl⟩;by_cases hlt:j<sc.length
  .have g1:(j:Int)<(sc.length:Int):=amM;have g2:=ajn j amM;obtain⟨y,hy⟩:=ajl (sc.getD j default);have hym:y∈sc:=(by rw[<- hy];simp[hlt]);obtain⟨hyl,hyu⟩:=hscm.o y hym;have e1:((sc.map (·.id)).map (AV.int .i64)).getD j .undef=.int .i64 y.id:=(by rw[<- hy];simp[hlt]);have e2:j<((sc.map (·.id)).map (AV.int .i64)).length:=(by simpa using hlt);rcases(hc.o.app [.cells [.int .i64 k,dnA dn,dnA tn,v]]).node y.id with⟨f1,_⟩|⟨x',n,f1,_,_,f2,f3⟩
   .rw[ht.o.ent hyl]at f1;cases f1
   rw[ht.o.ent hyl]at f1;cases f1;unfold kk at f3;have hoy:=ht.o.ok y hyl;have hyle:dn.length<=y.nm.length:=by have:=(bL.1 hyu).2.2.length_le;rwa[aW,aW]at this
   have hy32:=hoy.len;have an:=(hc.o.app [.cells [.int .i64 k,dnA dn,dnA tn,v]]).n;obtain⟨yi,hyi⟩:=ajl (y.id);obtain⟨yn,hyn⟩:=ajl (y.nm);rw[hyi]at e1 f2 f3;rw[hyn]at f3 hyle hy32 hoy;obtain⟨q,hq⟩:=ajl (yn.length-dn.length);have w1:IntKind.i64.wrap ((yn.length:Int)-(dn.length:Int))=(q:Int):=(by rw[ae amM amM];omega);have w2:(q:Int)<=(yn.length:Int):=amM;have hkf:bw .int (.int .i64 yi)=true:=rfl;obtain⟨Z,hZ⟩:=ajl (gm yn dn.length tn);have hZe:yn.take q++tn=Z:=(by rw[<- hZ,<- hq];rfl);have hZb:dnB Z:=by rw[<- hZe];refine⟨by simp;omega,λr hr=>?_⟩;rcases ajx.1 hr with hr|hr;exact hoy.m.b.2 r (amg hr);exact htb.2 r hr
   have kk7:Hid (∀{c:Option Nat}{L:List Blk}{K:ajq},K (dnA Z) L->ajp 59 [dnA tn,.sl (List.take q (yn.map ah)) q c] L K):=@hid _ (by intro c L K u;rw[<- amd];exact abk hZe (by rw[akH];omega) rfl hZb.1 hZb.2 u)
   obtain⟨⟨zs,ze⟩,hzp⟩:∃u,prS Z=u:=⟨_,rfl⟩;have kk1:Hid (Ctr Tryz.prog 36 [dnA Z] (.tup [.str zs,.int .i64 ze])):=@hid _ (by intro L K u;exact jm hZb.1 hZb.2 (by rw[hzp];exact u));have pz:OkD Z↔ze=0:=(by unfold OkD;rw[hzp]);by_cases hz0:ze=0
   .have hI':=hid (λi (hi:i<j+1)=>show OkD (gm (sc.getD i default).nm dn.length tn)from by
     by_cases e:i=j
     .subst e;rw[hy,hyn,hZ];exact pz.2 hz0
     .exact hI.o i amM)
    subst hz0;clear hI hy hym hyl hyu hoy hyle hyi hyn hq hZ hZe hZb hzp pz kk2 kk3 kk4 kk5 kk6;refine wk ?_;exact amR amM amP ⟨j+1,rfl,hlt,hI',rfl,rfl⟩
   .have hbad:(sc.any λy => !decide (OkD (gm y.nm dn.length tn)))=true:=akX.2 ⟨y,hym,by rw[hyn,hZ,decide_eq_false (λc=>hz0 (pz.1 c))];rfl⟩;have h':=h.o;rw[if_pos hbad]at h';replace h':=hid h';clear hI hy hym hyl hyu hoy hyle hyi hyn hq hZ hZe hZb hzp pz kk2 kk3 kk4 kk5 kk6 hbad;refine wk ?_;exact ab rfl h'.o
  .have hje:j=sc.length:=amM;subst hje;have g1:¬(sc.length:Int)<(sc.length:Int):=amM;have hgood:¬(sc.any λy => !decide (OkD (gm y.nm dn.length tn)))=true:=λc=>by obtain⟨y,hy,hb⟩:=akX.1 c;obtain⟨i,hi,rfl⟩:=akk.1 hy;have:=hI.o i hi;rw[show sc.getD i default=sc[i]by simp[hi]]at this;rw[decide_eq_true this]at hb;cases hb
   have h':=h.o;rw[if_neg hgood]at h';replace h':=hid h';clear hI hgood;refine wk ?_;exact ab rfl h'.o
theorem OM{suf:List Rdn}{last:Int}{l:List aA}(ht:TOk suf last l)(hln:l.length<=1100000){L:List Blk}{iv mn mi:Nat}{nb bn:Int->Nat}{ck ci:Nat}{rs:List TKy}(hc:bO L iv mn mi nb bn ck ci rs suf last l){v:AV}(hdb:dnB dn)(htb:dnB tn){K:ajq}(h:K (.int .i64 (fe suf l k dn tn)) L):
  ajp 78 [.ptr iv 0,.agg [.int .i64 k,dnA dn,dnA tn,v]] L K:=by
 have hsb:=ht.sok.m.b;have hv:=hc.v;have hn:=hc.n;have hivl:iv<L.length:=(ajr.1 hv).1;have hmnl:mn<L.length:=(ajr.1 hn).1;have av:∀X:List Blk,(L++X)[iv]?=some (.cells [dnA suf,.lmap mn,.lmap mi,.int .i64 last]):=λX=>by rw[ajw hivl];exact hv
 have an:∀X:List Blk,(L++X)[mn]?=some (.map (l.map (fG nb bn)) ck):=λX=>by rw[ajw hmnl];exact hn
 have hnl:(l.map (fG nb bn)).length=l.length:=ajR _;obtain⟨⟨ps,pe⟩,hp⟩:∃q,prS dn=q:=⟨_,rfl⟩;have kk1:Hid (Ctr Tryz.prog 36 [dnA dn] (.tup [.str ps,.int .i64 pe])):=@hid _ (by intro L K q;exact jm hdb.1 hdb.2 (by rw[hp];exact q));have kk2:Hid (∀{v:Nat}{L:List Blk}{K:ajq},K (.bool (gF dn suf)) L->ajp 123 [.ptr v 0,dnA dn,dnA suf] L K):=@hid _ (by intro v L K q;exact aaV hdb hsb q);have p1:OkD dn↔pe=0:=by unfold OkD;rw[hp]
 have kk3:Hid (∀{X:List Blk}{K:ajq},K (.int .i64 (aV l dn)) (L++X)->ajp 24 [.ptr iv 0,dnA dn] (L++X) K):=@hid _ (by intro X K q;exact qB hdb ht (hc.app X) q)
 obtain⟨z,hz⟩:=ajl (aV l dn);have hz0:=ht.find0 (d:=dn);rw[hz]at hz0 kk3;unfold fe at h;by_cases hk:k<1\/4<k;rw[if_pos hk]at h;have d1:¬k=1:=amM;have d2:¬k=2:=amM;have d3:¬k=3:=amM;have d4:¬k=4:=amM;replace h:=hid h;clear hc hp p1 hdb hsb hz0 hz;refine ajo aO ?_;exact ab rfl h.o;rw[if_neg hk]at h;by_cases k1:k=1
 .subst k1;rw[if_pos rfl]at h;by_cases c1:pe=0;rotate_left;rw[if_pos (λc=>c1 (p1.1 c))]at h;replace h:=hid h;clear hc hp p1 hdb hsb hz0 hz hk;refine ajo aO ?_;exact ab rfl h.o;have hod:=p1.2 c1;subst c1;rw[if_neg (λc=>c hod)]at h;by_cases c2:z=0;rotate_left;rw[if_pos (λc=>c2 (hz0.2 c))]at h;have hzp:0<z:=by
   cases hq:atE l dn with
   |none=>exact absurd (hz0.2 hq) c2
   | some y =>
     have:=(ht.ids y (bW hq).2.1).1;rw[<- hz];unfold aV;rw[hq];simp only;omega
  have hzp':z>0:=hzp;replace h:=hid h;clear hc hp p1 hdb hsb hz0 hz hk;refine ajo aO ?_;exact ab rfl h.o;subst c2;rw[if_neg (λc=>c (hz0.1 rfl))]at h;have hdl:=hod.len;obtain⟨sm,hsm⟩:=ajl (gF dn suf);rw[hsm]at h kk2;have hlast:∀{h4:K (.int .i64 (if 4096<=l.length then 80 else 0)) L},(4096<=l.length/\K (.int .i64 80) L)\/(¬4096<=l.length/\K (.int .i64 0) L):=λ{h4}=>by by_cases c:4096<=l.length;rw[if_pos c]at h4;exact .inl ⟨c,h4⟩;rw[if_neg c]at h4;exact .inr ⟨c,h4⟩
  cases sm with
  | true =>
    rw[if_neg (λc=>by cases c.1)]at h;rcases hlast (h4:=h)with⟨c,h⟩|⟨c,h⟩
    .have c':(4096:Int)<=(l.length:Int):=amM;have c'':(l.length:Int)≥4096:=c';replace h:=hid h;clear hlast hc hp p1 hdb hsb hz0 hz hk;refine ajo aO ?_;exact ab rfl h.o
    .have c':¬(4096:Int)<=(l.length:Int):=amM;have c'':¬(l.length:Int)≥4096:=c';replace h:=hid h;clear hlast hc hp p1 hdb hsb hz0 hz hk;refine ajo aO ?_;exact ab rfl h.o
  | false =>
    by_cases c3:dn=[]
    .rw[if_pos ⟨rfl,.inl c3⟩]at h;subst c3;replace h:=hid h;clear hlast hc hp p1 hdb hsb hz0 hz hk;refine ajo aO ?_;exact ab rfl h.o
    have hl3:¬(dn.length:Int)=0:=λc=>c3 (aj4.1 amM)
    have hl4:(1:Int)<=(dn.length:Int):=amM;have htt:dn.tail.length=dn.length-1:=ak5;have hdr:List.take (dn.length-1) (List.drop 1 (dn.map ah))=dn.tail.map ah:=(by rw[amc,List.map_tail,aj3 amN]);have kk4:Hid (∀{c:Option Nat}{X:List Blk}{K:ajq},K (.int .i64 (aV l dn.tail)) (L++X)->ajp 24 [.ptr iv 0,.sl (List.take (dn.length-1) (List.drop 1 (dn.map ah))) (dn.length-1) c] (L++X) K):=@hid _ (by intro c X K q;rw[hdr,<- htt];exact qB hod.tail.m.b ht (hc.app X) q)
    have hq0:=ht.find0 (d:=dn.tail);obtain⟨q,hq⟩:=ajl (aV l dn.tail);rw[hq]at hq0 kk4;by_cases c4:q=0
    .rw[if_pos ⟨rfl,.inr (hq0.1 c4)⟩]at h;subst c4;replace h:=hid h;clear hlast hc hp p1 hdb hsb hz0 hz hk hdr hq0 hq;refine ajo aO ?_;exact ab rfl h.o
    rw[if_neg (λc=>c.2.elim c3 λc=>c4 (hq0.2 c))]at h;rcases hlast (h4:=h)with⟨c,h⟩|⟨c,h⟩
    .have c':(4096:Int)<=(l.length:Int):=amM;have c'':(l.length:Int)≥4096:=c';replace h:=hid h;clear hlast hc hp p1 hdb hsb hz0 hz hk hdr hq0 hq;refine ajo aO ?_;exact ab rfl h.o
    .have c':¬(4096:Int)<=(l.length:Int):=amM;have c'':¬(l.length:Int)≥4096:=c';replace h:=hid h;clear hlast hc hp p1 hdb hsb hz0 hz hk hdr hq0 hq;refine ajo aO ?_;exact ab rfl h.o
 rw[if_neg k1]at h;have hkk:k=2\/k=3\/k=4:=amM;cases hx:atE l dn with
 | none =>
   rw[hx]at h;simp only at h;have c2:z=0:=hz0.2 hx;subst c2;replace h:=hid h;clear hc hp p1 hdb hsb hz0 hz hk k1;rcases hkk with rfl|rfl|rfl
   all_goals
    refine ajo aO ?_;exact ab rfl h.o
 | some x =>
   rw[hx]at h;simp only at h;obtain⟨hd,hxl,hxe⟩:=bW hx;have hzx:z=x.id:=(by rw[<- hz];unfold aV;rw[hx]);have hxp:=(ht.ids x hxl).1;have kk5:Hid (∀{X:List Blk}{K:ajq},K (.int .i64 (Xx suf l x.id dn tn)) (L++X)->ajp 124 [.ptr iv 0,.int .i64 x.id,.agg [.int .i64 k,dnA dn,dnA tn,v]] (L++X) K):=@hid _ (by intro X K q;exact ahl ht hln (hc.app X) hx htb q)
   have hkf:bw .int (.int .i64 x.id)=true:=rfl;rcases hc.node x.id with⟨f1,_⟩|⟨x',n,f1,_,_,f2,f3⟩
   .rw[ht.ent hxl]at f1;cases f1
   rw[ht.ent hxl]at f1;cases f1;unfold kk at f3;have hnbl:nb x.id<L.length:=(ajr.1 f3).1;have ad:∀X:List Blk,(L++X)[nb x.id]?=some (.cells [dnA x.nm,.sl (aC (pth x)) x.nm.length none,atR x.av,.int .i64 (aZ (dx l) (NK x.nm):Nat)]):=λX=>by rw[ajw hnbl];exact f3
   subst hzx;obtain⟨xi,hxi⟩:=ajl (x.id);obtain⟨kn,hkn⟩:=ajl (aZ (dx l) (NK x.nm));rw[hxi]at kk3 kk5 hkf f2 ad hxp h;rw[hkn]at ad h;obtain⟨mv,hmv⟩:=ajl (Xx suf l xi dn tn);rw[hmv]at kk5 h;have g0:¬xi=0:=amM;have hsplit:(kn≠0/\k=2/\K (.int .i64 66) L)\/(kn=0/\k=2/\K (.int .i64 0) L)\/(k=3/\K (.int .i64 0) L)\/(k=4/\K (.int .i64 mv) L):=by
    rcases hkk with rfl|rfl|rfl
    .by_cases c:kn=0
     .rw[if_pos rfl,if_neg (λe=>e c)]at h;exact .inr (.inl ⟨c,rfl,h⟩)
     .rw[if_pos rfl,if_pos c]at h;exact .inl ⟨c,rfl,h⟩
    .rw[if_neg (by decide),if_pos rfl]at h;exact .inr (.inr (.inl ⟨rfl,h⟩))
    .rw[if_neg (by decide),if_neg (by decide)]at h;exact .inr (.inr (.inr ⟨rfl,h⟩))
   clear h hc hp p1 hdb hsb hz0 hz hk k1 hkk hxl hxe hxi hkn hmv hx f3;rcases hsplit with⟨c,rfl,h⟩|⟨c,rfl,h⟩|⟨rfl,h⟩|⟨rfl,h⟩
   .have c1:(0:Int)<(kn:Int):=amM;have c2:(kn:Int)>0:=c1;replace h:=hid h;refine ajo aO ?_;exact ab rfl h.o
   .subst c;replace h:=hid h;refine ajo aO ?_
    all_goals exact ab rfl h.o
   .replace h:=hid h;refine ajo aO ?_;exact ab rfl h.o
   .replace h:=hid h;refine ajo aO ?_;exact ab rfl h.o
section
variable {L:List Blk}{iv mn mi it:Nat}{nb bn:Int->Nat}{ck ci:Nat}{rs:List TKy}{suf:List Rdn}{last:Int}{l lk:List aA}{kd:Int->Int}
theorem bP.kds(h:bP L iv mn mi nb bn ck ci rs suf last l lk kd){kd':Int->Int}(e:∀x∈l,kd' x.id=kd x.id):bP L iv mn mi nb bn ck ci rs suf last l lk kd' :=
 ⟨h.v,h.n,h.i,λx hx=>by rw[h.nd x hx];unfold dc;rw[e x hx],h.inj,h.keys,h.mem,h.bnd,h.blt⟩
theorem bP.noIt(h:bP L iv mn mi nb bn ck ci rs suf last l lk kd)(hit:L[it]?=some (.cells [.ptr iv 0])):¬OfT iv mn mi nb l it:=by rintro(e|e|e|⟨x,hx,e⟩);rw[e,h.v]at hit;simp at hit;rw[e,h.n]at hit;simp at hit;rw[e,h.i]at hit;simp at hit;rw[e,h.nd x hx]at hit;simp[dc]at hit
theorem J1{d:List Rdn}{cap:Option Nat}{b:Int}(hd:dnB d)(hne:d≠[])(ht:TOk suf last lk)(hsub:∀x∈lk,∃y∈l,y.id=x.id)(hpos:∀x∈l,1<=x.id)(hit:L[it]?=some (.cells [.ptr iv 0]))(hc:bP L iv mn mi nb bn ck ci rs suf last l lk kd)(hb : -1<=b/\b<=1)(hkd:∀i,-10000000<=kd i/\kd i<=10000000){K:ajq}(h:∀L',bP L' iv mn mi nb bn ck ci rs suf last l lk (λi=>if i=aV lk d.tail then kd i+b else kd i)->aF (OfT iv mn mi nb l) L L'->K (.tup []) L'):
  ajp 80 [.ptr it 0,.sl (d.map ah) d.length cap,.int .i64 b] L K:=by
 refine adY hd hne ht hsub hit hc hb hkd (λh0=>?_) (λx hx e=>?_);refine h L (hc.kds λx hx=>?_) (aF.refl L);rw[h0,if_neg (by have:=hpos x hx;omega)];refine h _ ?_ (aF.set L (.inr (.inr (.inr ⟨x,hx,rfl⟩))) _);rw[<- e];exact hc.kid hx b
theorem bO.added(hc:bO L iv mn mi nb bn ck ci rs suf last l)(ht:TOk suf last l)(n23:mn≠mi)(hit:L[it]?=some (.cells [.ptr iv 0])){dn:List Rdn}(hod:OkD dn)(hno:∀x∈l,NK x.nm≠NK dn)(v:List Atr)(box a0 X:Blk)(A B:List Blk)(hA:A=(L.set iv (.cells [dnA suf,.lmap mn,.lmap mi,.int .i64 (last+1)])).set mn (.map ((l.map (fG nb bn))++[(.int .i64 (last+1),.ptr (L.length+1) 0,ck)]) (ck+1)))(hB:B=((A++[box,a0]).set (L.length+1) (.cells [dnA dn,.sl (aC (NK dn).reverse) dn.length none,atR v,.int .i64 0])).set mi (.map ((rs++[(aP true dn,last+1,ci)]).map kyA) (ci+1))++[X]):
  bP B iv mn mi (λi=>if i=last+1 then L.length+1 else nb i) (λi=>if i=last+1 then ck else bn i) (ck+1) (ci+1) (rs++[(aP true dn,last+1,ci)]) suf (last+1) (qu l last dn v) (qu l last dn v) (λi=>if i=last+1 then 0 else(gE l i:Nat))/\aF (OfT iv mn mi nb l) L B /\
  (A++[box,a0])[it]?=some (.cells [.ptr iv 0])/\(A++[box,a0])[iv]?=some (.cells [dnA suf,.lmap mn,.lmap mi,.int .i64 (last+1)])/\(A++[box,a0])[mn]?=some (.map ((l.map (fG nb bn))++[(.int .i64 (last+1),.ptr (L.length+1) 0,ck)]) (ck+1))/\(A++[box,a0])[mi]?=some (.map (rs.map kyA) ci)/\(A++[box,a0])[L.length+1]?=some a0 /\
  cY (.int .i64 (last+1)) ((l.map (fG nb bn))++[(.int .i64 (last+1),.ptr (L.length+1) 0,ck)]) 0=some (some (l.length,.ptr (L.length+1) 0))/\cY (.str (aP true dn)) (rs.map kyA) 0=some none/\cY (.int .i64 (last+1)) (l.map (fG nb bn)) 0=some none:=by
 have hK:=hc.toK ht;have h1:=(ajr.1 hc.v).1;have h2:=(ajr.1 hc.n).1;have h3:=(ajr.1 hc.i).1;have h4:=(ajr.1 hit).1;have n12:iv≠mn:=λe=>by have:=hc.v;rw[e,hc.n]at this;simp at this
 have n13:iv≠mi:=λe=>by have:=hc.v;rw[e,hc.i]at this;simp at this
 have hAl:A.length=L.length:=by rw[hA];simp
 have gA:∀i,i≠iv->i≠mn->A[i]?=L[i]?:=λi a b=>by rw[hA,ajJ (Ne.symm b),ajJ (Ne.symm a)]
 have gv:A[iv]?=some (.cells [dnA suf,.lmap mn,.lmap mi,.int .i64 (last+1)]):=by rw[hA,ajJ (Ne.symm n12)];simp[h1]
 have gn:A[mn]?=some (.map ((l.map (fG nb bn))++[(.int .i64 (last+1),.ptr (L.length+1) 0,ck)]) (ck+1)):=by rw[hA];simp[h2]
 have gY:∀i,i<L.length->(A++[box,a0])[i]?=A[i]?:=λi hi=>ajw amM
 have gB:∀i,i<L.length->i≠mi->B[i]?=A[i]?:=λi hi hm=>by rw[hB,ajw (by simp;omega),ajJ (Ne.symm hm),ajJ amM,gY i hi]
 have gBi:B[mi]?=some (.map ((rs++[(aP true dn,last+1,ci)]).map kyA) (ci+1)):=by rw[hB,ajw (by simp;omega),akY (by simp;omega)]
 have gBn:B[L.length+1]?=some (.cells [dnA dn,.sl (aC (NK dn).reverse) dn.length none,atR v,.int .i64 0]):=by rw[hB,ajw (by simp;omega),ajJ amM,akY (by simp;omega)]
 have hidn:∀x∈l,x.id≠last+1:=λx hx e=>by have:=(ht.ids x hx).2;omega
 have hnbl:∀x∈l,nb x.id<L.length:=λx hx=>(ajr.1 (hc.nd x hx)).1
 have hno':∀x∈l,aP true x.nm≠aP true dn:=λx hx e=>hno x hx ((gN (ht.ok x hx) hod).1 e)
 have hkn:∀r∈rs,r.1≠aP true dn:=λr hr e=>by obtain⟨x,hx,e1,_⟩:=(hc.mem r.1 r.2.1).1 ⟨r.2.2,hr⟩;exact hno' x hx (e1.trans e)
 have hmap:(qu l last dn v).map (fG (λi=>if i=last+1 then L.length+1 else nb i) (λi=>if i=last+1 then ck else bn i))=l.map (fG nb bn)++[(.int .i64 (last+1),.ptr (L.length+1) 0,ck)]:=by
  unfold qu;rw[ajV];congr 1;refine akF λx hx=>?_
  simp only[fG,if_neg (hidn x hx)];simp[fG]
 refine⟨⟨by rw[gB iv h1 n13];exact gv,by rw[gB mn h2 n23,gn,hmap],gBi,λx hx=>?_,λx hx y hy e=>?_,?_,λk id=>?_,?_,λx hx=>?_⟩,⟨by rw[hB];simp;omega,λi hi hn=>?_⟩,?_,by rw[gY iv h1];exact gv,by rw[gY mn h2];exact gn,by rw[gY mi h3,gA mi (Ne.symm n13) (Ne.symm n23)];exact hc.i,?_,?_,?_,?_⟩;rcases ajx.1 hx with hx|hx;have hk:=hK.nd x hx;have hne:=hidn x hx;have m1:nb x.id≠iv:=λe=>by rw[e,hc.v]at hk;simp[dc]at hk
 have m2:nb x.id≠mn:=λe=>by rw[e,hc.n]at hk;simp at hk
 have m3:nb x.id≠mi:=λe=>by rw[e,hc.i]at hk;simp at hk
 simp only[if_neg hne];rw[gB _ (hnbl x hx) m3,gA _ m1 m2,hk];unfold dc;simp only[if_neg hne];rw[ajI.1 hx];simp only[if_true];rw[gBn];simp only[dc,pth,if_true];rcases ajx.1 hx with hx|hx<;>rcases ajx.1 hy with hy|hy;simp only[if_neg (hidn x hx),if_neg (hidn y hy)]at e;exact hK.inj x hx y hy e;rw[ajI.1 hy]at e⊢;simp only[if_neg (hidn x hx),if_true]at e;have:=hnbl x hx;omega;rw[ajI.1 hx]at e⊢;simp only[if_neg (hidn y hy),if_true]at e;have:=hnbl y hy;omega;rw[ajI.1 hx,ajI.1 hy];rw[ajV,alW];refine⟨hc.keys,amN,λa ha b hb e=>?_⟩;obtain⟨r,hr,rfl⟩:=ajy.1 ha;simp only[ajP,akA,ajI]at hb;exact hkn r hr (e.trans hb);constructor;rintro⟨b,hb⟩;rcases ajx.1 hb with hb|hb;obtain⟨x,hx,e⟩:=(hc.mem k id).1 ⟨b,hb⟩;exact⟨x,ako _ hx,e⟩;simp only[ajI,ajH]at hb;exact⟨_,akO _ (ajI.2 rfl),hb.1.symm,hb.2.1.symm⟩;rintro⟨x,hx,e1,e2⟩;rcases ajx.1 hx with hx|hx;obtain⟨b,hb⟩:=(hc.mem k id).2 ⟨x,hx,e1,e2⟩;exact⟨b,ako _ hb⟩;rw[ajI.1 hx]at e1 e2;exact⟨ci,akO _ (by rw[<- e1,<- e2];simp)⟩;unfold qu;rw[ajV,alW];refine⟨?_,amN,λa ha b hb e=>?_⟩;rw[akF (g:=λx=>bn x.id) λx hx=>by simp only[if_neg (hidn x hx)]];exact hc.bnd;obtain⟨x,hx,rfl⟩:=ajy.1 ha;simp only[ajP,akA,ajI,if_true]at hb;simp only[if_neg (hidn x hx)]at e;have:=hc.blt x hx;omega;rcases ajx.1 hx with hx|hx;simp only[if_neg (hidn x hx)];have:=hc.blt x hx;omega;rw[ajI.1 hx];simp only[if_true];omega;have b1:i≠iv:=λe=>hn (.inl e)
 have b2:i≠mn:=λe=>hn (.inr (.inl e))
 have b3:i≠mi:=λe=>hn (.inr (.inr (.inl e)))
 rw[gB i hi b3,gA i b1 b2];have b1:it≠iv:=λe=>by rw[e,hc.v]at hit;simp at hit
 have b2:it≠mn:=λe=>by rw[e,hc.n]at hit;simp at hit
 rw[gY it h4,gA it b1 b2];exact hit;rw[ajG amM,hAl];simp;rw[<- hmap,xq];have:(qu l last dn v).findIdx? (λx=>decide (x.id=last+1))=some l.length:=by unfold qu;rw[List.findIdx?_append,ame.2 λx hx=>by simpa using hidn x hx];simp[alk]
 rw[this];simp;rw[xt];rw[ame.2 λr hr=>by simpa using hkn r hr];rfl;rw[xq];rw[ame.2 λx hx=>by simpa using hidn x hx];rfl
end
set_option maxHeartbeats 8000000
set_option maxRecDepth 100000
section
variable {L:List Blk}{iv mn mi it:Nat}{nb bn:Int->Nat}{ck ci:Nat}{rs:List TKy}{suf:List Rdn}{last:Int}{l:List aA}
theorem aiK(ht:TOk suf last l)(n23:mn≠mi)(hln:l.length<=1000000)(hl0:0<=last)(hl1:last<=1000000)(hit:L[it]?=some (.cells [.ptr iv 0]))(hc:bO L iv mn mi nb bn ck ci rs suf last l){dn tn:List Rdn}{v:List Atr}(hdb:dnB dn)(htb:dnB tn)(hvl:v.length<=1100000)(hvz:∀a∈v,a.2.length<=1100000)(ha:fe suf l 1 dn tn=0){K:ajq}(h:∀L' nb' bn' ck' ci' rs',bO L' iv mn mi nb' bn' ck' ci' rs' suf (last+1) (qu l last dn v)->L'[it]?=some (.cells [.ptr iv 0])->aF (OfT iv mn mi nb l) L L'->K (.int .i64 0) L'):
  ajp 34 [.ptr it 0,.agg [.int .i64 1,dnA dn,dnA tn,atR v]] L K:=by
 obtain⟨hca,_⟩:=ht.canA ha;have hod:=hca.ok;have hf0:aV l dn=0:=ht.find0.2 (qt.2 λ_ x hx=>hca.no x hx);have hvw:=hc.v;have hnn:=hc.n;have hivl:iv<L.length:=(ajr.1 hvw).1;have hmnl:mn<L.length:=(ajr.1 hnn).1;have hitl:it<L.length:=(ajr.1 hit).1;have n12:iv≠mn:=λe=>by have:=hc.v;rw[e,hc.n]at this;simp at this
 have n1t:iv≠it:=λe=>by have:=hc.v;rw[e,hit]at this;simp at this
 have av:∀X:List Blk,(L++X)[iv]?=some (.cells [dnA suf,.lmap mn,.lmap mi,.int .i64 last]):=λX=>by rw[ajw hivl];exact hvw
 have at':∀X:List Blk,(L++X)[it]?=some (.cells [.ptr iv 0]):=λX=>by rw[ajw hitl];exact hit
 have sv:∀(X:List Blk) b,(L++X).set iv b=L.set iv b++X:=λX b=>ak3 _ _ hivl
 have av2:∀(X:List Blk) b,(L.set iv b++X)[iv]?=some b:=λX b=>by rw[ajw (by simpa using hivl)];simp[hivl]
 have at2:∀(X:List Blk) b,(L.set iv b++X)[it]?=some (.cells [.ptr iv 0]):=λX b=>by rw[ajw (by simpa using hitl),ajJ n1t];exact hit
 have an2:∀(X:List Blk) b,(L.set iv b++X)[mn]?=some (.map (l.map (fG nb bn)) ck):=λX b=>by rw[ajw (by simpa using hmnl),ajJ n12];exact hnn
 have sn2:∀(X:List Blk) b c,(L.set iv b++X).set mn c=(L.set iv b).set mn c++X:=λX b c=>ak3 _ _ (by simpa using hmnl)
 have ab2:∀(X:List Blk) (b c:Blk),(L.set iv b++c::X)[L.length]?=some c:=λX b c=>by rw[ajG amN];simp
 have ab3:∀(X:List Blk) (b c d:Blk),((L.set iv b).set mn d++c::X)[L.length]?=some c:=λX b c d=>by rw[ajG amN];simp
 have kk1:Hid (∀{X:List Blk}{K:ajq},K (.int .i64 0) (L++X)->ajp 78 [.ptr iv 0,.agg [.int .i64 1,dnA dn,dnA tn,atR v]] (L++X) K):=@hid _ (by intro X K q;exact OM ht amM (hc.app X) hdb htb (by rw[ha];exact q))
 have kk2:Hid (∀{X:List Blk}{K:ajq},K (.int .i64 0) (L++X)->ajp 24 [.ptr iv 0,dnA dn] (L++X) K):=@hid _ (by intro X K q;exact qB hdb ht (hc.app X) (by rw[hf0];exact q))
 have kk3:Hid (Ctr Tryz.prog 60 [atR v] (atR v)):=@hid _ (by intro L K q;exact TQ hvl hvz q);have w1:IntKind.i64.wrap (last+1)=last+1:=ae amM amM;have hkf:bw .int (.int .i64 (last+1))=true:=rfl;have hll:∀b,(L.set iv b).length=L.length:=λb=>List.length_set
 obtain⟨box,hbox⟩:∃box:Blk,box=.cells [.int .i64 1,dnA dn,dnA tn,atR v]:=⟨_,rfl⟩;obtain⟨A,hA⟩:=ajl ((L.set iv (.cells [dnA suf,.lmap mn,.lmap mi,.int .i64 (last+1)])).set mn (.map ((l.map (fG nb bn))++[(.int .i64 (last+1),.ptr (L.length+1) 0,ck)]) (ck+1)));obtain⟨B,hB⟩:=ajl (((A++[box,.cells [.sl [] 0 (some 0),.sl [] 0 (some 0),atR v,.int .i64 0]]).set (L.length+1) (.cells [dnA dn,.sl (aC (NK dn).reverse) dn.length none,atR v,.int .i64 0])).set mi (.map ((rs++[(aP true dn,last+1,ci)]).map kyA) (ci+1))++[.cells [.sl (aC (NK dn).reverse) dn.length none]]);have hAl:A.length=L.length:=by rw[<- hA];simp
 have hmil:mi<L.length:=(ajr.1 hc.i).1;obtain⟨hfin,hbes,p1,p2,p3,p4,p5,p6,p7,p8⟩:=hc.added ht n23 hit hod hca.no v box (.cells [.sl [] 0 (some 0),.sl [] 0 (some 0),atR v,.int .i64 0]) (.cells [.sl (aC (NK dn).reverse) dn.length none]) A B hA.symm hB.symm;have pb:B[L.length]?=some box:=by rw[<- hB,ajw (by simp;omega),ajJ amM,ajJ amM,ajG amM,hAl];simp
 have pa0:(A++[box,.cells [.sl [] 0 (some 0),.sl [] 0 (some 0),atR v,.int .i64 0]])[L.length]?=some box:=by rw[ajG amM,hAl];simp
 have hitB:B[it]?=some (.cells [.ptr iv 0]):=hbes.get hit ((hc.toK ht).noIt hit);obtain⟨hadd,hk0,hkq⟩:=ht.add hl0 hca v;have kk4:Hid (∀{K:ajq},K (.tup []) B->ajp 79 [.ptr it 0,.int .i64 (last+1),dnA dn] (A++[box,.cells [.sl [] 0 (some 0),.sl [] 0 (some 0),atR v,.int .i64 0]]) K):=@hid _ (by intro K q;refine adr hod p1 p2 p3 p6 p5 p4 p7 ?_;rw[hB];exact q)
 have kk5:Hid (∀{K:ajq},(∀L' nb' bn' ck' ci' rs',bO L' iv mn mi nb' bn' ck' ci' rs' suf (last+1) (qu l last dn v)->L'[it]?=some (.cells [.ptr iv 0])->aF (OfT iv mn mi nb l) L L'->K (.tup []) L')->ajp 80 [.ptr it 0,dnA dn,.int .i64 1] B K):=@hid _ (by
  intro K q;have hne:dn≠[]:=λe=>by rcases hca.par with e2|⟨x,hx,e2⟩;exact ht.inv.sne (by rw[<- e2,e];rfl);exact ht.inv.ne (fH hx) (by rw[e2,e];rfl)
  have hkl:∀i,(gE l i:Int)<=l.length:=λi=>by
   unfold gE aZ;cases l6 l i with
   |none=>simp
   |some x=>simp only;exact Int.ofNat_le.2 (ajU (ak9 _ _) (by simp[dx]))
  refine J1 hdb hne hadd (λx hx=>⟨x,hx,rfl⟩) (λx hx=>(hadd.ids x hx).1) hitB hfin amM (λi=>?_) λL' hK hb=>?_
  split;omega;have:=hkl i;omega;refine q L' _ _ _ _ _ (hK.toT λx hx=>?_) (hb.get hitB (hfin.noIt hitB)) (hbes.trans2 hb λi hi=>?_);rw[hkq (NK x.nm)];have hpar:(x.id=aV (qu l last dn v) dn.tail)↔(NK dn).tail=NK x.nm:=by
   rw[<- Rp];constructor;intro e;unfold aV at e;cases hq:atE (qu l last dn v) dn.tail with
   |none=>rw[hq]at e;have:=(hadd.ids x hx).1;simp only at e;omega
   | some y =>
     rw[hq]at e;obtain⟨_,hy,e2⟩:=bW hq;rw[hadd.byI hx hy e,e2]
   intro e;unfold aV;rw[hadd.at hx hod.tail e]
  have hkx:(if x.id=last+1 then(0:Int)else(gE l x.id:Nat))=(aZ (dx l) (NK x.nm):Nat):=by rcases ajx.1 hx with hx|hx;rw[if_neg (by have:=(ht.ids x hx).2;omega),ht.kidsE hx];rw[ajI.1 hx,if_pos rfl];have:=hkq (NK dn);rw[hk0]at this;simp only;omega
  by_cases hp:(NK dn).tail=NK x.nm;rw[if_pos hp,if_pos (hpar.2 hp),hkx];simp;rw[if_neg hp,if_neg (λe=>hp (hpar.1 e)),hkx];simp;rintro(e|e|e|⟨x,hx,e⟩);exact .inl e;exact .inr (.inl e);exact .inr (.inr (.inl e));rcases ajx.1 hx with hx|hx;exact .inr (.inr (.inr ⟨x,hx,by rw[e];exact if_neg (by have:=(ht.ids x hx).2;omega)⟩));rw[ajI.1 hx]at e;simp only[if_true]at e;omega)
 replace h:=hid h;clear hB hfin hbes p6 p7 hadd hk0 hkq hca hvw hnn hit hAl;subst hbox;refine ajo eY ?_;simp only[ajz,aj9,Nat.reduceAdd,alR,alB,akd,aj0];refine amU ?_;intro L' nb' bn' ck' ci' rs' q1 q2 q3;replace q1:=hid q1;replace q2:=hid q2;replace q3:=hid q3;refine wk ?_;exact ac (h.o L' _ _ _ _ _ q1.o q2.o q3.o)
end
set_option maxHeartbeats 8000000
set_option maxRecDepth 100000
theorem RA{β γ:Type}(f:β->γ):∀(l:List β) (n:Nat),(l.eraseIdx n).map f=(l.map f).eraseIdx n
 |[],_=>rfl
 |x::l,0=>rfl
 |x::l,n+1=>by simp only[List.eraseIdx_cons_succ,ajP,RA f l n]
theorem mj{β γ:Type}[DecidableEq γ](f:β->γ):∀(l:List β) (k:γ),(l.map f).Nodup->∀n,l.findIdx? (λx=>decide (f x=k))=some n->l.eraseIdx n=l.filter λx=>decide (f x≠k)
 |[],k,_,n,h=>by simp at h
 | x::l,k,hn,n,h=>by
   rw[ajP,akP]at hn;rw[alk]at h;by_cases c:f x=k
   .rw[decide_eq_true c]at h;simp only[if_true,ajt]at h;subst h;rw[ama (by simpa using c)];simp only[List.eraseIdx_zero,List.tail_cons];exact(List.filter_eq_self.2 λy hy=>by simp only[ne_eq,decide_eq_true_eq];intro e;exact hn.1 (ajy.2 ⟨y,hy,by rw[e,c]⟩)).symm
   .rw[decide_eq_false c]at h;simp only[ajK,if_false,ajW]at h;obtain⟨m,hm,rfl⟩:=h;rw[amb (by simpa using c),List.eraseIdx_cons_succ,mj f l k hn.2 m hm]
section
variable {L:List Blk}{iv mn mi it:Nat}{nb bn:Int->Nat}{ck ci:Nat}{rs:List TKy}{suf:List Rdn}{last:Int}{l lk:List aA}{kd:Int->Int}
theorem bP.nemi(h:bP L iv mn mi nb bn ck ci rs suf last l lk kd):iv≠mi:=λe=>by have:=h.v;rw[e,h.i]at this;simp at this
theorem bP.nemn(h:bP L iv mn mi nb bn ck ci rs suf last l lk kd):iv≠mn:=λe=>by have:=h.v;rw[e,h.n]at this;simp at this
theorem bP.nenb(h:bP L iv mn mi nb bn ck ci rs suf last l lk kd){x:aA}(hx:x∈l):nb x.id≠iv/\nb x.id≠mn/\nb x.id≠mi:=by have hk:=h.nd x hx;exact⟨λe=>by rw[e,h.v]at hk;simp[dc]at hk,λe=>by rw[e,h.n]at hk;simp at hk,λe=>by rw[e,h.i]at hk;simp at hk⟩
theorem bP.delk(h:bP L iv mn mi nb bn ck ci rs suf last l lk kd)(n23:mn≠mi){y:aA}(hy:y∈lk)(hu:∀x∈lk,aP true x.nm=aP true y.nm↔x.id=y.id):
  ∃j,cY (.str (aP true y.nm)) (rs.map kyA) 0=some (some (j,.int .i64 y.id))/\bP (L.set mi (.map ((rs.map kyA).eraseIdx j) ci)) iv mn mi nb bn ck ci (rs.eraseIdx j) suf last l (Ra lk y.id) kd:=by
 obtain⟨b,hb⟩:=(h.mem (aP true y.nm) y.id).2 ⟨y,hy,rfl,rfl⟩;rw[xt];rcases eU (f:=λr:TKy=>decide (r.1=aP true y.nm)) (l:=rs)with⟨h1,h2⟩|⟨n,h1,hn,h2⟩;exact absurd (akJ.1 h2 _ hb) amN;have hm:=ak6 h2;have hk:=ak7 h2;simp only[decide_eq_true_eq]at hk;have he:rs.getD n default=(aP true y.nm,y.id,b):=ff h.keys hm hb hk;have hmi:=(ajr.1 h.i).1;have her:=mj (λr:TKy=>r.1) rs (aP true y.nm) h.keys n h1;refine⟨n,by rw[h1];simp only[ajQ,he,akw],?_⟩;have hmm:∀r:TKy,r∈rs.eraseIdx n↔r∈rs/\r.1≠aP true y.nm:=λr=>by rw[her,aka];simp
 refine⟨by rw[ajJ (Ne.symm h.nemi)];exact h.v,by rw[ajJ (Ne.symm n23)];exact h.n,by rw[akY hmi,RA],λx hx=>by rw[ajJ (Ne.symm (h.nenb hx).2.2)];exact h.nd x hx,h.inj,(List.Sublist.map _ (List.eraseIdx_sublist ..)).nodup h.keys,λk id=>?_,h.bnd,h.blt⟩;constructor;rintro⟨c,hc⟩;obtain⟨hc1,hc2⟩:=(hmm _).1 hc;obtain⟨x,hx,e1,e2⟩:=(h.mem k id).1 ⟨c,hc1⟩;refine⟨x,aka.2 ⟨hx,?_⟩,e1,e2⟩;simp only[ne_eq,decide_eq_true_eq];intro e;exact hc2 (e1.symm.trans ((hu x hx).2 e));rintro⟨x,hx,e1,e2⟩;obtain⟨hx1,hx2⟩:=aka.1 hx;simp only[ne_eq,decide_eq_true_eq]at hx2;obtain⟨c,hc⟩:=(h.mem k id).2 ⟨x,hx1,e1,e2⟩;exact⟨c,(hmm _).2 ⟨hc,λe=>hx2 ((hu x hx1).1 (by rw[e1];exact e))⟩⟩
theorem bP.deln(h:bP L iv mn mi nb bn ck ci rs suf last l lk kd)(n23:mn≠mi)(hn:(l.map (·.id)).Nodup){y:aA}(hy:y∈l):
  ∃j v,cY (.int .i64 y.id) (l.map (fG nb bn)) 0=some (some (j,v))/\bP (L.set mn (.map ((l.map (fG nb bn)).eraseIdx j) ck)) iv mn mi nb bn ck ci rs suf last (Ra l y.id) lk kd:=by
 rw[xq];rcases eU (f:=λx:aA=>decide (x.id=y.id)) (l:=l)with⟨h1,h2⟩|⟨n,h1,hl,h2⟩;exact absurd (akJ.1 h2 _ hy) amN;have hmn:=(ajr.1 h.n).1;have her:=mj (λx:aA=>x.id) l y.id hn n h1;have sub:∀x∈Ra l y.id,x∈l:=λx hx=>(aka.1 hx).1
 refine⟨n,_,by rw[h1];simp;rfl,?_⟩;refine⟨by rw[ajJ (Ne.symm h.nemn)];exact h.v,by rw[akY hmn,<- RA,her];rfl,by rw[ajJ n23];exact h.i,λx hx=>by rw[ajJ (Ne.symm (h.nenb (sub x hx)).2.1)];exact h.nd x (sub x hx),λx hx z hz=>h.inj x (sub x hx) z (sub z hz),h.keys,h.mem,?_,λx hx=>h.blt x (sub x hx)⟩;exact(List.Sublist.map _ List.filter_sublist).nodup h.bnd
theorem bP.cha(h:bP L iv mn mi nb bn ck ci rs suf last l lk kd){y:aA}(hy:y∈l)(v:List Atr):
  bP (L.set (nb y.id) (.cells [dnA y.nm,.sl (aC (pth y)) y.nm.length none,atR v,.int .i64 (kd y.id)])) iv mn mi nb bn ck ci rs suf last (qf l y.id v) (qf lk y.id v) kd:=by
 have hny:=h.nd y hy;have hl:=(ajr.1 hny).1;obtain⟨n1,n2,n3⟩:=h.nenb hy;have hnod:(qf l y.id v).map (fG nb bn)=l.map (fG nb bn):=by
  unfold qf;rw[ajS];refine akF λx _=>?_
  simp only[ak4];split<;>rfl
 have hbn:(qf l y.id v).map (λx=>bn x.id)=l.map (λx=>bn x.id):=by
  unfold qf;rw[ajS];refine akF λx _=>?_
  simp only[ak4];split<;>rfl
 have back:∀{m:List aA} {x},x∈qf m y.id v->∃z∈m,z.id=x.id/\z.nm=x.nm/\(z.id=y.id->x.av=v)/\(z.id≠y.id->x=z):=λ{m x} hx=>by obtain⟨z,hz,rfl⟩:=ajy.1 hx;refine⟨z,hz,?_,?_,?_,?_⟩<;>split<;>simp_all
 have forth:∀{m:List aA} {z},z∈m->∃x∈qf m y.id v,x.id=z.id/\x.nm=z.nm:=λ{m z} hz=>by refine⟨_,ajy.2 ⟨z,hz,rfl⟩,?_,?_⟩<;>split<;>rfl
 refine⟨by rw[ajJ n1];exact h.v,by rw[ajJ n2,hnod];exact h.n,by rw[ajJ n3];exact h.i,λx hx=>?_,λx hx z hz e=>?_,h.keys,λk id=>?_,by rw[hbn];exact h.bnd,λx hx=>?_⟩;obtain⟨z,hz,e1,e2,e3,e4⟩:=back hx;by_cases e:nb y.id=nb z.id;have hi:=h.inj y hy z hz e;have hxy:dc kd y=dc kd z:=by have h2:=h.nd z hz;rw[<- e,hny]at h2;injection h2 with h2;injection h2
 unfold dc at hxy⊢;simp only[amf]at hxy;have hp:pth x=pth z:=by unfold pth;rw[e2]
 rw[<- e1,<- e,akY hl,e3 hi.symm,hxy.1,hxy.2.1,hxy.2.2.2.1,hp,e2];have hne:z.id≠y.id:=λe5=>e (by rw[e5])
 rw[e4 hne,ajJ e];exact h.nd z hz;obtain⟨a,ha,e1,_⟩:=back hx;obtain⟨b,hb,e2,_⟩:=back hz;rw[<- e1,<- e2]at e⊢;exact h.inj a ha b hb e;rw[h.mem k id];constructor;rintro⟨x,hx,e1,e2⟩;obtain⟨z,hz,e3,e4⟩:=forth hx;exact⟨z,hz,by rw[e4];exact e1,by rw[e3];exact e2⟩;rintro⟨x,hx,e1,e2⟩;obtain⟨z,hz,e3,e4,_⟩:=back hx;exact⟨z,hz,by rw[e4];exact e1,by rw[e3];exact e2⟩;obtain⟨z,hz,e1,_⟩:=back hx;rw[<- e1];exact h.blt z hz
def nmT(l:List aA)(id:Int)(d:List Rdn):List aA:=l.map λx=>if x.id=id then{x with nm:=d}else x
theorem bP.ren(h:bP L iv mn mi nb bn ck ci rs suf last l lk kd)(n23:mn≠mi){y:aA}(hy:y∈l){d:List Rdn}(hno:∀x∈lk,aP true x.nm≠aP true d)(X:List Blk):
  cY (.str (aP true d)) (rs.map kyA) 0=some none /\
  bP ((L.set (nb y.id) (.cells [dnA d,.sl (aC (NK d).reverse) d.length none,atR y.av,.int .i64 (kd y.id)])).set mi (.map ((rs++[(aP true d,y.id,ci)]).map kyA) (ci+1))++X) iv mn mi nb bn ck (ci+1) (rs++[(aP true d,y.id,ci)]) suf last (nmT l y.id d) (lk++[{y with nm:=d}]) kd:=by
 have hkn:∀r∈rs,r.1≠aP true d:=λr hr e=>by obtain⟨x,hx,e1,_⟩:=(h.mem r.1 r.2.1).1 ⟨r.2.2,hr⟩;exact hno x hx (e1.trans e)
 refine⟨by rw[xt,ame.2 λr hr=>by simpa using hkn r hr];rfl,bP.app ?_ X⟩;have hny:=h.nd y hy;have hl:=(ajr.1 hny).1;have hmi:=(ajr.1 h.i).1;obtain⟨n1,n2,n3⟩:=h.nenb hy;have hnod:(nmT l y.id d).map (fG nb bn)=l.map (fG nb bn):=by
  unfold nmT;rw[ajS];refine akF λx _=>?_
  simp only[ak4];split<;>rfl
 have hbn:(nmT l y.id d).map (λx=>bn x.id)=l.map (λx=>bn x.id):=by
  unfold nmT;rw[ajS];refine akF λx _=>?_
  simp only[ak4];split<;>rfl
 have back:∀{x},x∈nmT l y.id d->∃z∈l,z.id=x.id/\z.av=x.av/\(z.id=y.id->x.nm=d)/\(z.id≠y.id->x=z):=λ{x} hx=>by obtain⟨z,hz,rfl⟩:=ajy.1 hx;refine⟨z,hz,?_,?_,?_,?_⟩<;>split<;>simp_all
 refine⟨by rw[ajJ (Ne.symm h.nemi),ajJ n1];exact h.v,by rw[ajJ (Ne.symm n23),ajJ n2,hnod];exact h.n,by rw[akY (by simpa using hmi)],λx hx=>?_,λx hx z hz e=>?_,?_,λk id=>?_,by rw[hbn];exact h.bnd,λx hx=>?_⟩;obtain⟨z,hz,e1,e2,e3,e4⟩:=back hx;rw[<- e1,ajJ (Ne.symm (h.nenb hz).2.2)];by_cases e:nb y.id=nb z.id;have hi:=h.inj y hy z hz e;have hxy:dc kd y=dc kd z:=by have h2:=h.nd z hz;rw[<- e,hny]at h2;injection h2 with h2;injection h2
 unfold dc at hxy⊢;simp only[amf]at hxy;have hp:pth x=(NK d).reverse:=by unfold pth;rw[e3 hi.symm]
 rw[<- e,akY hl,e3 hi.symm,hp,hxy.2.2.1,e2,<- e1,hi];have hne:z.id≠y.id:=λe5=>e (by rw[e5])
 rw[e4 hne,ajJ e];exact h.nd z hz;obtain⟨a,ha,e1,_⟩:=back hx;obtain⟨b,hb,e2,_⟩:=back hz;rw[<- e1,<- e2]at e⊢;exact h.inj a ha b hb e;rw[ajV,alW];refine⟨h.keys,amN,λa ha b hb e=>?_⟩;obtain⟨r,hr,rfl⟩:=ajy.1 ha;simp only[ajP,akA,ajI]at hb;exact hkn r hr (e.trans hb);constructor;rintro⟨b,hb⟩;rcases ajx.1 hb with hb|hb;obtain⟨x,hx,e⟩:=(h.mem k id).1 ⟨b,hb⟩;exact⟨x,ako _ hx,e⟩;simp only[ajI,ajH]at hb;exact⟨_,akO _ (ajI.2 rfl),hb.1.symm,hb.2.1.symm⟩;rintro⟨x,hx,e1,e2⟩;rcases ajx.1 hx with hx|hx;obtain⟨b,hb⟩:=(h.mem k id).2 ⟨x,hx,e1,e2⟩;exact⟨b,ako _ hb⟩;rw[ajI.1 hx]at e1 e2;exact⟨ci,akO _ (by rw[<- e1,<- e2];simp)⟩;obtain⟨z,hz,e1,_⟩:=back hx;rw[<- e1];exact h.blt z hz
end
set_option maxHeartbeats 8000000
set_option maxRecDepth 100000
theorem abJ{a b:List Rdn}(h:NK a=NK b):aP true a=aP true b:=by unfold aP;unfold NK at h;rw[h]
theorem UX(l:List aA)(i:Int):(gE l i:Int)<=l.length:=by
 unfold gE aZ;cases l6 l i with
 |none=>simp
 |some x=>simp only;exact Int.ofNat_le.2 (ajU (ak9 _ _) (by simp[dx]))
theorem TOk.parI{suf:List Rdn}{last:Int}{l:List aA}(h:TOk suf last l)(hx:x∈l){d:List Rdn}(hd:OkD d):x.id=aV l d.tail↔(NK d).tail=NK x.nm:=by
 rw[<- Rp];constructor;intro e;unfold aV at e;cases hq:atE l d.tail with
 |none=>rw[hq]at e;have:=(h.ids x hx).1;simp only at e;omega
 | some y =>
   rw[hq]at e;obtain⟨_,hy,e2⟩:=bW hq;rw[h.byI hx hy e,e2]
 intro e;unfold aV;rw[h.at hx hd.tail e]
section
variable {L:List Blk}{iv mn mi it:Nat}{nb bn:Int->Nat}{ck ci:Nat}{rs:List TKy}{suf:List Rdn}{last:Int}{l:List aA}
theorem aiI(ht:TOk suf last l)(n23:mn≠mi)(hln:l.length<=1000000)(hit:L[it]?=some (.cells [.ptr iv 0]))(hc:bO L iv mn mi nb bn ck ci rs suf last l){dn tn:List Rdn}{v:AV}(hdb:dnB dn)(htb:dnB tn){x:aA}(hx:atE l dn=some x)(ha:fe suf l 2 dn tn=0){K:ajq}(h:∀L' ci' rs',bO L' iv mn mi nb bn ck ci' rs' suf last (Ra l x.id)->L'[it]?=some (.cells [.ptr iv 0])->aF (OfT iv mn mi nb l) L L'->K (.int .i64 0) L'):
  ajp 34 [.ptr it 0,.agg [.int .i64 2,dnA dn,dnA tn,v]] L K:=by
 obtain⟨hod,hxl,hxe⟩:=bW hx;have hk0:aZ (dx l) (NK x.nm)=0:=by unfold fe at ha;rw[if_neg (by decide),if_neg (by decide),hx]at ha;simp only[if_true]at ha;by_cases c:aZ (dx l) (NK x.nm)=0;exact c;rw[if_pos c]at ha;exact absurd ha (by decide)
 obtain⟨htd,hkq⟩:=ht.del hxl hk0;have hfx:aV l dn=x.id:=by unfold aV;rw[hx]
 have hK:=hc.toK ht;have htx:aP true dn=aP true x.nm:=abJ hxe.symm;have hu:∀z∈l,aP true z.nm=aP true x.nm↔z.id=x.id:=λz hz=>⟨λe=>by rw[ht.byN hz hxl ((gN (ht.ok z hz) (ht.ok x hxl)).1 e)],λe=>by rw[ht.byI hz hxl e]⟩
 obtain⟨j1,hj1,hK1⟩:=hK.delk n23 hxl hu;obtain⟨j2,v2,hj2,hK2⟩:=hK1.deln n23 (by have hn:=ht.inv.ids;unfold dx at hn;rw[ajS]at hn;exact hn) hxl
 have hvw:=hc.v;have hnn:=hc.n;have hii:=hc.i;have hivl:iv<L.length:=(ajr.1 hvw).1;have hmnl:mn<L.length:=(ajr.1 hnn).1;have hmil:mi<L.length:=(ajr.1 hii).1;have hitl:it<L.length:=(ajr.1 hit).1;have nit:=hK.noIt hit;have n1:mi≠it:=λe=>nit (.inr (.inr (.inl e.symm)))
 have n2:mn≠it:=λe=>nit (.inr (.inl e.symm))
 have n3:=hK.nemi;have n4:=hK.nemn;have av:∀X:List Blk,(L++X)[iv]?=some (.cells [dnA suf,.lmap mn,.lmap mi,.int .i64 last]):=λX=>by rw[ajw hivl];exact hvw
 have at':∀X:List Blk,(L++X)[it]?=some (.cells [.ptr iv 0]):=λX=>by rw[ajw hitl];exact hit
 have ai:∀X:List Blk,(L++X)[mi]?=some (.map (rs.map kyA) ci):=λX=>by rw[ajw hmil];exact hii
 have si:∀(X:List Blk) b,(L++X).set mi b=L.set mi b++X:=λX b=>ak3 _ _ hmil
 have av2:∀(X:List Blk) b,(L.set mi b++X)[iv]?=some (.cells [dnA suf,.lmap mn,.lmap mi,.int .i64 last]):=λX b=>by rw[ajw (by simpa using hivl),ajJ (Ne.symm n3)];exact hvw
 have at2:∀(X:List Blk) b,(L.set mi b++X)[it]?=some (.cells [.ptr iv 0]):=λX b=>by rw[ajw (by simpa using hitl),ajJ n1];exact hit
 have an2:∀(X:List Blk) b,(L.set mi b++X)[mn]?=some (.map (l.map (fG nb bn)) ck):=λX b=>by rw[ajw (by simpa using hmnl),ajJ (Ne.symm n23)];exact hnn
 have sn2:∀(X:List Blk) b c,(L.set mi b++X).set mn c=(L.set mi b).set mn c++X:=λX b c=>ak3 _ _ (by simpa using hmnl)
 have ab3:∀(X:List Blk) (b c d:Blk),((L.set mi b).set mn d++c::X)[L.length]?=some c:=λX b c d=>by rw[ajG amN];simp
 have kk1:Hid (∀{X:List Blk}{K:ajq},K (.int .i64 0) (L++X)->ajp 78 [.ptr iv 0,.agg [.int .i64 2,dnA dn,dnA tn,v]] (L++X) K):=@hid _ (by intro X K q;exact OM ht amM (hc.app X) hdb htb (by rw[ha];exact q))
 have kk2:Hid (∀{X:List Blk}{K:ajq},K (.int .i64 x.id) (L++X)->ajp 24 [.ptr iv 0,dnA dn] (L++X) K):=@hid _ (by intro X K q;exact qB hdb ht (hc.app X) (by rw[hfx];exact q))
 have kk3:Hid (Ctr Tryz.prog 58 [dnA dn] (.tup [.str (aP true dn),.int .i64 0])):=@hid _ (by intro L K q;exact Rz hdb.1 hdb.2 (by rw[eu hod];exact q))
 obtain⟨box,hbox⟩:∃box:Blk,box=.cells [.int .i64 2,dnA dn,dnA tn,v]:=⟨_,rfl⟩;obtain⟨A,hA⟩:=ajl ((L.set mi (.map ((rs.map kyA).eraseIdx j1) ci)).set mn (.map ((l.map (fG nb bn)).eraseIdx j2) ck));rw[hA]at hK2;have hAL:A.length=L.length:=by rw[<- hA];simp
 have ab4:∀(X:List Blk) (c:Blk),(A++c::X)[L.length]?=some c:=λX c=>by rw[ajG amM,hAL];simp
 have hbA:aF (OfT iv mn mi nb l) L A:=by rw[<- hA];exact(aF.set L (.inr (.inr (.inl rfl))) _).trans (aF.set _ (.inr (.inl rfl)) _)
 have hK3:=hK2.app [box];have hit3:(A++[box])[it]?=some (.cells [.ptr iv 0]):=by have hAl:it<A.length:=(by rw[<- hA];simpa using hitl);rw[ajw hAl];exact hbA.get hit nit
 have kk4:Hid (∀{K:ajq},(∀L' ci' rs',bO L' iv mn mi nb bn ck ci' rs' suf last (Ra l x.id)->L'[it]?=some (.cells [.ptr iv 0])->aF (OfT iv mn mi nb l) L L'->K (.tup []) L')->ajp 80 [.ptr it 0,dnA dn,.int .i64 (-1)] (A++[box]) K):=@hid _ (by
  intro K q;have hne:dn≠[]:=λe=>ht.inv.ne (fH hxl) (by rw[hxe,e];rfl)
  refine J1 hdb hne htd (λx hx=>⟨x,hx,rfl⟩) (λz hz=>(htd.ids z hz).1) hit3 hK3 amM (λi=>by have:=UX l i;omega) λL' hK4 hb=>?_
  refine q L' _ _ (hK4.toT λz hz=>?_) (hb.get hit3 (hK3.noIt hit3)) (((hbA.trans (aF.app A [box])).trans2 hb λi hi=>?_));have hzl:z∈l:=(aka.1 hz).1;have h1:=hkq (NK z.nm);rw[<- ht.kidsE hzl,hxe]at h1;have hpar:=htd.parI hz hod;by_cases hp:(NK dn).tail=NK z.nm;rw[if_pos hp]at h1;rw[if_pos (hpar.2 hp)];omega;rw[if_neg hp]at h1;rw[if_neg (λe=>hp (hpar.1 e))];omega;rintro(e|e|e|⟨z,hz,e⟩);exact .inl e;exact .inr (.inl e);exact .inr (.inr (.inl e));exact .inr (.inr (.inr ⟨z,(aka.1 hz).1,e⟩)))
 have hkf1:bw .str (.str (aP true dn))=true:=rfl;have hkf2:bw .int (.int .i64 x.id)=true:=rfl;rw[<- htx]at hj1;obtain⟨tk,htk⟩:=ajl (aP true dn);obtain⟨xi,hxi⟩:=ajl (x.id);rw[htk]at hj1 kk3 hkf1;rw[hxi]at hj1 hj2 kk2 hkf2 h;replace h:=hid h;replace hj1:=hid hj1;clear hK hK1 hK2 hK3 hbA hit3 hu htx htk hvw hnn hii hit hc ht htd hkq hk0 hfx hod ha;have hj1:=hj1.o;subst hbox;refine ajo eY ?_;intro L' ci' rs' q1 q2 q3;replace q1:=hid q1;replace q2:=hid q2;replace q3:=hid q3;refine wk ?_;exact ac (h.o L' _ _ q1.o q2.o q3.o)
theorem aiJ(ht:TOk suf last l)(hln:l.length<=1000000)(hit:L[it]?=some (.cells [.ptr iv 0]))(hc:bO L iv mn mi nb bn ck ci rs suf last l){dn tn:List Rdn}{v:List Atr}(hdb:dnB dn)(htb:dnB tn)(hvl:v.length<=1100000)(hvz:∀a∈v,a.2.length<=1100000){x:aA}(hx:atE l dn=some x){K:ajq}(h:∀L',bO L' iv mn mi nb bn ck ci rs suf last (qf l x.id v)->L'[it]?=some (.cells [.ptr iv 0])->aF (OfT iv mn mi nb l) L L'->K (.int .i64 0) L'):
  ajp 34 [.ptr it 0,.agg [.int .i64 3,dnA dn,dnA tn,atR v]] L K:=by
 obtain⟨hod,hxl,hxe⟩:=bW hx;have ha:fe suf l 3 dn tn=0:=by unfold fe;rw[if_neg (by decide),if_neg (by decide),hx];rfl
 have hfx:aV l dn=x.id:=by unfold aV;rw[hx]
 have hK:=hc.toK ht;have hK1:=hK.cha hxl v;have hbs:aF (OfT iv mn mi nb l) L (L.set (nb x.id) (.cells [dnA x.nm,.sl (aC (pth x)) x.nm.length none,atR v,.int .i64 (gE l x.id:Nat)])):=aF.set L (.inr (.inr (.inr ⟨x,hxl,rfl⟩))) _;have nit:=hK.noIt hit;have hCT:bO (L.set (nb x.id) (.cells [dnA x.nm,.sl (aC (pth x)) x.nm.length none,atR v,.int .i64 (gE l x.id:Nat)])) iv mn mi nb bn ck ci rs suf last (qf l x.id v):=hK1.toT λz hz=>by obtain⟨y,hy,rfl⟩:=ajy.1 hz;rw[UO];have e1:(if y.id=x.id then{y with av:=v}else y).id=y.id:=(by split<;>rfl);have e2:(if y.id=x.id then{y with av:=v}else y).nm=y.nm:=(by split<;>rfl);rw[e1,e2,ht.kidsE hy]
 have hfin:=h _ (hCT.app [.cells [.int .i64 3,dnA dn,dnA tn,atR v]]) ((hbs.trans (aF.app _ _)).get hit nit) (hbs.trans (aF.app _ _));have hvw:=hc.v;have hnn:=hc.n;have hivl:iv<L.length:=(ajr.1 hvw).1;have hmnl:mn<L.length:=(ajr.1 hnn).1;have hitl:it<L.length:=(ajr.1 hit).1;have hnx:=hK.nd x hxl;have hxl':nb x.id<L.length:=(ajr.1 hnx).1;unfold dc at hnx;have av:∀X:List Blk,(L++X)[iv]?=some (.cells [dnA suf,.lmap mn,.lmap mi,.int .i64 last]):=λX=>by rw[ajw hivl];exact hvw
 have at':∀X:List Blk,(L++X)[it]?=some (.cells [.ptr iv 0]):=λX=>by rw[ajw hitl];exact hit
 have an:∀X:List Blk,(L++X)[mn]?=some (.map (l.map (fG nb bn)) ck):=λX=>by rw[ajw hmnl];exact hnn
 have ad:∀X:List Blk,(L++X)[nb x.id]?=some (.cells [dnA x.nm,.sl (aC (pth x)) x.nm.length none,atR x.av,.int .i64 (gE l x.id:Nat)]):=λX=>by rw[ajw hxl'];exact hnx
 have sd:∀(X:List Blk) b,(L++X).set (nb x.id) b=L.set (nb x.id) b++X:=λX b=>ak3 _ _ hxl'
 have kk1:Hid (∀{X:List Blk}{K:ajq},K (.int .i64 0) (L++X)->ajp 78 [.ptr iv 0,.agg [.int .i64 3,dnA dn,dnA tn,atR v]] (L++X) K):=@hid _ (by intro X K q;exact OM ht amM (hc.app X) hdb htb (by rw[ha];exact q))
 have kk2:Hid (∀{X:List Blk}{K:ajq},K (.int .i64 x.id) (L++X)->ajp 24 [.ptr iv 0,dnA dn] (L++X) K):=@hid _ (by intro X K q;exact qB hdb ht (hc.app X) (by rw[hfx];exact q))
 have kk3:Hid (Ctr Tryz.prog 60 [atR v] (atR v)):=@hid _ (by intro L K q;exact TQ hvl hvz q);have hkf2:bw .int (.int .i64 x.id)=true:=rfl;rcases hc.node x.id with⟨f1,_⟩|⟨x',n,f1,_,_,f2,_⟩;rw[ht.ent hxl]at f1;cases f1;obtain⟨q,hq⟩:∃q:Int,(gE l x.id:Nat)=q:=⟨_,rfl⟩;rw[hq]at ad hfin;obtain⟨xi,hxi⟩:=ajl (x.id);rw[hxi]at hkf2 f2 kk2 ad sd hfin;replace h:=hid hfin;clear hfin hK hK1 hbs hvw hnn hit hc ht hfx hod ha hxi hq hxl f1 hnx;unfold atR at kk1 kk3 h⊢;refine ajo eY ?_;exact ac h.o
end
set_option maxHeartbeats 8000000
set_option maxRecDepth 100000
def Oo(l:List aA)(dn:List Rdn):List aA:=l.filter λz => !bA z.nm dn
theorem kG{l:List aA}{z:aA}:z∈Oo l dn↔z∈l/\bA z.nm dn=false:=by unfold Oo;rw[aka];simp
theorem TOk.cut{suf:List Rdn}{last:Int}{l:List aA}(h:TOk suf last l)(hd:OkD dn):TOk suf last (Oo l dn):=by
 have sub:∀z∈Oo l dn,z∈l:=λz hz=>(kG.1 hz).1
 have hs:(dx (Oo l dn)).Sublist (dx l):=List.filter_sublist.map _;refine⟨h.sok,λz hz=>h.ok z (sub z hz),⟨h.inv.sne,(hs.map _).nodup h.inv.nd,(hs.map _).nodup h.inv.ids,λm hm=>h.inv.un m (hs.subset hm),λm hm=>?_⟩,λz hz=>h.ids z (sub z hz)⟩;obtain⟨z,hz,rfl⟩:=ajy.1 hm;obtain⟨hzl,hzu⟩:=kG.1 hz;rcases h.inv.par _ (fH hzl)with e|⟨k,hk,e⟩;exact .inl e;obtain⟨w,hw,rfl⟩:=ajy.1 hk;refine .inr ⟨_,fH (kG.2 ⟨hw,?_⟩),e⟩;cases hu:bA w.nm dn with
 |false=>rfl
 | true =>
   have h1:=(bL.1 hu).2.2;simp only at e;rw[e]at h1;have:bA z.nm dn=true:=bL.2 ⟨h.ok z hzl,hd,h1.trans (alI _)⟩;rw[this]at hzu;cases hzu
def UR(l:List aA)(dn tn:List Rdn)(ids:List Int):List aA:=l.map λz=>if z.id∈ids then{z with nm:=gm z.nm dn.length tn}else z
theorem age(l:List aA)(dn tn:List Rdn):UR l dn tn []=l:=by unfold UR;simp
theorem aeb{suf:List Rdn}{last:Int}{l:List aA}(h:TOk suf last l)(dn tn:List Rdn)(hy:y∈l)(hn:y.id∉ids):nmT (UR l dn tn ids) y.id (gm y.nm dn.length tn)=UR l dn tn (ids++[y.id]):=by
 unfold nmT UR;rw[ajS];refine akF λz hz=>?_
 simp only[ak4,ajx,ajI];by_cases e:z.id=y.id;have:=h.byI hz hy e;subst this;simp[hn];by_cases c:z.id∈ids;simp[c,e];simp[c,e]
theorem ahD{l:List aA}(dn tn:List Rdn)(hy:y∈l)(hn:y.id∉ids):y∈UR l dn tn ids:=ajy.2 ⟨y,hy,if_neg hn⟩
theorem agf{l:List aA}(dn tn:List Rdn)(h:∀z∈l,z.id∈ids↔bA z.nm dn=true):UR l dn tn ids=kQ l dn tn:=by
 unfold UR kQ;refine akF λz hz=>?_
 by_cases c:bA z.nm dn=true;rw[if_pos ((h z hz).2 c),if_pos c];rw[if_neg (λe=>c ((h z hz).1 e)),if_neg c]
theorem Uv{l:List aA}{z:aA}(h:z∈kQ l dn tn):∃y∈l,y.id=z.id/\z=(if bA y.nm dn=true then{y with nm:=gm y.nm dn.length tn}else y):=by obtain⟨y,hy,rfl⟩:=ajy.1 h;refine⟨y,hy,?_,rfl⟩;split<;>rfl
theorem adQ{suf:List Rdn}{last:Int}{l:List aA}(h:TOk suf last l){dn tn:List Rdn}(hd:OkD dn){y:aA}(hy:y∈l):NK (if bA y.nm dn=true then{y with nm:=gm y.nm dn.length tn}else y).nm=ren (NK dn) (NK tn) (NK y.nm):=by by_cases c:bA y.nm dn=true;rw[if_pos c,abh c];rw[if_neg c,fT λhs=>c (bL.2 ⟨h.ok y hy,hd,hs⟩)]
theorem TOk.movK{suf:List Rdn}{last:Int}{l:List aA}(h:TOk suf last l)(hc:aif suf l x dn tn)(hy:y∈l):
  (aZ (dx (kQ l dn tn)) (NK (if bA y.nm dn=true then{y with nm:=gm y.nm dn.length tn}else y).nm):Int)=(if y.id=aV (kQ l dn tn) tn.tail then(if y.id=aV (Oo l dn) dn.tail then(gE l y.id:Int) + -1 else gE l y.id)+1 else(if y.id=aV (Oo l dn) dn.tail then(gE l y.id:Int) + -1 else gE l y.id)):=by
 obtain⟨hrt,hk⟩:=h.mov hc;have hct:=h.cut hc.ok;rw[adQ h hc.ok hy,hk y hy,h.kidsE hy];have c1:y.id=aV (Oo l dn) dn.tail↔NK y.nm=(NK dn).tail:=by
  cases hu:bA y.nm dn with
  |false=>rw[hct.parI (kG.2 ⟨hy,hu⟩) hc.ok];exact eq_comm
  | true =>
    constructor
    .intro e;unfold aV at e;cases hq:atE (Oo l dn) dn.tail with
     |none=>rw[hq]at e;have:=(h.ids y hy).1;simp only at e;omega
     | some w =>
       rw[hq]at e;obtain⟨hw,hwu⟩:=kG.1 (bW hq).2.1;have:=h.byI hy hw e;rw[<- this,hu]at hwu;cases hwu
    .intro e;have h1:=(bL.1 hu).2.2.length_le;rw[e,ak5]at h1;have:NK dn≠[]:=λe2=>h.inv.ne (fH hc.mem) (by rw[hc.nk,e2])
     have:=akh.2 this;omega
 have c2:y.id=aV (kQ l dn tn) tn.tail↔NK y.nm=(NK tn).tail:=by have hz:(if bA y.nm dn=true then{y with nm:=gm y.nm dn.length tn}else y)∈kQ l dn tn:=ajy.2 ⟨y,hy,rfl⟩;have h1:=hrt.parI hz hc.tok;rw[adQ h hc.ok hy]at h1;rw[show(if bA y.nm dn=true then{y with nm:=gm y.nm dn.length tn}else y).id=y.id by split<;>rfl]at h1;rw[h1];constructor;intro e;by_cases hs:NK dn <:+ NK y.nm;obtain⟨w,ew⟩:=hs;rw[<- ew,gD]at e;have:=congrArg List.length e;rw[ak5,ajA]at this;have:=akh.2 (λe2=>hc.tne (JQ.1 e2));omega;rw[fT hs]at e;exact e.symm;intro e;rw[e,fT hc.nun]
 by_cases d1:NK y.nm=(NK dn).tail<;>by_cases d2:NK y.nm=(NK tn).tail;rw[if_pos d1,if_pos d2,if_pos (c2.2 d2),if_pos (c1.2 d1)];omega;rw[if_pos d1,if_neg d2,if_neg (λe=>d2 (c2.1 e)),if_pos (c1.2 d1)];omega;rw[if_neg d1,if_pos d2,if_pos (c2.2 d2),if_neg (λe=>d1 (c1.1 e))];omega;rw[if_neg d1,if_neg d2,if_neg (λe=>d2 (c2.1 e)),if_neg (λe=>d1 (c1.1 e))];omega
section
variable {L:List Blk}{iv mn mi it:Nat}{nb bn:Int->Nat}{ck ci:Nat}{rs:List TKy}{suf:List Rdn}{last:Int}{l lk:List aA}{kd:Int->Int}
theorem bP.lkE(h:bP L iv mn mi nb bn ck ci rs suf last l lk kd){lk':List aA}(e:∀z,z∈lk↔z∈lk'):bP L iv mn mi nb bn ck ci rs suf last l lk' kd :=
 ⟨h.v,h.n,h.i,h.nd,h.inj,h.keys,λk id=>by rw[h.mem k id];exact⟨λ⟨x,hx,e1⟩=>⟨x,(e x).1 hx,e1⟩,λ⟨x,hx,e1⟩=>⟨x,(e x).2 hx,e1⟩⟩,h.bnd,h.blt⟩
def lkD(l:List aA)(ys:List aA):List aA:=l.filter λz => !ys.any λy=>decide (y.id=z.id)
theorem J2{l ys:List aA}{z:aA}:z∈lkD l ys↔z∈l/\∀y∈ys,y.id≠z.id:=by unfold lkD;rw[aka];simp
theorem aeg(l ys:List aA)(y:aA):∀z,z∈Ra (lkD l ys) y.id↔z∈lkD l (ys++[y]):=λz=>by
 unfold Ra;rw[aka,J2,J2];simp only[ne_eq,decide_eq_true_eq,ajx,ajI];constructor;rintro⟨⟨h1,h2⟩,h3⟩;refine⟨h1,λw hw=>?_⟩;rcases hw with hw|rfl;exact h2 w hw;exact λe=>h3 e.symm
 rintro⟨h1,h2⟩;exact⟨⟨h1,λw hw=>h2 w (.inl hw)⟩,λe=>h2 y (.inr rfl) e.symm⟩
end
set_option maxHeartbeats 8000000
set_option maxRecDepth 100000
theorem OfT.lt{L:List Blk}{iv mn mi:Nat}{nb bn:Int->Nat}{ck ci:Nat}{rs:List TKy}{suf:List Rdn}{last:Int}{l lk:List aA}{kd:Int->Int}(h:bP L iv mn mi nb bn ck ci rs suf last l lk kd)(hi:OfT iv mn mi nb l i):i<L.length:=by rcases hi with rfl|rfl|rfl|⟨x,hx,rfl⟩;exact(ajr.1 h.v).1;exact(ajr.1 h.n).1;exact(ajr.1 h.i).1;exact(ajr.1 (h.nd x hx)).1
theorem adF{suf:List Rdn}{last:Int}{l:List aA}(ht:TOk suf last l)(x:aA)(s:Int):((scL l x s).map (·.id)).Nodup:=by have hn:=ht.inv.ids;unfold dx at hn;rw[ajS]at hn;have:((l.filter (gr x s)).map (·.id)).Nodup:=(List.filter_sublist.map _).nodup hn;exact((ali _ _).map _).nodup_iff.2 this
section
variable {L:List Blk}{iv mn mi it:Nat}{nb bn:Int->Nat}{ck ci:Nat}{rs:List TKy}{suf:List Rdn}{last:Int}{l:List aA}
theorem aiC(ht:TOk suf last l)(n23:mn≠mi)(hln:l.length<=1000000)(hit:L[it]?=some (.cells [.ptr iv 0]))(hc:bO L iv mn mi nb bn ck ci rs suf last l){dn tn:List Rdn}{v:List Atr}(hdb:dnB dn)(htb:dnB tn)(hvl:v.length<=1100000)(hvz:∀a∈v,a.2.length<=1100000){x:aA}(hx:atE l dn=some x)(hmv:Xx suf l x.id dn tn=0){K:ajq}(h:∀L' ci' rs',bO L' iv mn mi nb bn ck ci' rs' suf last (qf (kQ l dn tn) x.id v)->L'[it]?=some (.cells [.ptr iv 0])->aF (OfT iv mn mi nb l) L L'->K (.int .i64 0) L'):
  ajp 34 [.ptr it 0,.agg [.int .i64 4,dnA dn,dnA tn,atR v]] L K:=by
 obtain⟨hod,hxl,hxe⟩:=bW hx;have hcm:=ht.canM hx hmv;have ha:fe suf l 4 dn tn=0:=by unfold fe;rw[if_neg (by decide),if_neg (by decide),hx];exact hmv
 have hfx:aV l dn=x.id:=by unfold aV;rw[hx]
 have hK:=hc.toK ht;have nit:=hK.noIt hit;have hvw:=hc.v;have hivl:iv<L.length:=(ajr.1 hvw).1;have hmil:mi<L.length:=(ajr.1 hc.i).1;have hitl:it<L.length:=(ajr.1 hit).1;have nob:¬OfT iv mn mi nb l L.length:=λe=>Nat.lt_irrefl _ (OfT.lt hK e)
 have av:∀X:List Blk,(L++X)[iv]?=some (.cells [dnA suf,.lmap mn,.lmap mi,.int .i64 last]):=λX=>by rw[ajw hivl];exact hvw
 have at':∀X:List Blk,(L++X)[it]?=some (.cells [.ptr iv 0]):=λX=>by rw[ajw hitl];exact hit
 have kk1:Hid (∀{X:List Blk}{K:ajq},K (.int .i64 0) (L++X)->ajp 78 [.ptr iv 0,.agg [.int .i64 4,dnA dn,dnA tn,.sl (aB v) v.length none]] (L++X) K):=@hid _ (by intro X K q;exact OM ht amM (hc.app X) hdb htb (by rw[ha];exact q))
 have kk2:Hid (∀{X:List Blk}{K:ajq},K (.int .i64 x.id) (L++X)->ajp 24 [.ptr iv 0,dnA dn] (L++X) K):=@hid _ (by intro X K q;exact qB hdb ht (hc.app X) (by rw[hfx];exact q))
 obtain⟨sc,hsce⟩:=ajl (scL l x 2);have kk3:Hid (∀{X:List Blk}{K:ajq},K (.sl ((sc.map (·.id)).map (AV.int .i64)) sc.length none) (L++X)->ajp 23 [.ptr iv 0,.int .i64 x.id,.int .i64 2] (L++X) K):=@hid _ (by intro X K q;refine Uf ht amM (hc.app X) ?_;rw[Yq (ht.ent hxl),hsce,ajR];exact q)
 have hscl:=aa4 l x 2;have hscm:=λy=>TV (y:=y) ht hx
 have hscn:=adF ht x 2;rw[hsce]at hscl hscm hscn;have hpos:∀(j:Nat) (y:aA),sc[j]?=some y->(((sc.map (·.id)).map (AV.int .i64)).getD j .undef=.int .i64 y.id)/\y∈l/\bA y.nm dn=true/\(∀z∈sc.take j,z.id≠y.id)/\sc.take (j+1)=sc.take j++[y]:=λj y hj=>by obtain⟨hjl,e⟩:=ajr.1 hj;have hm:=akg hj;obtain⟨h1,h2⟩:=(hscm y).1 hm;refine⟨by simp[hj],h1,h2,λz hz e2=>?_,by rw[ajN hjl,e]⟩;obtain⟨i,hi,e3⟩:=akk.1 hz;rw[al8]at e3;rw[akH]at hi;have hij:i<j:=amM;have:=akB.1 hscn i j (by simp;omega) (by simpa using hjl) hij;exact this (by simp[e3,e,e2])
 have hdl:=hod.len;obtain⟨box,hbox⟩:∃box:Blk,box=.cells [.int .i64 4,dnA dn,dnA tn,.sl (aB v) v.length none]:=⟨_,rfl⟩;have hu:∀y∈l,∀z∈l,aP true z.nm=aP true y.nm↔z.id=y.id:=λy hy z hz=>⟨λe=>by rw[ht.byN hz hy ((gN (ht.ok z hz) (ht.ok y hy)).1 e)],λe=>by rw[ht.byI hz hy e]⟩
 have hI0:bP (L++[box]) iv mn mi nb bn ck ci rs suf last l (lkD l (sc.take 0)) (λid=>(gE l id:Nat)):=(hK.app [box]).lkE λz=>by rw[J2];simp
 have hBx:aF (OfT iv mn mi nb l) L (L++[box]):=aF.app L [box];have hbx:(L++[box])[L.length]?=some box:=amN;obtain⟨xi,hxi⟩:=ajl (x.id);have hit0:=hit;unfold atR;rw[hxi]at kk2 kk3;replace h:=hid h;replace ht:=hid ht;replace hcm:=hid hcm;replace hpos:=hid hpos;replace hu:=hid hu;replace hscm:=hid hscm;replace hI0:=hid hI0;replace hBx:=hid hBx;replace hbx:=hid hbx;clear hc hK hvw hfx ha hmv hsce hscn hit;subst hbox;refine ajo eY ?_;have st1:∀{L':List Blk}{rs':List TKy}{lk:List aA}{ci':Nat}{l':List aA}{kd:Int->Int},bP L' iv mn mi nb bn ck ci' rs' suf last l' lk kd->L'[it]?=some (.cells [.ptr iv 0])->L'[L.length]?=some (.cells [.int .i64 4,dnA dn,dnA tn,.sl (aB v) v.length none])->∀b,(L'.set mi b)[it]?=some (.cells [.ptr iv 0])/\(L'.set mi b)[L.length]?=some (.cells [.int .i64 4,dnA dn,dnA tn,.sl (aB v) v.length none]):=λhK h1 h2 b=>⟨by rw[ajJ (λe=>hK.noIt h1 (.inr (.inr (.inl e.symm))))];exact h1,by rw[ajJ amM];exact h2⟩
 replace st1:=@hid _ @st1;refine aq (λn T' L'=>∃j:Nat,n=sc.length-j/\j<=sc.length/\Hid (∃rs',bP L' iv mn mi nb bn ck ci rs' suf last l (lkD l (sc.take j)) (λid=>(gE l id:Nat)))/\Hid (aF (OfT iv mn mi nb l) L L')/\L'[L.length]?=some (.cells [.int .i64 4,dnA dn,dnA tn,.sl (aB v) v.length none])/\L'[it]?=some (.cells [.ptr iv 0])/\T'=[(137,.int .i64 (j:Int)),(136,.int .i64 sc.length),(135,.sl ((sc.map (·.id)).map (AV.int .i64)) sc.length none),(9,.sl ((sc.map (·.id)).map (AV.int .i64)) sc.length none),(6,.int .i64 xi),(3,.ptr L.length 0),(0,.ptr it 0)]) amQ ⟨0,rfl,aju _,hid ⟨rs,hI0.o⟩,hid hBx.o,hbx.o,by rw[ajw hitl];exact hit0,rfl⟩ ?_;rintro _ _ L' ⟨j,rfl,hj,hI,hB,hb,hi,rfl⟩;obtain⟨rs',hK⟩:=hI.o;have hLl:L.length+1<=L'.length:=(ajr.1 hb).1;have hvw:=hK.v;have hnn:=hK.n;have hii:=hK.i;by_cases hlt:j<sc.length;have g1:(j:Int)<(sc.length:Int):=amM;have g2:=ajn j amM;have hjg:sc[j]?=some sc[j]:=ajF hlt;obtain⟨y,hy⟩:=ajl (sc[j]);rw[hy]at hjg;obtain⟨e1,hyl,hyu,hyn,htk⟩:=hpos.o j y hjg;have e2:j<((sc.map (·.id)).map (AV.int .i64)).length:=by simpa using hlt
 obtain⟨j1,hj1,hK1⟩:=hK.delk n23 (y:=y) (J2.2 ⟨hyl,hyn⟩) (λz hz=>hu.o y hyl z (J2.1 hz).1);have hK2:=hK1.lkE (aeg l (sc.take j) y);rw[<- htk]at hK2;obtain⟨b1,b2⟩:=st1.o hK hi hb (.map ((rs'.map kyA).eraseIdx j1) ci);have hB2:=hB.o.trans (aF.set L' (B:=OfT iv mn mi nb l) (.inr (.inr (.inl rfl))) (.map ((rs'.map kyA).eraseIdx j1) ci));rcases hK.node y.id with⟨f1,_⟩|⟨y',n,f1,_,_,f2,f3,_⟩;rw[ht.o.ent hyl]at f1;cases f1;rw[ht.o.ent hyl]at f1;cases f1;unfold dc at f3;have hoy:=ht.o.ok y hyl;have kk4:Hid (Ctr Tryz.prog 58 [dnA y.nm] (.tup [.str (aP true y.nm),.int .i64 0])):=@hid _ (by intro L K q;exact Rz hoy.m.b.1 hoy.m.b.2 (by rw[eu hoy];exact q))
 have hkf1:bw .str (.str (aP true y.nm))=true:=rfl;have hkf2:bw .int (.int .i64 y.id)=true:=rfl;obtain⟨tk,htke⟩:=ajl (aP true y.nm);obtain⟨yi,hyi⟩:=ajl (y.id);rw[htke]at hj1 kk4 hkf1;rw[hyi]at e1 f2 f3 hkf2 hj1;have hLl2:=hid hLl;replace b1:=hid b1;replace b2:=hid b2;replace hK2:=hid hK2;replace hB2:=hid hB2;clear hK hK1 hI hB hoy htke hyi hyl hyu hyn htk hjg hy kk1 kk2 kk3 av at' nob;refine wk ?_;exact amR amM (CutL (b:=by have:=hLl2.o;simp;omega)) ⟨j+1,rfl,hlt,hid ⟨_,hK2.o⟩,hid hB2.o,b2.o,b1.o,rfl⟩;have hje:j=sc.length:=amM;subst hje;have g1:¬(sc.length:Int)<(sc.length:Int):=amM;rw[ajL]at hK;have hKc:=hK.lkE (lk':=Oo l dn) λz=>by
  rw[J2,kG];refine and_congr_right λhz=>?_
  constructor;intro e;cases hu':bA z.nm dn with
  |false=>rfl
  |true=>exact absurd rfl (e z ((hscm.o z).2 ⟨hz,hu'⟩))
  intro e y hy e2;obtain⟨y1,y2⟩:=(hscm.o y).1 hy;rw[ht.o.byI y1 hz e2,e]at y2;cases y2
 have hct:=ht.o.cut hod;have hne:dn≠[]:=λe=>ht.o.inv.ne (fH hxl) (by rw[hxe,e];rfl)
 obtain⟨kd1,hkd1⟩:∃kd1:Int->Int,kd1=λi=>if i=aV (Oo l dn) dn.tail then(gE l i:Int) + -1 else gE l i:=⟨_,rfl⟩
 have hkb:∀i,-10000000<=kd1 i/\kd1 i<=10000000:=λi=>by have:=UX l i;rw[hkd1];dsimp only;split<;>omega
 have kk4:Hid (∀{K:ajq},(∀L2,Hid (bP L2 iv mn mi nb bn ck ci rs' suf last l (Oo l dn) kd1)->Hid (aF (OfT iv mn mi nb l) L L2)->L2[it]?=some (.cells [.ptr iv 0])->L2[L.length]?=some (.cells [.int .i64 4,dnA dn,dnA tn,.sl (aB v) v.length none])->K (.tup []) L2)->ajp 80 [.ptr it 0,dnA dn,.int .i64 (-1)] L' K):=@hid _ (by
  intro K q;refine J1 hdb hne hct (λz hz=>⟨z,(kG.1 hz).1,rfl⟩) (λz hz=>(ht.o.ids z hz).1) hi hKc amM (λi=>by have:=UX l i;omega) λL2 hK2 hB2=>?_
  refine q L2 (hid (by rw[hkd1];exact hK2)) (hid (hB.o.trans hB2)) (hB2.get hi (hKc.noIt hi)) (hB2.get hb nob))
 clear hKc hK hI hB;have hkm:=hid hkd1;clear hkd1;refine wk ?_;intro L2 hK2 hB2 hi2 hb2;clear kk4;clear hvw hnn hii hb hi hLl;have hLl:L.length+1<=L2.length:=(ajr.1 hb2).1;refine wk ?_;obtain⟨rnE,hrnE⟩:∃rnE:aA->aA,rnE=λy=>{y with nm:=gm y.nm dn.length tn}:=⟨_,rfl⟩
 replace hrnE:=hid hrnE;refine aq (λn T' L3=>∃j:Nat,n=sc.length-j/\j<=sc.length/\Hid (L2.length<=L3.length)/\Hid (∃ci2 rs2,bP L3 iv mn mi nb bn ck ci2 rs2 suf last (UR l dn tn ((sc.take j).map (·.id))) (Oo l dn++(sc.take j).map rnE) kd1)/\Hid (aF (OfT iv mn mi nb l) L L3)/\L3[L.length]?=some (.cells [.int .i64 4,dnA dn,dnA tn,.sl (aB v) v.length none])/\L3[it]?=some (.cells [.ptr iv 0])/\T'=[(172,.int .i64 (j:Int)),(171,.int .i64 sc.length),(170,.sl ((sc.map (·.id)).map (AV.int .i64)) sc.length none),(6,.int .i64 xi),(3,.ptr L.length 0),(0,.ptr it 0)]) (CutS (b:=ajs _)) ⟨0,rfl,aju _,hid (ajs _),hid ⟨ci,rs',by rw[akW,akA,age,akA,aj6];exact hK2.o⟩,hB2,hb2,hi2,rfl⟩ ?_;rintro _ _ L3 ⟨j,rfl,hj,hlen,hI,hB,hb,hi,rfl⟩;obtain⟨ci2,rs2,hK⟩:=hI.o;have hLl3:L.length+1<=L3.length:=(ajr.1 hb).1;have hvw:=hK.v;have hnn:=hK.n;have hii:=hK.i;clear hK2 hB2 hi2 hb2 hLl;by_cases hlt:j<sc.length;have g1:(j:Int)<(sc.length:Int):=amM;have g2:=ajn j amM;have hjg:sc[j]?=some sc[j]:=ajF hlt;obtain⟨y,hy⟩:=ajl (sc[j]);rw[hy]at hjg;obtain⟨e1,hyl,hyu,hyn,htk⟩:=hpos.o j y hjg;have e2:j<((sc.map (·.id)).map (AV.int .i64)).length:=by simpa using hlt
 have hnin:y.id∉(sc.take j).map (·.id):=λhm=>by obtain⟨z,hz,e⟩:=ajy.1 hm;exact hyn z hz e
 have hym:=ahD dn tn hyl hnin;have hrt:=(ht.o.mov hcm.o).1;have hZ:rnE y∈kQ l dn tn:=ajy.2 ⟨y,hyl,by rw[if_pos hyu,hrnE.o]⟩;have hZi:(rnE y).id=y.id:=by rw[hrnE.o]
 have hno:∀z∈Oo l dn++(sc.take j).map rnE,aP true z.nm≠aP true (gm y.nm dn.length tn):=λz hz e=>by
  have hzr:z∈kQ l dn tn/\z.id≠y.id:=by rcases ajx.1 hz with hz|hz;obtain⟨h1,h2⟩:=kG.1 hz;refine⟨ajy.2 ⟨z,h1,by rw[if_neg (by rw[h2];decide)]⟩,λe3=>?_⟩;rw[ht.o.byI h1 hyl e3,hyu]at h2;cases h2;obtain⟨w,hw,rfl⟩:=ajy.1 hz;obtain⟨h1,h2⟩:=(hscm.o w).1 (amg hw);refine⟨ajy.2 ⟨w,h1,by rw[if_pos h2,hrnE.o]⟩,λe3=>?_⟩;rw[show(rnE w).id=w.id by rw[hrnE.o]]at e3;exact hyn w hw e3
  have e4:NK z.nm=NK (rnE y).nm:=by rw[show(rnE y).nm=gm y.nm dn.length tn by rw[hrnE.o]];exact(gN (hrt.ok z hzr.1) (by have:=hrt.ok _ hZ;rw[hrnE.o]at this;exact this)).1 e
  have:=hrt.byN hzr.1 hZ e4;exact hzr.2 (by rw[this,hZi])
 have hoZ:OkD (gm y.nm dn.length tn):=by have:=hrt.ok _ hZ;rw[hrnE.o]at this;exact this
 obtain⟨Z,hZe⟩:=ajl (gm y.nm dn.length tn);rw[hZe]at hno hoZ;obtain⟨L4,hL4⟩:=ajl ((L3.set (nb y.id) (.cells [dnA Z,.sl (aC (NK Z).reverse) Z.length none,atR y.av,.int .i64 (kd1 y.id)])).set mi (.map ((rs2++[(aP true Z,y.id,ci2)]).map kyA) (ci2+1))++[.cells [.sl (aC (NK Z).reverse) Z.length none]]);obtain⟨hkf,hK1⟩:=hK.ren n23 hym hno [.cells [.sl (aC (NK Z).reverse) Z.length none]];rw[hL4,<- hZe,aeb ht.o dn tn hyl hnin,hZe]at hK1;have hK2:bP L4 iv mn mi nb bn ck (ci2+1) (rs2++[(aP true Z,y.id,ci2)]) suf last (UR l dn tn ((sc.take (j+1)).map (·.id))) (Oo l dn++(sc.take (j+1)).map rnE) kd1:=by rw[htk,ajV,ajV,<- ajD];rw[show[y].map rnE=[{y with nm:=Z}]by rw[hrnE.o,<- hZe];rfl];exact hK1
 have hBp:aF (OfT iv mn mi nb l) L3 L4:=by rw[<- hL4];exact((aF.set L3 (B:=OfT iv mn mi nb l) (.inr (.inr (.inr ⟨y,hyl,rfl⟩))) _).trans (aF.set _ (.inr (.inr (.inl rfl))) _)).trans (aF.app _ _)
 have hlen4:=hid (ajU hlen.o hBp.len);have hi4:=hBp.get hi nit;have hb4:=hBp.get hb nob;have hB4:=hB.o.trans hBp;rcases hK.node y.id with⟨f1,_⟩|⟨y',n,f1,f4,f5,f2,f3,_⟩;exact absurd (akJ.1 f1 y hym) amN;have hyy:y'=y:=by obtain⟨w,hw,e⟩:=ajy.1 f4;have hwi:w.id=y.id:=(by rw[<- f5,<- e];split<;>rfl);have:=ht.o.byI hw hyl hwi;subst this;rw[if_neg hnin]at e;exact e.symm
 rw[hyy]at f3;unfold dc at f3;have hyle:dn.length<=y.nm.length:=by have:=(bL.1 hyu).2.2.length_le;rwa[aW,aW]at this
 have hy32:=(ht.o.ok y hyl).len;have kk5:Hid (∀{K:ajq},K (.tup []) L4->ajp 79 [.ptr it 0,.int .i64 y.id,dnA Z] L3 K):=@hid _ (by intro K q;refine adr hoZ hi hvw hnn f2 f3 hii hkf ?_;rw[hL4];exact q)
 obtain⟨q,hq⟩:=ajl (y.nm.length-dn.length);have w1:IntKind.i64.wrap ((y.nm.length:Int)-(dn.length:Int))=(q:Int):=by rw[ae amM amM];omega
 have w2:(q:Int)<=(y.nm.length:Int):=amM;have hkfi:bw .int (.int .i64 y.id)=true:=rfl;have hZz:y.nm.take q++tn=Z:=by rw[<- hZe,<- hq];rfl
 have kk6:Hid (∀{c:Option Nat}{L:List Blk}{K:ajq},K (dnA Z) L->ajp 59 [dnA tn,.sl (List.take q (y.nm.map ah)) q c] L K):=@hid _ (by intro c L K u;rw[<- amd];exact abk hZz (by rw[akH];omega) rfl hoZ.m.b.1 hoZ.m.b.2 u)
 obtain⟨yi,hyi⟩:=ajl (y.id);obtain⟨yn,hynn⟩:=ajl (y.nm);obtain⟨ya,hya⟩:=ajl (atR y.av);obtain⟨yp,hyp⟩:=ajl (aC (pth y));rw[hyi]at e1 f2 f3 kk5 hkfi;rw[hynn]at f3 kk6 w1 w2;rw[hya,hyp]at f3;have hLl4:=hid hLl3;replace hK2:=hid hK2;replace hB4:=hid hB4;replace hi4:=hid hi4;replace hb4:=hid hb4;clear hK hK1 hI hB hBp hL4 hno hoZ hZ hZi hrt hym hnin hyl hyu hyn htk hjg hy f1 f4 f5 hyy hyle hy32 hq hZz hZe hyi hynn hya hyp hkf;refine wk ?_;exact amR amM (CutL (b:=hlen4.o)) ⟨j+1,rfl,hlt,hlen4,hid ⟨_,_,hK2.o⟩,hid hB4.o,hb4.o,hi4.o,rfl⟩;have hje:j=sc.length:=amM;subst hje;have g1:¬(sc.length:Int)<(sc.length:Int):=amM;rw[ajL]at hK;have hmx:UR l dn tn (sc.map (·.id))=kQ l dn tn:=agf dn tn λz hz=>by constructor;intro hm;obtain⟨w,hw,e⟩:=ajy.1 hm;obtain⟨h1,h2⟩:=(hscm.o w).1 hw;rw[<- ht.o.byI h1 hz e];exact h2;intro hu2;exact ajy.2 ⟨z,(hscm.o z).2 ⟨hz,hu2⟩,rfl⟩
 rw[hmx]at hK;have hKr:=hK.lkE (lk':=kQ l dn tn) λz=>by rw[ajx];constructor;rintro(hz|hz);obtain⟨h1,h2⟩:=kG.1 hz;exact ajy.2 ⟨z,h1,by rw[if_neg (by rw[h2];decide)]⟩;obtain⟨w,hw,rfl⟩:=ajy.1 hz;obtain⟨h1,h2⟩:=(hscm.o w).1 hw;exact ajy.2 ⟨w,h1,by rw[if_pos h2,hrnE.o]⟩;intro hz;obtain⟨w,hw,_,e⟩:=Uv hz;by_cases hu2:bA w.nm dn=true;rw[if_pos hu2]at e;exact .inr (ajy.2 ⟨w,(hscm.o w).2 ⟨hw,hu2⟩,by rw[e,hrnE.o]⟩);rw[if_neg hu2]at e;rw[e];exact .inl (kG.2 ⟨hw,by simpa using hu2⟩)
 have hrt:=(ht.o.mov hcm.o).1;obtain⟨kd2,hkd2⟩:∃kd2:Int->Int,kd2=λi=>if i=aV (kQ l dn tn) tn.tail then kd1 i+1 else kd1 i:=⟨_,rfl⟩
 have hof:∀i,OfT iv mn mi nb (kQ l dn tn) i->OfT iv mn mi nb l i:=λi hi=>by rcases hi with e|e|e|⟨z,hz,e⟩;exact .inl e;exact .inr (.inl e);exact .inr (.inr (.inl e));obtain⟨w,hw,e2,_⟩:=Uv hz;exact .inr (.inr (.inr ⟨w,hw,by rw[e,e2]⟩))
 obtain⟨x2,hx2⟩:∃x2,x2={x with nm:=gm x.nm dn.length tn}:=⟨_,rfl⟩;have hxu:bA x.nm dn=true:=bL.2 ⟨ht.o.ok x hxl,hod,by rw[hxe];exact als _⟩;have hx2m:x2∈kQ l dn tn:=ajy.2 ⟨x,hxl,by rw[if_pos hxu,hx2]⟩;have hx2i:x2.id=xi:=by rw[hx2];exact hxi
 have kk4:Hid (∀{K:ajq},(∀L4,Hid (bP L4 iv mn mi nb bn ck ci2 rs2 suf last (kQ l dn tn) (kQ l dn tn) kd2)->Hid (aF (OfT iv mn mi nb l) L L4)->L4[it]?=some (.cells [.ptr iv 0])->L4[L.length]?=some (.cells [.int .i64 4,dnA dn,dnA tn,.sl (aB v) v.length none])->K (.tup []) L4)->ajp 80 [.ptr it 0,dnA tn,.int .i64 1] L3 K):=@hid _ (by
  intro K q;refine J1 htb hcm.o.tne hrt (λz hz=>⟨z,hz,rfl⟩) (λz hz=>(hrt.ids z hz).1) hi hKr amM hkb λL4 hK4 hB4=>?_
  refine q L4 (hid (by rw[hkd2];exact hK4)) (hid (hB.o.trans2 hB4 λi _=>hof i)) (hB4.get hi λe=>nit (hof _ e)) (hB4.get hb λe=>nob (hof _ e)))
 have hkm2:=hid hkd2;clear hkd2 hK hKr hI hB;refine wk ?_;intro L4 hK4 hB4 hi4 hb4;clear kk4 hvw hnn hii hb hi hLl3;have hvw:=hK4.o.v;have hnn:=hK4.o.n;have kk5:Hid (Ctr Tryz.prog 60 [.sl (aB v) v.length none] (.sl (aB v) v.length none)):=@hid _ (by intro L K q;exact TQ hvl hvz q);rcases hK4.o.node xi with⟨f1,_⟩|⟨y',n,f1,f4,f5,f2,f3,_⟩;exact absurd (akJ.1 f1 x2 hx2m) (by simp[hx2i]);have hyy:y'=x2:=hrt.byI f4 hx2m (by rw[f5,hx2i]);subst hyy;unfold dc at f3;rw[hx2i]at f3;have hkfi:bw .int (.int .i64 xi)=true:=rfl;have hK5:=hK4.o.cha hx2m v;rw[hx2i]at hK5;have hfin:=h.o (L4.set (nb xi) (.cells [dnA y'.nm,.sl (aC (pth y')) y'.nm.length none,atR v,.int .i64 (kd2 xi)])) ci2 rs2 (by
  rw[<- hxi]at hK5⊢;refine hK5.toT λz hz=>?_
  obtain⟨w,hw,rfl⟩:=ajy.1 hz;obtain⟨u,hu',e2,e3⟩:=Uv hw;have h1:=ht.o.movK hcm.o hu';rw[UO];have e4:(if w.id=x.id then{w with av:=v}else w).id=w.id:=(by split<;>rfl);have e5:(if w.id=x.id then{w with av:=v}else w).nm=w.nm:=(by split<;>rfl);rw[e4,e5,hkm2.o,hkm.o];dsimp only;rw[<- e3]at h1;rw[<- e2];exact h1.symm) (by rw[ajJ (λe=>nit (.inr (.inr (.inr ⟨x,hxl,by rw[hxi];exact e.symm⟩))))];exact hi4) (hB4.o.trans (aF.set _ (.inr (.inr (.inr ⟨x,hxl,by rw[hxi]⟩))) _))
 replace h:=hid hfin;unfold atR at h;obtain⟨ya,hya⟩:=ajl (atR y'.av);obtain⟨yp,hyp⟩:=ajl (aC (pth y'));obtain⟨yn,hynn⟩:=ajl (y'.nm);obtain⟨kq,hkq⟩:=ajl (kd2 xi);rw[hya,hyp,hynn,hkq]at f3;rw[hyp,hynn,hkq]at h;clear hfin hK5 hyp hya hynn hkq f1 f4 f5 hK4 hB4 hrt hof hx2m hx2i hxu hx2 hmx hxi;refine wk ?_;exact ac h.o
end
set_option maxHeartbeats 8000000
set_option maxRecDepth 100000
section
variable {L:List Blk}{iv mn mi it:Nat}{nb bn:Int->Nat}{ck ci:Nat}{rs:List TKy}{suf:List Rdn}{last:Int}{l:List aA}
theorem aiD(ht:TOk suf last l)(hln:l.length<=1000000)(hit:L[it]?=some (.cells [.ptr iv 0]))(hc:bO L iv mn mi nb bn ck ci rs suf last l){k:Int}{dn tn:List Rdn}{v:AV}(hdb:dnB dn)(htb:dnB tn)(ha:fe suf l k dn tn≠0){K:ajq}(h:K (.int .i64 (fe suf l k dn tn)) L):
  ajp 34 [.ptr it 0,.agg [.int .i64 k,dnA dn,dnA tn,v]] L K:=by
 have hitl:it<L.length:=(ajr.1 hit).1;have at':∀X:List Blk,(L++X)[it]?=some (.cells [.ptr iv 0]):=λX=>by rw[ajw hitl];exact hit
 obtain⟨z,hz⟩:=ajl (fe suf l k dn tn);have kk1:Hid (∀{X:List Blk}{K:ajq},K (.int .i64 z) (L++X)->ajp 78 [.ptr iv 0,.agg [.int .i64 k,dnA dn,dnA tn,v]] (L++X) K):=@hid _ (by intro X K q;exact OM ht amM (hc.app X) hdb htb (by rw[hz];exact q))
 rw[hz]at ha h;replace h:=hid h;clear hz hc ht hit;refine ajo eY ?_;exact ab rfl h.o
theorem aio(ht:TOk suf last l)(n23:mn≠mi)(hln:l.length<=1000000)(hl0:0<=last)(hl1:last<=1000000)(hit:L[it]?=some (.cells [.ptr iv 0]))(hc:bO L iv mn mi nb bn ck ci rs suf last l){k:Int}{dn tn:List Rdn}{v:List Atr}(hdb:dnB dn)(htb:dnB tn)(hvl:v.length<=1100000)(hvz:∀a∈v,a.2.length<=1100000){K:ajq}(h:∀L' nb' bn' ck' ci' rs',bO L' iv mn mi nb' bn' ck' ci' rs' suf (doT suf l last k dn tn v).2 (doT suf l last k dn tn v).1->L'[it]?=some (.cells [.ptr iv 0])->aF (OfT iv mn mi nb l) L L'->K (.int .i64 (fe suf l k dn tn)) L'):
  ajp 34 [.ptr it 0,.agg [.int .i64 k,dnA dn,dnA tn,atR v]] L K:=by
 by_cases ha:fe suf l k dn tn=0;rotate_left;unfold doT at h;rw[if_pos ha]at h;exact aiD ht hln hit hc hdb htb ha (h L _ _ _ _ _ hc hit (aF.refl L));unfold doT at h;rw[if_neg (λe=>e ha)]at h;rw[ha]at h;by_cases k1:k=1;subst k1;rw[if_pos rfl]at h;exact aiK ht n23 hln hl0 hl1 hit hc hdb htb hvl hvz ha h;rw[if_neg k1]at h;have ha':=ha;unfold fe at ha';by_cases hk:k<1\/4<k;rw[if_pos hk]at ha';exact absurd ha' (by decide);rw[if_neg hk,if_neg k1]at ha';cases hx:atE l dn with
 |none=>rw[hx]at ha';simp at ha'
 | some x =>
   rw[hx]at ha';simp only at ha';have hf:aV l dn=x.id:=(by unfold aV;rw[hx]);rw[hf]at h;by_cases k2:k=2
   .subst k2;rw[if_pos rfl]at h;exact aiI ht n23 hln hit hc hdb htb hx ha λL' ci' rs'=>h L' _ _ _ _ _
   rw[if_neg k2]at h ha';by_cases k3:k=3
   .subst k3;rw[if_pos rfl]at h;exact aiJ ht hln hit hc hdb htb hvl hvz hx λL'=>h L' _ _ _ _ _
   rw[if_neg k3]at h ha';have k4:k=4:=amM;subst k4;exact aiC ht n23 hln hit hc hdb htb hvl hvz hx ha' λL' ci' rs'=>h L' _ _ _ _ _
end
set_option maxHeartbeats 8000000
set_option maxRecDepth 100000
theorem bO.start(L:List Blk)(d:List Rdn):bO (L++[.map [] 0,.map [] 0,.cells [dnA d,.lmap L.length,.lmap (L.length+1),.int .i64 0],.cells [.ptr (L.length+2) 0]]) (L.length+2) L.length (L.length+1) (λ_=>0) (λ_=>0) 0 0 [] d 0 []:=by refine⟨?_,?_,?_,?_,?_,?_,?_,?_⟩;rw[ajG amM];simp;rw[ajG amM];simp;rw[ajG amM];simp;simp;simp;simp;simp;simp
def X8(P:Program)(o:aw)(T:Tm)(L:List Blk)(v:AV)(M:List Blk->Prop):Prop :=
 match o.op with
 | .call f xs=>match gR T xs with
   |some args=>af P f args L λav L'=>av=v/\M L'
   |none=>False
 |_=>False
def EQS(P:Program)(o:aw)(T:Tm)(L:List Blk)(v:AV)(M:List Blk->Prop):Prop :=
 match o.guard with
 |none=>X8 P o T L v M
 | some (t,b)=>match ay T t with
   |some (.bool x)=>if x=b then X8 P o T L v M else v=.tup []/\M L
   |some (.tup [])=>v=.tup []/\M L
   |_=>False
theorem X8.congr{P:Program}{o:aw}{T T':Tm}{L:List Blk}{v:AV}{M:List Blk->Prop}(h1:∀t∈o.op.tmps,ay T t=ay T' t)(hv:X8 P o T L v M):X8 P o T' L v M:=by unfold X8 at hv⊢;split at hv;rename_i f xs e;rw[e]at h1;rw[<- iB (l:=xs) h1];exact hv;exact hv.elim
theorem EQS.congr{P:Program}{o:aw}{T T':Tm}{L:List Blk}{v:AV}{M:List Blk->Prop}(h:∀t∈o.reads,ay T t=ay T' t)(hq:EQS P o T L v M):EQS P o T' L v M:=by
 have h1:∀t∈o.op.tmps,ay T t=ay T' t:=λt ht=>h t (by simp[aw.reads,ht])
 unfold EQS at hq⊢;split at hq;exact hq.congr h1;rename_i t b hg;rw[<- h t (by simp[aw.reads,hg])];split at hq;split at hq;rename_i e;rw[if_pos e];exact hq.congr h1;rename_i e;rw[if_neg e];exact hq;exact hq;exact hq.elim
theorem X8.aop{P:Program}{o:aw}{T:Tm}{L:List Blk}{v:AV}{M:List Blk->Prop}(hq:X8 P o T L v M):AOp P o (λT' L'=>T'=cB o.dst v T/\M L') T L:=by
 unfold X8 at hq;unfold AOp;split at hq;rename_i f xs e;simp only[e];split at hq;rename_i args ha;rw[ha];exact af.mono hq λav L' ⟨h1,h2⟩=>⟨by rw[h1],h2⟩
 exact hq.elim;exact hq.elim
theorem EQS.aops{P:Program}{o:aw}{T:Tm}{L:List Blk}{v:AV}{M:List Blk->Prop}(hq:EQS P o T L v M):ku P (λT' L'=>T'=cB o.dst v T/\M L') [o] T L:=by unfold EQS at hq;simp only[ku];split at hq;rename_i hg;simp only[hg];exact hq.aop;rename_i t b hg;simp only[hg];split at hq;rename_i x hx;rw[hx,xL];split at hq;rename_i e;rw[if_pos e];exact hq.aop;rename_i e;rw[if_neg e];exact⟨by rw[hq.1],hq.2⟩;rename_i hx;rw[hx,X7];exact⟨by rw[hq.1],hq.2⟩;exact hq.elim
section
variable {P:Program}{r:Option Nat}{w0:World}{S0:SB}{N:Nat}{own:Nat->Nat}{ops:Array Oper}{L:List Blk}
end
section
variable {P:Program}{w0:World}{S0:SB}{N:Nat}{own:Nat->Nat->Nat}{Q:Exit->Tm->List Blk->Prop}{T:Tm}{L:List Blk}
end
section
variable {P:Program}{K:Tm->List Blk->Prop}{T:Tm}{d:Option Nat}{op:LOp}{t:Nat}{b:Bool}{r:List (aw×Kd)}{M:List Blk->Prop}{Ms:List (List Blk->Prop)}{v:AV}{c:Prop}
end
set_option maxHeartbeats 8000000
set_option maxRecDepth 100000
def XZ(v:List Atr):Prop:=v.length<=1100000/\∀a∈v,a.2.length<=1100000
theorem ahP{suf:List Rdn}{l:List aA}{last:Int}{v:List Atr}(hl:∀x∈l,XZ x.av)(hv:XZ v):∀x∈(doT suf l last k dn tn v).1,XZ x.av:=by
 have hcha:∀(l:List aA) (i:Int),(∀x∈l,XZ x.av)->∀x∈qf l i v,XZ x.av:=λl i h x hx=>by obtain⟨y,hy,rfl⟩:=ajy.1 hx;split;exact hv;exact h y hy
 have hren:∀x∈kQ l dn tn,XZ x.av:=λx hx=>by obtain⟨y,hy,rfl⟩:=ajy.1 hx;split;exact hl y hy;exact hl y hy
 unfold doT;split;exact hl;split;intro x hx;rcases ajx.1 hx with hx|hx;exact hl x hx;rw[ajI.1 hx];exact hv;split;intro x hx;exact hl x (aka.1 hx).1;split;exact hcha l _ hl;exact hcha _ _ hren
structure Zz(L:List Blk)(it iv mn mi rt:Nat)(nb bn:Int->Nat)(ck ci:Nat)(rs:List TKy)(c:Option Nat)(suf:List Rdn)(last:Int)(l:List aA):Prop where
 ok:TOk suf last l
 code:bO L iv mn mi nb bn ck ci rs suf last l
 it:L[it]?=some (.cells [.ptr iv 0])
 rt:L[rt]?=some (.cells [dnA suf,.sl (aX l) l.length c,.int .i64 last])
 ne:mn≠mi
 l0:0<=last
 l1:last<=100
 len:l.length<=100
 av:∀x∈l,XZ x.av
theorem bO.noOf{L:List Blk}{iv mn mi:Nat}{nb bn:Int->Nat}{ck ci:Nat}{rs:List TKy}{suf:List Rdn}{last:Int}{l:List aA}(h:bO L iv mn mi nb bn ck ci rs suf last l){j:Nat}{c:List AV}(hj:L[j]?=some (.cells c))(hc:c.length≠4\/∃k z r,c=.int k z::r):¬OfT iv mn mi nb l j:=by rintro(e|e|e|⟨x,hx,e⟩);rw[e,h.v]at hj;simp only[ajt,Blk.cells.injEq]at hj;rcases hc with hc|⟨k,z,r,hc⟩;exact hc (by rw[<- hj];rfl);rw[<- hj]at hc;simp[dnA]at hc;rw[e,h.n]at hj;simp at hj;rw[e,h.i]at hj;simp at hj;rw[e,h.nd x hx]at hj;simp only[ajt,Blk.cells.injEq]at hj;rcases hc with hc|⟨k,z,r,hc⟩;exact hc (by rw[<- hj];rfl);rw[<- hj]at hc;simp[kk,dnA]at hc
theorem bO.keep{L:List Blk}{iv mn mi:Nat}{nb bn:Int->Nat}{ck ci:Nat}{rs:List TKy}{suf:List Rdn}{last:Int}{l:List aA}(h:bO L iv mn mi nb bn ck ci rs suf last l){c:List AV}(hr:L[rt]?=some (.cells c))(hc:c.length=3)(hb:aF (λi=>i=rt) L L'):bO L' iv mn mi nb bn ck ci rs suf last l:=by
 have no:¬OfT iv mn mi nb l rt:=h.noOf hr (.inl amM);have key:∀{i:Nat}{b:Blk},OfT iv mn mi nb l i->L[i]?=some b->L'[i]?=some b:=λ{i b} ho e=>hb.get e λe2=>no (by rw[<- e2];exact ho)
 exact⟨key (.inl rfl) h.v,key (.inr (.inl rfl)) h.n,key (.inr (.inr (.inl rfl))) h.i,λx hx=>key (.inr (.inr (.inr ⟨x,hx,rfl⟩))) (h.nd x hx),h.keys,h.mem,h.bnd,h.blt⟩
def qw(L L':List Blk):Prop:=L.length<=L'.length/\∀(j:Nat) (c:List AV),L[j]?=some (Blk.cells c)->c.length=2->L'[j]?=some (Blk.cells c)
theorem qw.refl(L:List Blk):qw L L:=⟨ajs _,λ_ _ h _=>h⟩
theorem qw.app{L:List Blk}(h:qw L L')(X:List Blk):qw L (L'++X):=⟨by have:=h.1;simp;omega,λj c h1 h2=>by have:=h.2 j c h1 h2;rw[ajw (ajr.1 this).1];exact this⟩
theorem qw.trans{B C:List Blk}(h:qw A B)(g:qw B C):qw A C:=⟨ajU h.1 g.1,λj c h1 h2=>g.2 j c (h.2 j c h1 h2) h2⟩
theorem qw.tree{L:List Blk}{iv mn mi:Nat}{nb bn:Int->Nat}{ck ci:Nat}{rs:List TKy}{suf:List Rdn}{last:Int}{l:List aA}(h:qw A L)(hc:bO L iv mn mi nb bn ck ci rs suf last l)(hb:aF (OfT iv mn mi nb l) L L'):qw A L':=h.trans ⟨hb.len,λj c h1 h2=>hb.get h1 (hc.noOf h1 (.inl amM))⟩
theorem qw.row{L:List Blk}{c0:List AV}(h:qw A L)(hr:L[rt]?=some (.cells c0))(hc:c0.length=3)(hb:aF (λi=>i=rt) L L'):qw A L':=h.trans ⟨hb.len,λj c h1 h2=>hb.get h1 λe=>by subst e;rw[hr]at h1;cases h1;omega⟩
structure aaJ(u:Upd):Prop where
 dn:Tg u.dn/\∀r∈u.dn,∀a∈r,(a.1.length:Int)<=140737488351232
 tw:Tg u.tw/\∀r∈u.tw,∀a∈r,(a.1.length:Int)<=140737488351232
 attrs:(u.attrs.length:Int)<=9223372036854775807
 names:∀a∈u.attrs,(a.1.length:Int)<=140737488351232/\(a.2.length:Int)<=9223372036854775807
theorem Yp{d:List Rdn}(h:smD d=true)(h2:∀r∈d,∀a∈r,(a.1.length:Int)<=140737488351232):dnM d:=by simp only[smD,ajv,decide_eq_true_eq,ajE]at h;refine⟨amM,λr hm=>⟨?_,h2 r hm⟩⟩;have:=h.2 r hm;rcases r with _|⟨a,t⟩;simp;simp only[smR,akL,ajv,smA,decide_eq_true_eq]at this;have:=this.1.1;simp only[ajz]at this⊢;omega
theorem aiq{u:Upd}(hu:aaJ u)(h:smU u=true):dnM u.dn/\dnM u.tw/\XZ u.attrs:=by simp only[smU,ajv]at h;obtain⟨h1,h2,h3⟩:=h;obtain⟨f1,f2⟩:=XQ h3;exact⟨Yp h1 hu.dn.2,Yp h2 hu.tw.2,amM,λa ha=>by have:=(f2 a ha).1;omega⟩
theorem abH(us:List Upd):(us.flatMap oJ).length=us.length*4:=by
 induction us with
 |nil=>rfl
 |cons u us ih=>rw[aj5,ajA,ih,ajz];simp only[ajz,aj9];omega
theorem Yh:∀{us:List Upd}{k:Nat},k<us.length->((us.flatMap oJ).drop (k*4)).take 4=oJ (us.getD k ad4)
 |u::us,0,_=>by rw[aj5];rfl
 |u::us,k+1,h=>by have ih:=Yh (us:=us) (k:=k) (by simpa using h);rw[aj5,alJ];show((us.flatMap oJ).drop (k*4)).take 4=_;rw[ih];rfl
def ZJ(v:Int×List Rdn):AV:=.tup [.int .i64 v.1,dnA v.2]
theorem adb{α:Type}{P:List Rdn->Bool}{l:List (Ent α)}{d:List Rdn}(h:¬OkD d):xM P l d=(0,[]):=by
 obtain⟨h1,h2,h3⟩:=Fw P d l [];have e:NY P d [] l=[]:=by rcases h3 with e|⟨y,hy,hu,_,e⟩;exact e;exact absurd (bL.1 hu).1 h
 unfold xM;rw[e,if_neg];intro c;have:d=[]:=by simpa using c.symm
 subst this;exact h OkD.nil
theorem adf{α:Type}{P:List Rdn->Bool}{l:List (Ent α)}{b:Bool}:tI P l b []=(0,[]):=by cases b<;>rfl
theorem Wq{P:List Rdn->Bool}{l:List aA}{d:List Rdn}{k:Nat}{R:Int×List Rdn}(hn:∀x,atE l (d.drop k)=some x->P x.nm=true->False)(hk:k<=d.length)(h:tI P l (decide (k=0)) (d.drop k)=R):
  (k+1<=d.length->tI P l (decide (k+1=0)) (d.drop (k+1))=R)/\(k+1=d.length+1->R=(0,[])):=by
 constructor;intro h1;have e:d.drop k=d[k]::d.drop (k+1):=ajY amM;rw[e]at hn h;rw[tI]at h;rw[show decide (k+1=0)=false from by simp,<- h];cases hf:atE l (d[k]::d.drop (k+1))with
 |none=>rfl
 | some x =>
   simp only;by_cases hp:P x.nm=true
   .exact(hn x hf hp).elim
   .rw[if_neg hp]
 intro h1;rw[ala amM,adf]at h;exact h.symm
theorem Ws{P:List Rdn->Bool}{l:List aA}{d:List Rdn}{k:Nat}{R:Int×List Rdn}(hn:Wn l)(hx:atE l (d.drop k)=some x)(hp:P x.nm=true)(h:tI P l (decide (k=0)) (d.drop k)=R):
  R=if k=0 then(x.id,[])else(0,x.nm):=by
 cases hs:d.drop k with
 | nil =>
   rw[hs]at hx;obtain⟨_,h2,h3⟩:=bW hx;exact absurd (JQ.1 (by rw[h3];rfl)) (hn.ne x h2)
 | cons r s =>
   rw[hs]at hx h;rw[tI,hx]at h;simp only[hp,if_true,decide_eq_true_eq]at h;exact h.symm
theorem agY{L:List Blk}{iv mn mi:Nat}{nb bn:Int->Nat}{ck ci:Nat}{rs:List TKy}{suf:List Rdn}{last:Int}{l:List aA}(ht:TOk suf last l)(hb:∀x∈l,x.av.length<=1100000/\∀a∈x.av,a.2.length<=1100000)(hc:bO L iv mn mi nb bn ck ci rs suf last l){P:List Rdn->Bool}{wh:AV}(hP:∀x∈l,Hid (∀{K:ajq},K (.bool (P x.nm)) L->ajp 26 [.ptr ib 0,wh,.sl (x.nm.map ah) x.nm.length none,.str [],.int .i64 1] L K)){d:List Rdn}{cd:Option Nat}(hd:dnB d){K:ajq}(h:K (ZJ (xM P l d)) L):
  ajp 10 [.ptr iv 0,.ptr ib 0,wh,.sl (d.map ah) d.length cd] L K:=by
 have kk1:Hid (Ctr Tryz.prog 36 [.sl (d.map ah) d.length cd] (iQ (prS d))):=@hid _ (λ{L K} q=>jm hd.1 hd.2 q);obtain⟨⟨p1,e1⟩,hp1⟩:∃q,prS d=q:=⟨_,rfl⟩;have o1:OkD d↔e1=0:=by unfold OkD;rw[hp1]
 rw[hp1]at kk1;simp only[iQ]at kk1;by_cases c1:e1=0;have hod:=o1.2 c1;subst c1;rw[<- afy ht.nms hod]at h;obtain⟨R,hR⟩:=ajl (tI P l true d);rw[hR]at h;replace h:=hid h;replace hR:=hid hR;replace hb:=hid hb;replace ht:=hid ht;replace hc:=hid hc;replace hP:=hid hP;have hdl:=hd.1;have hw1:IntKind.i64.wrap ((d.length:Int)+1)=(d.length:Int)+1:=ae amM amM;clear hp1 o1;refine ajo ta ?_;refine aq (λm T' L'=>∃k:Nat,m=d.length+1-k/\k<=d.length+1/\Hid (k<=d.length->tI P l (decide (k=0)) (d.drop k)=R)/\Hid (k=d.length+1->R=(0,[]))/\T'=[(26,.int .i64 (k:Int)),(25,.int .i64 ((d.length:Int)+1)),(0,.ptr iv 0),(1,.ptr ib 0),(2,wh),(3,.sl (d.map ah) d.length cd)]/\L=L') amQ ⟨0,rfl,aju _,hid (λ_=>hR.o),hid (λc=>amM),rfl,rfl⟩ ?_;clear hR kk1;rintro _ _ _ ⟨k,rfl,hk,hI,hI0,rfl,rfl⟩;by_cases hlt:k<d.length+1;have g1:(k:Int)<(d.length:Int)+1:=amM;have g2:=ajn k amM;have g3:k<=d.length:=amM;have hs:dnB (d.drop k):=⟨by simp;omega,λr hr=>hd.2 r (List.mem_of_mem_drop hr)⟩;have hI2:=hI.o g3;have hI5:=hI.o g3;obtain⟨s,hss⟩:=ajl (d.drop k);have hsl:s.length=d.length-k:=by rw[<- hss];simp
 have hmap:(d.map ah).drop k=s.map ah:=by rw[<- hss,List.map_drop]
 rw[hss]at hs hI2;have kk1:Hid (∀{c:Option Nat}{K:ajq},K (.int .i64 (aV l s)) L->ajp 24 [.ptr iv 0,.sl (s.map ah) (d.length-k) c] L K):=@hid _ (λ{c K} q=>by rw[<- hsl];exact qB hs ht.o hc.o q);have htk:List.take (d.length-k) (s.map ah)=s.map ah:=aj3 (by simp;omega);obtain⟨id,hid_⟩:=ajl (aV l s);rw[hid_]at kk1;by_cases hz:id=0;have hst:=Wq (P:=P) (λx hx _=>by rw[hss]at hx;have:=ht.o.ids x (bW hx).2.1;unfold aV at hid_;rw[hx]at hid_;simp only at hid_;omega) g3 hI5;have hI3:=hid hst.1;have hI4:=hid hst.2;clear hst;subst hz;clear hI hI0 hI2 hI5 hss hid_ hs;refine wk ?_;exact amR amM amP ⟨k+1,rfl,amM,hI3,hI4,rfl,rfl⟩;obtain⟨x,hx,hxi,hxa⟩:∃x,x∈l/\x.id=id/\atE l s=some x:=by
  unfold aV at hid_;cases hf:atE l s with
  |none=>rw[hf]at hid_;exact absurd hid_.symm hz
  |some x=>rw[hf]at hid_;exact⟨x,(bW hf).2.1,hid_,rfl⟩
 have kk2:Hid (∀{K:ajq},K (.tup [dnA x.nm,atR x.av]) L->ajp 25 [.ptr iv 0,.int .i64 id] L K):=@hid _ (λ{K} q=>Yf ht.o hb.o hc.o (λe=>by rw[<- hxi,ht.o.ent hx]at e;cases e) (λy e=>by rw[<- hxi,ht.o.ent hx]at e;cases e;exact q));have kk3:=@Hid.o _ hP x hx;obtain⟨pb,hpb⟩:=ajl (P x.nm);rw[hpb]at kk3;have hxb:atE l (d.drop k)=some x:=by rw[hss];exact hxa
 obtain⟨xi,xn,xv⟩:=x;simp only at kk2 kk3 hxi;cases pb with
 | false =>
   have hst:=Wq (P:=P) (λy hy hp=>by rw[hss,hxa]at hy;cases hy;have:=hpb.symm.trans hp;cases this) g3 hI5;have hI3:=hid hst.1;have hI4:=hid hst.2;clear hst;clear hI hI0 hI2 hI5 hss hid_ hs hxa hxb hpb;refine wk ?_;exact amR amM amP ⟨k+1,rfl,amM,hI3,hI4,rfl,rfl⟩
 | true =>
   by_cases hk0:k=0
   .have hR2:=hid (show R=(id,[])by have:=Ws ht.o.nms hxb hpb hI5;rw[if_pos hk0]at this;rw[this,<- hxi]);have g5:decide ((k:Int)=0)=true:=(by simp[hk0]);clear hI hI0 hI2 hI5 hss hid_ hs hxa hxb hpb hk0;refine wk ?_;refine aJ ?_;exact ac (by have:=h.o;rw[hR2.o]at this;exact this)
   .have hR2:=hid (show R=(0,xn)by have:=Ws ht.o.nms hxb hpb hI5;rw[if_neg hk0]at this;exact this);have g5:decide ((k:Int)=0)=false:=(by simp[hk0]);clear hI hI0 hI2 hI5 hss hid_ hs hxa hxb hpb hk0;refine wk ?_;exact ac (by have:=h.o;rw[hR2.o]at this;exact this)
 have g1:¬(k:Int)<(d.length:Int)+1:=amM;have hR2:=hid (hI0.o amM);clear hI hI0;refine wk ?_;refine aJ ?_;exact ac (by have:=h.o;rw[hR2.o]at this;exact this);rw[adb (λc=>c1 (o1.1 c))]at h;replace h:=hid h;clear hp1 o1;refine ajo ta ?_;refine aJ ?_;exact ac h.o
variable {L:List Blk}{K:ajq}
def dQ:List Rdn:=[[([100,99],[122])]]
theorem Ym:OkD dQ:=by unfold OkD dQ;kernel_rfl
theorem aa1(h:K (dnA dQ) L):ajp 31 [] L K:=by replace h:=hid h;refine ajo Rh ?_;exact aJ (ac h.o)
theorem adC{d:List Rdn}(hd:Tg d){L:List Blk}{c0 c1 c2:Option Nat}{K:ajq}(h:K (.bool (smU ⟨0,d,[],[]⟩)) L):
  ajp 8 [.agg [.int .i64 0,.sl (d.map ah) d.length c0,.sl [] 0 c1,.sl [] 0 c2]] L K:=by
 refine gZ ?_;have:=Un (u:=⟨0,d,[],[]⟩) hd ⟨amN,amN⟩ amN amN h;have e:AV.frzL [.agg [.int .i64 0,.sl (d.map ah) d.length c0,.sl [] 0 c1,.sl [] 0 c2]]=[AV.agg (oJ ⟨0,d,[],[]⟩)]:=by simp only[AV.frzL,AV.frz,aY,oJ,dnA];rfl
 rw[e];exact this
def Kp(L:List Blk)(i ib:Nat)(w m s b:List AV):Prop:=(L[i]?=some (.cells w)/\w.length=3)/\(L[i+1]?=some (.cells m)/\m.length=5)/\(L[i+2]?=some (.cells s)/\s.length=2)/\(L[ib]?=some (.cells b)/\b.length=2)
theorem Kp.app{L:List Blk}{b:List AV}(h:Kp L i ib w m s b)(X:List Blk):Kp (L++X) i ib w m s b:=by
 obtain⟨⟨h1,z1⟩,⟨h2,z2⟩,⟨h3,z3⟩,h4,z4⟩:=h;have up:∀{j:Nat}{c:List AV},L[j]?=some (Blk.cells c)->(L++X)[j]?=some (Blk.cells c):=λe=>ajm e
 exact⟨⟨up h1,z1⟩,⟨up h2,z2⟩,⟨up h3,z3⟩,up h4,z4⟩
theorem Kp.tree{L:List Blk}{b:List AV}(h:Kp L i ib w m s b){iv mn mi:Nat}{nb bn:Int->Nat}{ck ci:Nat}{rs:List TKy}{suf:List Rdn}{last:Int}{l:List aA}(hc:bO L iv mn mi nb bn ck ci rs suf last l)(hb:aF (OfT iv mn mi nb l) L L'):Kp L' i ib w m s b:=by
 obtain⟨⟨h1,z1⟩,⟨h2,z2⟩,⟨h3,z3⟩,h4,z4⟩:=h;have up:∀{j:Nat}{c:List AV},L[j]?=some (Blk.cells c)->c.length≠4->L'[j]?=some (Blk.cells c):=λe z=>hb.get e (hc.noOf e (.inl z))
 exact⟨⟨up h1 amM,z1⟩,⟨up h2 amM,z2⟩,⟨up h3 amM,z3⟩,up h4 amM,z4⟩
theorem Kp.row{L:List Blk}{b:List AV}(h:Kp L i ib w m s b){c:List AV}(hr:L[rt]?=some (.cells c))(hl:c.length=3)(hi:i≠rt)(hb:aF (λj=>j=rt) L L'):Kp L' i ib w m s b:=by
 obtain⟨⟨h1,z1⟩,⟨h2,z2⟩,⟨h3,z3⟩,h4,z4⟩:=h;have up:∀{j:Nat}{c:List AV},L[j]?=some (Blk.cells c)->j≠rt->L'[j]?=some (Blk.cells c):=λe z=>hb.get e z
 have ne:∀{j:Nat}{d:List AV},L[j]?=some (Blk.cells d)->d.length≠3->j≠rt:=λ{j d} e z q=>by subst q;rw[hr]at e;cases e;exact z hl
 exact⟨⟨up h1 hi,z1⟩,⟨up h2 (ne h2 amM),z2⟩,⟨up h3 (ne h3 amM),z3⟩,up h4 (ne h4 amM),z4⟩
def agC(S:List Rdn)(s:List aA×Int)(u:Upd):List aA×Int:=if(mf aN [] u.attrs).2≠0 then s else doT S s.1 s.2 u.kind u.dn u.tw (mf aN [] u.attrs).1
def JP(S:List Rdn)(us:List Upd):List aA×Int:=us.foldl (agC S) ([],0)
def mc(L L':List Blk):Prop:=L.length<=L'.length/\∀(j:Nat) (c:List AV),L[j]?=some (Blk.cells c)->c.length=12->L'[j]?=some (Blk.cells c)
theorem mc.refl(L:List Blk):mc L L:=⟨ajs _,λ_ _ h _=>h⟩
theorem mc.app{L:List Blk}(h:mc L L')(X:List Blk):mc L (L'++X):=⟨by have:=h.1;simp;omega,λj c h1 h2=>by have:=h.2 j c h1 h2;rw[ajw (ajr.1 this).1];exact this⟩
theorem mc.trans{B C:List Blk}(h:mc A B)(g:mc B C):mc A C:=⟨ajU h.1 g.1,λj c h1 h2=>g.2 j c (h.2 j c h1 h2) h2⟩
def aaP(us:List Upd)(adm:List Rdn)(rs:List Rul):Prop:=us.length<=30/\rs.length<=20/\smU ⟨0,adm,[],[]⟩=true/\OkD adm/\OH aN rs=0/\∀u∈us,smU u=true
theorem abr{us:List Upd}{cu:Option Nat}{adm:List Rdn}{ca:Option Nat}{rs:List Rul}{cr:Option Nat}(hu:∀u∈us,aaJ u)(hun:(us.length:Int)<=9223372036854775807)(hrn:(rs.length:Int)<=9223372036854775807)(hat:∀r∈rs,a8 r.at_)(ha:Tg adm/\∀r∈adm,∀a∈r,(a.1.length:Int)<=140737488351232){L:List Blk}{K:ajq}(h0:¬aaP us adm rs->∀L',K (.tup [.agg [.nilptr,.nilptr,.nilptr,.sl [] 0 (some 0),.sl [] 0 (some 0)],.bool false]) L')(h1:∀L' it iv mn mi rt nb bn ck ci trs c last l ib cb,Zz L' it iv mn mi rt nb bn ck ci trs c dQ last l->L'[ib]?=some (.cells [dnA adm,.sl (iL rs) rs.length cb])->dnM adm->(∀r∈rs,bkE aN r=0)->rs.length<=20->(l,last)=JP dQ us->us.length<=30->mc L L' ->
   K (.tup [.agg [.ptr it 0,.ptr ib 0,.ptr rt 0,.sl (adm.map ah) adm.length ca,.sl (dz rs) rs.length cr],.bool true]) L'):
  ajp 7 [.agg [.sl (us.flatMap oJ) us.length cu,.sl (adm.map ah) adm.length ca,.sl (dz rs) rs.length cr]] L K:=by
 obtain⟨sm,hsm⟩:=ajl (smU ⟨0,adm,[],[]⟩);have kk1:Hid (Ctr Tryz.prog 31 [] (dnA dQ)):=@hid _ (λ{L K} q=>aa1 q);obtain⟨TS,hTS⟩:=ajl (cq aN);obtain⟨tl,htl⟩:=ajl (aN.length);obtain⟨CS,hCS⟩:=ajl (Zm);have kk2:Hid (Ctr Tryz.prog 15 [] (.agg [.sl TS tl none,.sl CS 9 none])):=@hid _ (λ{L K} q=>aaD (by rw[hTS,hCS,htl];exact q));have kk3:Hid (∀{L:List Blk}{c1 c2:Option Nat}{K:ajq},K (.bool sm) L->ajp 8 [.agg [.int .i64 0,.sl (adm.map ah) adm.length ca,.sl [] 0 c1,.sl [] 0 c2]] L K):=@hid _ (λ{L c1 c2 K} q=>adC ha.1 (by rw[hsm];exact q));have kA:Hid (us.length<=us.length->dnB adm->rs.length<=20->∀{L:List Blk}{K:ajq},(∀e,e≠0->(¬OkD adm\/OH aN rs≠0)->K (.tup [.nilptr,.int .i64 e]) L)->(OkD adm->OH aN rs=0->∀ib X c,(L++X)[ib]?=some (.cells [dnA adm,.sl (iL rs) rs.length c])->K (.tup [.ptr ib 0,.int .i64 0]) (L++X))->ajp 33 [.agg [.sl TS tl none,.sl CS 9 none],.sl (adm.map ah) adm.length ca,.sl (dz rs) rs.length cr] L K):=@hid _ (λ_ hd hn {L K} q0 q1=>by rw[<- hTS,<- hCS,<- htl];exact ahX ⟨jt.1,jt.2.1⟩ hd amM hat q0 q1);have kM:Hid (∀(l:List Atr) (cap:Option Nat),l.length<=100->(∀a∈l,a8 a.1/\a.2.length<=9000)->∀{L:List Blk}{K:ajq},K (.tup [.sl (aB (mf aN [] l).1) (mf aN [] l).1.length none,.int .i64 (mf aN [] l).2]) L->ajp 14 [.agg [.sl TS tl none,.sl CS 9 none],.sl (aB l) l.length cap] L K):=@hid _ (λl cap hl hv {L K} q=>by rw[<- hTS,<- hCS,<- htl];exact aa8 jt hl hv rfl q);obtain⟨S24,hS⟩:=ajl (dQ);have ho:OkD S24:=by rw[<- hS];exact Ym
 have hne:S24≠[]:=by rw[<- hS];decide
 have hdm:dnM S24:=ho.m;rw[hS]at h1 kk1;have hul:=abH us;have hat2:=hid (λk (q:k<us.length)=>Yh q);obtain⟨US,hUS⟩:=ajl (us.flatMap oJ);rw[hUS]at hul hat2⊢;replace h0:=hid h0;replace h1:=hid h1;replace hat:=hid hat;replace hu:=hid hu;replace hsm:=hid hsm;replace ha:=hid ha;replace hTS:=hid hTS;replace hCS:=hid hCS;replace htl:=hid htl;replace hS:=hid hS;replace hne:=hid hne;replace ho:=hid ho;replace hdm:=hid hdm;clear hUS;refine ajo yy ?_;refine afD hdm.o.b (λe=>absurd ho.o e) (λe=>absurd e hne.o) λ_ _=>?_
 refine amU ?_;refine ahu hdm.o (λe=>absurd ho.o e) (λe=>absurd e hne.o) λ_ _=>?_
 refine sk ?_;by_cases hc:us.length<=30/\rs.length<=20/\sm=true;rotate_left;have q1:(decide ((30:Int)<(us.length:Int)\/(20:Int)<(rs.length:Int)) || !sm)=true:=by rcases sm with _|_;simp;simp only[alc,al6,decide_eq_true_eq];simp only[and_true,not_and]at hc;omega
 replace hc:=hid hc;refine wk ?_;exact ac (h0.o (λg=>hc.o ⟨g.1,g.2.1,by rw[<- hsm.o];exact g.2.2.1⟩) _);obtain⟨c1,c2,rfl⟩:=hc;have q1:decide ((30:Int)<(us.length:Int)\/(20:Int)<(rs.length:Int))=false:=decide_eq_false amM;refine wk ?_;have hadm:dnM adm:=by have:=hsm.o;simp only[smU,ajv]at this;exact Yp this.1 ha.o.2
 replace hadm:=hid hadm;clear kk3 q1;refine kA.o (ajs _) hadm.o.b c2 (λe he hca=>?_) (λhoa hz ib X c hib=>?_);replace hca:=hid hca;refine amU ?_;exact ac (h0.o (λg=>hca.o.elim (λq=>q g.2.2.2.1) λq=>q g.2.2.2.2.1) _);refine amU ?_;have hz':=hid (Xa.1 hz);obtain⟨L2,hL2⟩:=ajl (L++Blk.cells [AV.sl US us.length cu,AV.sl (adm.map ah) adm.length ca,AV.sl (dz rs) rs.length cr]::Blk.cells [AV.nilptr,AV.nilptr,AV.nilptr,AV.sl [] 0 (some 0),AV.sl [] 0 (some 0)]::Blk.cells [AV.sl TS tl none,AV.sl CS 9 none]::Blk.map [] 0::Blk.map [] 0::Blk.cells [dnA S24,AV.lmap (L.length+3),AV.lmap (L.length+3+1),AV.int IntKind.i64 0]::Blk.cells [AV.ptr (L.length+3+2) 0]::Blk.cells [dnA S24,AV.sl [] 0 (some 0),AV.int IntKind.i64 0]::X);have hK0:Hid (Kp L2 L.length ib [AV.sl US us.length cu,AV.sl (adm.map ah) adm.length ca,AV.sl (dz rs) rs.length cr] [AV.nilptr,AV.nilptr,AV.nilptr,AV.sl [] 0 (some 0),AV.sl [] 0 (some 0)] [AV.sl TS tl none,AV.sl CS 9 none] [dnA adm,.sl (iL rs) rs.length c]):=hid ⟨⟨by rw[<- hL2];simp,rfl⟩,⟨by rw[<- hL2];simp,rfl⟩,⟨by rw[<- hL2];simp,rfl⟩,by rw[<- hib,<- hL2];simp,rfl⟩;have hM0:Hid (∃nb bn ck ci trs c last l,Zz L2 (L.length+3+3) (L.length+3+2) (L.length+3) (L.length+3+1) (L.length+7) nb bn ck ci trs c S24 last l/\last<=(0:Nat)/\l.length<=0/\(l,last)=JP S24 (us.take 0)):=hid (by have hcs:=bO.start (L++[Blk.cells [AV.sl US us.length cu,AV.sl (adm.map ah) adm.length ca,AV.sl (dz rs) rs.length cr],Blk.cells [AV.nilptr,AV.nilptr,AV.nilptr,AV.sl [] 0 (some 0),AV.sl [] 0 (some 0)],Blk.cells [AV.sl TS tl none,AV.sl CS 9 none]]) S24;have hcs2:=hcs.app ([Blk.cells [dnA S24,AV.sl [] 0 (some 0),AV.int IntKind.i64 0]]++X);simp only[ajA,ajz,aj9,ajD,akd,aj0,akw,Nat.reduceAdd]at hcs2;refine⟨λ_=>0,λ_=>0,0,0,[],some 0,0,[],⟨TOk.nil ho.o hne.o,?_,?_,?_,amM,alY _,by decide,amN,amN⟩,alY _,ajs _,rfl⟩;rw[<- hL2];exact hcs2;rw[<- hL2,ajG amM,show L.length+3+3-L.length=6 by omega];rfl;rw[<- hL2,ajG amM,show L.length+7-L.length=7 by omega];rfl)
 have hLl:L.length+8<=L2.length:=by rw[<- hL2];simp
 have hkL:Hid (mc L L2):=hid (by rw[<- hL2];exact(mc.refl L).app _);replace hLl:=hid hLl;rw[hL2];clear hL2 hib kk1 kk2 hz kA hoa;refine aq (λm T' L'=>∃j:Nat,m=us.length-j/\j<=us.length/\Hid (mc L2 L')/\Hid (∃nb bn ck ci trs c last l,Zz L' (L.length+3+3) (L.length+3+2) (L.length+3) (L.length+3+1) (L.length+7) nb bn ck ci trs c S24 last l/\last<=(j:Int)/\l.length<=j/\(l,last)=JP S24 (us.take j))/\Hid (Kp L' L.length ib [AV.sl US us.length cu,AV.sl (adm.map ah) adm.length ca,AV.sl (dz rs) rs.length cr] [AV.nilptr,AV.nilptr,AV.nilptr,AV.sl [] 0 (some 0),AV.sl [] 0 (some 0)] [AV.sl TS tl none,AV.sl CS 9 none] [dnA adm,.sl (iL rs) rs.length c])/\T'=[(70,.int .i64 (j:Int)),(69,.int .i64 us.length),(68,.sl US us.length cu),(9,.ptr ib 0),(7,.ptr (L.length+7) 0),(5,.ptr (L.length+3+3) 0),(4,.ptr (L.length+2) 0),(3,.bool false),(2,.ptr (L.length+1) 0),(1,.ptr L.length 0)]) (CutS (b:=ajs _)) ⟨0,rfl,aju _,hid (mc.refl _),hM0,hK0,rfl⟩ ?_;clear hM0 hK0;rintro _ _ L' ⟨j,rfl,hj,hle,hM,hK,rfl⟩;obtain⟨⟨k1,_⟩,⟨k2,_⟩,⟨k3,_⟩,k4,_⟩:=hK.o;by_cases hjl:j<us.length
 .have j3:(j:Int)<(us.length:Int):=amM;have j4:=ajn j amM;have e4:j*4+4<=US.length:=amM;have e5:=hat2.o j hjl;have hq:=hu.o (us.getD j ad4) (by simp[hjl]);obtain⟨u,hu'⟩:=ajl (us.getD j ad4);rw[hu']at e5 hq;have hstep:JP S24 (us.take (j+1))=agC S24 (JP S24 (us.take j)) u:=by have htk:us.take (j+1)=us.take j++[u]:=(by rw[ajN hjl,<- hu'];simp[hjl]);rw[htk,JP,alS];rfl
  obtain⟨sm,hsm2⟩:=ajl (smU u);have kk1:Hid (Ctr Tryz.prog 8 [.agg (oJ u)] (.bool sm)):=@hid _ (by intro L K q;exact Un hq.dn.1 hq.tw.1 hq.attrs (λa ha=>(hq.names a ha).2) (by rw[hsm2];exact q));obtain⟨Lb,hLb⟩:=ajl (L'++[Blk.cells (oJ u)]);have hKb:Hid (Kp Lb L.length ib _ _ _ _):=hid (by rw[<- hLb];exact hK.o.app _);obtain⟨⟨b1,_⟩,⟨b2,_⟩,⟨b3,_⟩,b4,_⟩:=hKb.o;have hbox:Lb[L'.length]?=some (.cells (oJ u)):=(by rw[<- hLb];simp);have hle2:=hle.o.1;have hll:=hLl.o;have hLbl:Lb.length=L'.length+1:=(by rw[<- hLb];simp);have hno:Hid (sm=false->¬aaP us adm rs):=hid (λe g=>by have:=g.2.2.2.2.2 u (by rw[<- hu'];simp[hjl]);rw[hsm2,e]at this;cases this);obtain⟨uk,ud,ut,ua⟩:=u;simp only[oJ]at e5 kk1 hLb hbox;clear hu' k1 k2 k3 k4;cases sm with
  | false =>
    have hset:∀b,(Lb.set (L.length+1) b)[L.length+1]?=some b:=λb=>by rw[akY amM]
    clear hM hsm2 hq b4 hstep;refine wk ?_;exact ac (h0.o (hno.o rfl) _)
  | true =>
    obtain⟨hdn,htn,hav⟩:=aiq hq hsm2;obtain⟨f1,f2⟩:=XQ (show XR ua=true by have:=hsm2;simp only[smU,ajv]at this;exact this.2.2);have kk2:Hid (∀{cap:Option Nat}{L:List Blk}{K:ajq},K (.tup [.sl (aB (mf aN [] ua).1) (mf aN [] ua).1.length none,.int .i64 (mf aN [] ua).2]) L->ajp 14 [.agg [.sl TS tl none,.sl CS 9 none],.sl (aB ua) ua.length cap] L K):=@hid _ (λ{cap L K} q=>kM.o ua cap amM (λa ha=>⟨(hq.names a ha).1,by have:=(f2 a ha).1;omega⟩) q);have hbd:=Z7 (ts:=aN) (B:=60) (l:=ua) (out:=[]) (i:=0) amN amN (λa ha=>(f2 a ha).1);obtain⟨⟨mk,code⟩,hmk⟩:∃p,mf aN [] ua=p:=⟨_,rfl⟩;rw[hmk]at kk2 hbd;have hs0:=hid (λe:code≠0=>(show JP S24 (us.take (j+1))=JP S24 (us.take j)by rw[hstep,agC,hmk,if_pos e]));have hs1:=hid (λe:code=0=>(show JP S24 (us.take (j+1))=doT S24 (JP S24 (us.take j)).1 (JP S24 (us.take j)).2 uk ud ut mk by rw[hstep,agC,hmk,if_neg (by simpa using e)]));simp only at hbd;have hmav:XZ mk:=⟨by have:=hbd.1;omega,λa ha=>by have:=hbd.2 a ha;omega⟩;replace hmav:=hid hmav;simp only at kk2;clear hmk hbd f1 f2 hsm2 hq hav hstep;by_cases hcode:code=0;rotate_left
    .have hK2:=hKb;have hle3:Hid (mc L2 Lb):=hid (by rw[<- hLb];exact hle.o.app _);have hM2:Hid (∃nb bn ck ci trs c last l,Zz Lb (L.length+3+3) (L.length+3+2) (L.length+3) (L.length+3+1) (L.length+7) nb bn ck ci trs c S24 last l/\last<=((j+1:Nat):Int)/\l.length<=j+1/\(l,last)=JP S24 (us.take (j+1))):=hid (by obtain⟨nb,bn,ck,ci,trs,c,last,l,hm,h1,h2,h3⟩:=hM.o;refine⟨nb,bn,ck,ci,trs,c,last,l,?_,amM,amM,by rw[hs0.o hcode];exact h3⟩;rw[<- hLb];exact⟨hm.ok,hm.code.app _,ajm hm.it,ajm hm.rt,hm.ne,hm.l0,hm.l1,hm.len,hm.av⟩)
     clear hM b4 b1 b2 hs0 hs1;refine wk ?_;exact amR amM (CutL (b:=amM)) ⟨j+1,rfl,amM,hle3,hM2,hK2,rfl⟩
    .subst hcode;have hsetb:∀b,(Lb.set L'.length b)[L'.length]?=some b:=λb=>by rw[akY amM]
     refine wk ?_;obtain⟨L3,hL3⟩:=ajl (Lb.set L'.length (Blk.cells [AV.int .i64 uk,dnA ud,dnA ut,AV.sl (aB mk) mk.length none]));have hbx:L3[L'.length]?=some (Blk.cells [AV.int .i64 uk,dnA ud,dnA ut,AV.sl (aB mk) mk.length none]):=(by rw[<- hL3];exact hsetb _);obtain⟨nb,bn,ck,ci,trs,c',last,l,hm,hla,hln,hbl⟩:=hM.o;have hbl2:((doT S24 l last uk ud ut mk).1,(doT S24 l last uk ud ut mk).2)=JP S24 (us.take (j+1)):=(by rw[hs1.o rfl,<- hbl]);have hbs:aF (λi=>i=L'.length) Lb L3:=(by rw[<- hL3];exact⟨amN,λi hi hn=>by rw[ajJ amM]⟩);have hcb:bO Lb (L.length+3+2) (L.length+3) (L.length+3+1) nb bn ck ci trs S24 last l:=(by rw[<- hLb];exact hm.code.app _);have no:¬OfT (L.length+3+2) (L.length+3) (L.length+3+1) nb l L'.length:=hcb.noOf hbox (.inr ⟨_,_,_,rfl⟩);have key:∀{i:Nat}{b:Blk},OfT (L.length+3+2) (L.length+3) (L.length+3+1) nb l i->Lb[i]?=some b->L3[i]?=some b:=λ{i b} ho e=>hbs.get e λe2=>no (by rw[<- e2];exact ho)
     have hc3:bO L3 (L.length+3+2) (L.length+3) (L.length+3+1) nb bn ck ci trs S24 last l:=⟨key (.inl rfl) hcb.v,key (.inr (.inl rfl)) hcb.n,key (.inr (.inr (.inl rfl))) hcb.i,λx hx=>key (.inr (.inr (.inr ⟨x,hx,rfl⟩))) (hcb.nd x hx),hcb.keys,hcb.mem,hcb.bnd,hcb.blt⟩;have up:∀{i:Nat}{b:Blk},L'[i]?=some b->L3[i]?=some b:=λ{i b} e=>hbs.get (by rw[<- hLb,ajw (ajr.1 e).1];exact e) (by have:=(ajr.1 e).1;omega)
     have hK3:Kp L3 L.length ib _ _ _ _:=⟨⟨up hK.o.1.1,hK.o.1.2⟩,⟨up hK.o.2.1.1,hK.o.2.1.2⟩,⟨up hK.o.2.2.1.1,hK.o.2.2.1.2⟩,up hK.o.2.2.2.1,hK.o.2.2.2.2⟩;have hl1:=hm.l1;have hln2:=hm.len;have hrt3:=up hm.rt;have hL3l:L3.length=L'.length+1:=(by rw[<- hL3];simp;omega);obtain⟨d1,d2,d3,d4⟩:=hm.ok.done hm.l0 uk ud ut mk;rw[hL3];refine aio hm.ok hm.ne amM hm.l0 amM (up hm.it) hc3 hdn.b htn.b hmav.o.1 hmav.o.2 λL4 nb' bn' ck' ci' trs' q1 q2 q3=>?_
     have hbx4:L4[L'.length]?=some (Blk.cells [AV.int .i64 uk,dnA ud,dnA ut,AV.sl (aB mk) mk.length none]):=q3.get hbx (hc3.noOf hbx (.inr ⟨_,_,_,rfl⟩));have hK4:=hK3.tree hc3 q3;have hrt4:=q3.get hrt3 (hc3.noOf hrt3 (.inl amN));have hk4:mc L2 L4:=⟨by have a3:=q3.len;omega,λj c e1 e2=>by have e3:=up (hle.o.2 j c e1 e2);exact q3.get e3 (hc3.noOf e3 (.inl amM))⟩;have kk3:Hid (∀{K:ajq},(∀L5,Hid (∃nb bn ck ci trs c last l,Zz L5 (L.length+3+3) (L.length+3+2) (L.length+3) (L.length+3+1) (L.length+7) nb bn ck ci trs c S24 last l/\last<=((j+1:Nat):Int)/\l.length<=j+1/\(l,last)=JP S24 (us.take (j+1)))->Hid (Kp L5 L.length ib [AV.sl US us.length cu,AV.sl (adm.map ah) adm.length ca,AV.sl (dz rs) rs.length cr] [AV.nilptr,AV.nilptr,AV.nilptr,AV.sl [] 0 (some 0),AV.sl [] 0 (some 0)] [AV.sl TS tl none,AV.sl CS 9 none] [dnA adm,.sl (iL rs) rs.length c])->Hid (mc L2 L5)->K (.int .i64 (fe S24 l uk ud ut)) L5)->ajp 35 [.ptr (L.length+7) 0,.agg [.int .i64 uk,dnA ud,dnA ut,.sl (aB mk) mk.length none]] L4 K):=@hid _ (by
      intro K q;refine air hm.ok amM hm.l0 amM hrt4 hdn htn hmav.o.1 hmav.o.2 λL5 c5 r1 r2=>?_
      refine q L5 (hid ⟨nb',bn',ck',ci',trs',c5,_,_,⟨d1,q1.keep hrt4 rfl r2,r2.get q2 λe=>?_,r1,hm.ne,Int.le_trans hm.l0 d2,amM,amM,ahP hm.av hmav.o⟩,amM,amM,hbl2⟩) (hid (hK4.row hrt4 rfl amM r2)) (hid ?_)
      .rw[e,hrt4]at q2;simp at q2
      .exact⟨by have a2:=r2.len;have:=hk4.1;omega,λj c e1 e2=>r2.get (hk4.2 j c e1 e2) λe=>by have e3:=hk4.2 j c e1 e2;rw[e,hrt4]at e3;cases e3;simp at e2⟩)
     clear hk4 hs0 hs1 hbl hbl2 hbs hcb no key hc3 up hK3 hl1 hln2 hrt3 d1 d2 d3 d4 hm hla hln hK4 hrt4 q1 q2 q3 hL3 hL3l hbx hsetb hLb hbox b1 b2 b3 b4 hKb;refine amU ?_;intro L5 hM5 hK5 hl5;refine wk ?_;exact amR amM (CutL (b:=hl5.o.1)) ⟨j+1,rfl,hjl,hl5,hM5,hK5,rfl⟩
 have j3:¬(j:Int)<(us.length:Int):=amM;have hset:∀b,(L'.set (L.length+1) b)[L.length+1]?=some b:=λb=>by rw[akY (ajr.1 k2).1]
 obtain⟨nb,bn,ck,ci,trs,c',last,l,hm,_,_,hbl⟩:=hM.o;have hbl2:(l,last)=JP S24 us:=by rw[hbl,aj3 amM]
 have hmt:Zz (L'.set (L.length+1) (Blk.cells [AV.ptr (L.length+3+3) 0,AV.ptr ib 0,AV.ptr (L.length+7) 0,AV.sl (adm.map ah) adm.length ca,AV.sl (dz rs) rs.length cr])) (L.length+3+3) (L.length+3+2) (L.length+3) (L.length+3+1) (L.length+7) nb bn ck ci trs c' S24 last l:=by
  have hb:aF (λi=>i=L.length+1) L' (L'.set (L.length+1) (Blk.cells [AV.ptr (L.length+3+3) 0,AV.ptr ib 0,AV.ptr (L.length+7) 0,AV.sl (adm.map ah) adm.length ca,AV.sl (dz rs) rs.length cr])):=⟨amN,λi hi hn=>by rw[ajJ amM]⟩;have no:¬OfT (L.length+3+2) (L.length+3) (L.length+3+1) nb l (L.length+1):=hm.code.noOf k2 (.inl amN);have key:∀{i:Nat}{b:Blk},OfT (L.length+3+2) (L.length+3) (L.length+3+1) nb l i->L'[i]?=some b->(L'.set (L.length+1) (Blk.cells [AV.ptr (L.length+3+3) 0,AV.ptr ib 0,AV.ptr (L.length+7) 0,AV.sl (adm.map ah) adm.length ca,AV.sl (dz rs) rs.length cr]))[i]?=some b:=λ{i b} ho e=>hb.get e λe2=>no (by rw[<- e2];exact ho)
  have h:=hm.code;exact⟨hm.ok,⟨key (.inl rfl) h.v,key (.inr (.inl rfl)) h.n,key (.inr (.inr (.inl rfl))) h.i,λx hx=>key (.inr (.inr (.inr ⟨x,hx,rfl⟩))) (h.nd x hx),h.keys,h.mem,h.bnd,h.blt⟩,hb.get hm.it amM,hb.get hm.rt amM,hm.ne,hm.l0,hm.l1,hm.len,hm.av⟩
 have hib2:(L'.set (L.length+1) (Blk.cells [AV.ptr (L.length+3+3) 0,AV.ptr ib 0,AV.ptr (L.length+7) 0,AV.sl (adm.map ah) adm.length ca,AV.sl (dz rs) rs.length cr]))[ib]?=some (.cells [dnA adm,.sl (iL rs) rs.length c]):=by rw[ajJ (λe=>by rw[e,k4]at k2;cases k2)];exact k4
 have hfin:=hid (h1.o _ _ _ _ _ _ _ _ _ _ _ _ _ _ _ _ hmt hib2 hadm.o hz'.o c2 hbl2 c1 (by
  have hk:=hkL.o.trans hle.o;exact⟨by have:=hk.1;simp;omega,λj c e1 e2=>by have hj:=(ajr.1 e1).1;rw[ajJ amM];exact hk.2 j c e1 e2⟩))
 clear hmt hib2 hm hM k4 hK hbl hbl2;refine wk ?_;exact ac hfin.o
def dR(Q:List UInt8->Bool)(l:List Atr):List Atr:=l.filter λa=>Q a.1
theorem ahr{Q:List UInt8->Bool}{wh en:AV}{right:Int}{l:List Atr}{cl:Option Nat}(hl:l.length<=1100000)(hz:∀a∈l,a.2.length<=1100000){L:List Blk}{bk:List AV}(hb:L[ib]?=some (.cells bk))(hQ:Hid (∀a∈l,∀{X:List Blk}{K:ajq},K (.bool (Q a.1)) (L++X)->ajp 26 [.ptr ib 0,wh,en,.str a.1,.int .i64 right] (L++X) K)){K:ajq}(h:K (.sl (aB (dR Q l)) (dR Q l).length none) L):
  ajp 28 [.ptr ib 0,wh,en,.sl (aB l) l.length cl,.int .i64 right] L K:=by
 replace h:=hid h;refine ajo OG ?_;refine bK (l:=[]) (n:=0) 11 2 rfl (ajX 2).symm ?_;refine aq (λm T' L'=>∃(k z:Nat) (C:List AV) (X:List Blk),m=l.length-k/\k<=l.length/\z<=k/\Hid (C=aB (dR Q (l.take k))/\z=(dR Q (l.take k)).length)/\T'=[(16,.int .i64 (k:Int)),(15,.int .i64 l.length),(14,.sl (aB l) l.length cl),(11,.gsl C z L.length 2),(0,.ptr ib 0),(1,wh),(2,en),(4,.int .i64 right)]/\L'=L++(.spare z 2::X)) amQ ⟨0,0,[],[],rfl,aju _,ajs _,hid ⟨rfl,rfl⟩,rfl,rfl⟩ ?_;rintro _ _ _ ⟨k,z,C,X,rfl,hk,hzk,hC,rfl,rfl⟩;by_cases hlt:k<l.length;have g1:(k:Int)<(l.length:Int):=amM;have g2:=ajn k amM;have e3:=iw hlt;have e4:k*2+2<=(aB l).length:=by rw[ir];omega
 obtain⟨⟨nm,vs⟩,ha⟩:∃a,l.getD k ([],[])=a:=⟨_,rfl⟩;have hm:(nm,vs)∈l:=by rw[<- ha];simp[hlt]
 have htk:l.take (k+1)=l.take k++[(nm,vs)]:=by rw[ajN hlt,<- ha];simp[hlt]
 have hvs:=hz _ hm;rw[ha]at e3;simp only[atA]at e3 hvs;obtain⟨q,hq⟩:=ajl (Q nm);have kk1:Hid (∀{X:List Blk}{K:ajq},K (.bool q) (L++X)->ajp 26 [.ptr ib 0,wh,en,.str nm,.int .i64 right] (L++X) K):=@hid _ (λ{X K} a=>hQ.o (nm,vs) hm (by rw[hq];exact a));have fv:AV.frzL (vs.map AV.str)=vs.map AV.str:=gu vs;have hs:dR Q (l.take (k+1))=dR Q (l.take k)++(if q=true then[(nm,vs)]else[]):=by rw[htk,dR,dR,alV];congr 1;simp only[alM,List.filter_nil,hq]
 cases q with
 | false =>
   have hC2:=hid (show C=aB (dR Q (l.take (k+1)))/\z=(dR Q (l.take (k+1))).length by rw[hs];simpa using hC.o);clear hC hs htk ha hm hq;refine wk ?_;exact amR amM amP ⟨k+1,z,C,_,rfl,hlt,amM,hC2,rfl,rfl⟩
 | true =>
   have hC2:=hid (show C++[.str nm,.sl (vs.map AV.str) vs.length none]=aB (dR Q (l.take (k+1)))/\z+1=(dR Q (l.take (k+1))).length by rw[hs,hC.o.1,hC.o.2];simp[aB,atA]);clear hC hs htk ha hm hq;refine wk ?_;exact amR amM amP ⟨k+1,z+1,_,_,rfl,hlt,amM,hC2,rfl,rfl⟩
 have hke:k=l.length:=amM;have g1:¬(k:Int)<(l.length:Int):=amM;have hC2:=hC.o;rw[hke,ajL]at hC2;replace hC2:=hid hC2;clear hC hke hlt;refine wk ?_;refine aJ ?_;simp only[AV.frz];rw[hC2.o.1,dM,hC2.o.2];exact ab (by simp only[AV.refs,gX]) h.o
end Go.Proofs.YtdnfjhflkkpokaaGreatDoor.Av
