/- Joined texts of the walk, made small by a program. -/
import Derived.Test.YtdnfjhflkkpokaaGreatDoorKk12
import Derived.Test.YtdnfjhflkkpokaaGreatDoorKk4
import Derived.Test.YtdnfjhflkkpokaaGreatDoorRows
import Derived.KernelRfl
import Derived.Test.YtdnfjhflkkpokaaGreatDoorKk5
import Derived.Test.YtdnfjhflkkpokaaGreatDoorKk10
set_option linter.unusedSimpArgs false
set_option linter.unusedVariables false
namespace Go.Proofs.YtdnfjhflkkpokaaGreatDoor.Av
open Go
variable {ts:List Typ}{names:List (List UInt8)}{tonly:Bool}{time size id s last:Int}{n:Nat}{out:List Fnd}{l:List aA}
set_option maxHeartbeats 8000000
set_option maxRecDepth 100000
theorem adW{capT:Option Nat}{c2:List AV}{n2:Nat}{cap2:Option Nat}(hts:ts.length<=1100000/\∀t∈ts,a8 t.1){l:List Atr}{cl:Option Nat}(hl:l.length<=1100000)(hz:∀a∈l,a8 a.1/\a.2.length<=1100000){cn:Option Nat}(hnl:names.length<=1100000)(hnz:∀n∈names,a8 n)(hcl:Hid (∀{vs:List (List UInt8)}{c:Option Nat},vs.length<=1100000->∀{L:List Blk}{K:ajq},K (.sl (vs.map AV.str) vs.length none) L->ajp 47 [.sl (vs.map AV.str) vs.length c] L K)){L:List Blk}{K:ajq}(h:K (.sl (aB (cW ts names tonly l)) (cW ts names tonly l).length none) L):
  ajp 17 [.agg [.sl (cq ts) ts.length capT,.sl c2 n2 cap2],.sl (aB l) l.length cl,.sl (names.map AV.str) names.length cn,.bool tonly] L K:=by
 have hfind:Hid (∀{n:List UInt8},a8 n->∀{L:List Blk}{K:ajq},K (Fk (fS ts n)) L->ajp 45 [.agg [.sl (cq ts) ts.length capT,.sl c2 n2 cap2],.str n] L K):=@hid _ (λ{n} hn {L K} q=>aeK hts.1 hts.2 hn q);obtain⟨TS,hTS⟩:=ajl (cq ts);obtain⟨tl,htl⟩:=ajl (ts.length);rw[hTS,htl]at hfind⊢;replace h:=hid h;replace hz:=hid hz;replace hnz:=hid hnz;clear hts hTS htl;refine ajo VB ?_;refine bK (l:=[]) (n:=0) 9 2 rfl (ajX 2).symm ?_;rw[show(L++[Blk.cells [.sl TS tl capT,.sl c2 n2 cap2]]).length=L.length+1 from by simp];refine aq (λm T' L'=>∃(k z:Nat) (C:List AV) (X:List Blk),m=l.length-k/\k<=l.length/\z<=k/\Hid (C=aB (cW ts names tonly (l.take k))/\z=(cW ts names tonly (l.take k)).length)/\T'=[(20,.int .i64 (k:Int)),(19,.int .i64 l.length),(18,.sl (aB l) l.length cl),(9,.gsl C z (L.length+1) 2),(4,.ptr L.length 0),(2,.sl (names.map AV.str) names.length cn),(3,.bool tonly)]/\L'=L++(.cells [.sl TS tl capT,.sl c2 n2 cap2] :: .spare z 2::X)) amQ ⟨0,0,[],[],rfl,aju _,ajs _,hid ⟨rfl,rfl⟩,rfl,amN⟩ ?_;rintro _ _ _ ⟨k,z,C,X,rfl,hk,hzk,hC,rfl,rfl⟩;by_cases hlt:k<l.length;have g1:(k:Int)<(l.length:Int):=amM;have g2:=ajn k amM;have e3:=iw hlt;have e4:k*2+2<=(aB l).length:=by rw[ir];omega
 obtain⟨⟨nm,vs⟩,ha⟩:∃a,l.getD k ([],[])=a:=⟨_,rfl⟩;have hm:(nm,vs)∈l:=by rw[<- ha];simp[hlt]
 have htk:l.take (k+1)=l.take k++[(nm,vs)]:=by rw[ajN hlt,<- ha];simp[hlt]
 have hvs:=hz.o _ hm;rw[ha]at e3;simp only[atA]at e3 hvs;have kk1:Hid (Ctr Tryz.prog 45 [.agg [.sl TS tl capT,.sl c2 n2 cap2],.str nm] (Fk (fS ts nm))):=@hid _ (λ{L K} q=>hfind.o hvs.1 q);have kk2:Hid (∀{c:Option Nat}{L:List Blk}{K:ajq},K (.sl (vs.map AV.str) vs.length none) L->ajp 47 [.sl (vs.map AV.str) vs.length c] L K):=@hid _ (λ{c L K} q=>hcl.o hvs.2 q);have kk3:Hid (Ctr Tryz.prog 46 [.str nm] (.str (ag nm))):=@hid _ (λ{L K} q=>xZ hvs.1 q);have hs:cW ts names tonly (l.take (k+1))=cW ts names tonly (l.take k)++(if Fv ts names (nm,vs)=true then[(nm,if tonly then[]else vs)]else[]):=by rw[htk,cW,cW,alV,ajV];congr 1;simp only[alM,List.filter_nil];cases Fv ts names (nm,vs)<;>cases tonly<;>rfl
 obtain⟨⟨t1,t2,t3,o⟩,hty⟩:∃t,(fS ts nm).getD me=t:=⟨_,rfl⟩;have ho:opM ts nm=o:=by unfold opM;rw[hty]
 obtain⟨found,hfo⟩:=ajl ((fS ts nm).isSome);simp only[Fk,hty,hfo,tyC]at kk1;have hw:Fv ts names (nm,vs)=((decide (names=[]) && !o) ||names.any (R7 o nm)):=by unfold Fv;rw[ho]
 rw[hw]at hs;have e0:decide ((names.length:Int)=0)=decide (names=[]):=by cases names<;>simp<;>omega
 obtain⟨b0,hb0⟩:=ajl (decide (names=[]));rw[hb0]at hs e0;obtain⟨fn,hfn⟩:=ajl (ag nm);rw[hfn]at kk3;replace hs:=hid hs;replace hfn:=hid hfn;clear hw ho hty hfo hb0 ha hm htk hvs;refine wk ?_;refine aq (λm T' L'=>∃(j:Nat) (w:Bool),m=names.length-j/\j<=names.length/\Hid (w=((b0 && !o) ||(names.take j).any (R7 o nm)))/\T'=[(41,.int .i64 (j:Int)),(40,.int .i64 names.length),(39,.sl (names.map AV.str) names.length cn),(14,.bool w),(12,.ptr (L.length+(X.length+1+1+1)) 0),(11,.ptr (L.length+(X.length+1+1)) 0),(20,.int .i64 (k:Int)),(19,.int .i64 l.length),(18,.sl (aB l) l.length cl),(9,.gsl C z (L.length+1) 2),(4,.ptr L.length 0),(2,.sl (names.map AV.str) names.length cn),(3,.bool tonly)]/\L'=L++(.cells [.sl TS tl capT,.sl c2 n2 cap2] :: .spare z 2::(X++[.cells [.str nm,.sl (vs.map AV.str) vs.length none],.cells [.str t1,.int .i64 t2,.bool t3,.bool o]]))) amQ ⟨0,_,rfl,aju _,hid amN,rfl,rfl⟩ ?_;rintro _ _ _ ⟨j,w,rfl,hj,hw,rfl,rfl⟩;by_cases hjl:j<names.length;have j1:(j:Int)<(names.length:Int):=amM;have j2:=ajn j amM;obtain⟨n,hn⟩:=ajl (names.getD j []);have j3:(names.map AV.str).getD j .undef=.str n:=by rw[<- hn];simp[hjl]
 have j4:j<(names.map AV.str).length:=by simpa using hjl
 have hnm:n∈names:=by rw[<- hn];simp[hjl]
 have hrn:=hnz.o n hnm;have kk4:Hid (Ctr Tryz.prog 46 [.str n] (.str (ag n))):=@hid _ (λ{L K} q=>xZ hrn q);have htj:names.take (j+1)=names.take j++[n]:=by rw[ajN hjl,<- hn];simp[hjl]
 obtain⟨f4,hf4⟩:=ajl (ag n);have hw2:(w ||R7 o nm n)=((b0 && !o) ||(names.take (j+1)).any (R7 o nm)):=by rw[htj,alD,hw.o,Bool.or_assoc];simp
 rw[hf4]at kk4;have hw3:R7 o nm n=((decide (n=[42]) && !o) ||((decide (n=[43])&&o) ||decide (f4=fn))):=by unfold R7;rw[hf4,hfn.o]
 rw[hw3]at hw2;replace hw2:=hid hw2;clear hw hw3 htj hnm hn hrn hf4 hC hs;refine wk ?_;exact amR amM amP ⟨j+1,_,rfl,hjl,hid (by rw[<- hw2.o];simp only[Bool.or_assoc]),rfl,rfl⟩;have j1:¬(j:Int)<(names.length:Int):=amM;have hw2:=hw.o;rw[aj3 amM]at hw2;have hs2:=hs.o;rw[<- hw2]at hs2;clear hw hw2 hs;cases w with
 | false =>
   have hC2:=hid (show C=aB (cW ts names tonly (l.take (k+1)))/\z=(cW ts names tonly (l.take (k+1))).length by rw[hs2];simpa using hC.o);clear hC hs2;refine wk ?_;exact amR amM amP ⟨k+1,z,C,_,rfl,hlt,amM,hC2,rfl,rfl⟩
 | true =>
   have fv:AV.frzL (vs.map AV.str)=vs.map AV.str:=gu vs;cases tonly with
   | false =>
     have hC2:=hid (show C++[.str nm,.sl (vs.map AV.str) vs.length none]=aB (cW ts names false (l.take (k+1)))/\z+1=(cW ts names false (l.take (k+1))).length by rw[hs2,hC.o.1,hC.o.2];simp[aB,atA]);clear hC hs2;refine wk ?_;exact amR amM amP ⟨k+1,z+1,_,_,rfl,hlt,amM,hC2,rfl,rfl⟩
   | true =>
     have hC2:=hid (show C++[.str nm,.sl [] 0 none]=aB (cW ts names true (l.take (k+1)))/\z+1=(cW ts names true (l.take (k+1))).length by rw[hs2,hC.o.1,hC.o.2];simp[aB,atA]);clear hC hs2;refine wk ?_;exact amR amM amP ⟨k+1,z+1,_,_,rfl,hlt,amM,hC2,rfl,rfl⟩
 have hke:k=l.length:=amM;have g1:¬(k:Int)<(l.length:Int):=amM;have hC2:=hC.o;rw[hke,ajL]at hC2;replace hC2:=hid hC2;clear hC hke hlt;refine wk ?_;refine aJ ?_;simp only[AV.frz];rw[hC2.o.1,dM,hC2.o.2];exact ab (by simp only[AV.refs,gX]) h.o
abbrev aiz(x:Fnd):List AV:=[dnA x.1,.sl (aB x.2) x.2.length none]
def xx(l:List Fnd):List AV:=l.flatMap aiz
theorem Va(a:Fnd)(l:List Fnd):xx (a::l)=dnA a.1 :: .sl (aB a.2) a.2.length none::xx l:=rfl
theorem acG(l m:List Fnd):xx (l++m)=xx l++xx m:=by simp[xx]
theorem x8(p:Nat->Bool):∀l:List Fnd,AV.refsL p (xx l)=true
 |[]=>rfl
 |a::l=>by rw[Va];simp[AV.refsL,AV.refs,dnA,dX,gX p,x8 p l]
theorem J5:∀l:List Fnd,AV.frzL (xx l)=xx l
 |[]=>rfl
 |a::l=>by rw[Va];simp only[AV.frzL,AV.frz,dnA,aY,dM,J5 l]
variable {α:Type}
theorem ads{f:α->Option Fnd}{x:α}{l:List α}(h:0<time/\time<=((n/100:Nat):Int)):srL f time size n out (x::l)=(out,3):=by rw[srL,if_pos h]
theorem adu{f:α->Option Fnd}{x:α}{l:List α}(h:¬(0<time/\time<=((n/100:Nat):Int)))(hf:f x=none):srL f time size n out (x::l)=srL f time size (n+1) out l:=by rw[srL,if_neg h,hf]
theorem adv{f:α->Option Fnd}{x:α}{l:List α}{y:Fnd}(h:¬(0<time/\time<=((n/100:Nat):Int)))(hf:f x=some y)(hz:0<size/\(out.length:Int)=size):srL f time size n out (x::l)=(out,4):=by rw[srL,if_neg h,hf];simp only[if_pos hz]
theorem adt{f:α->Option Fnd}{x:α}{l:List α}{y:Fnd}(h:¬(0<time/\time<=((n/100:Nat):Int)))(hf:f x=some y)(hz:¬(0<size/\(out.length:Int)=size)):srL f time size n out (x::l)=srL f time size (n+1) (out++[y]) l:=by rw[srL,if_neg h,hf];simp only[if_neg hz]
def srA(r:List Fnd×Int×List Rdn):AV:=.tup [.sl (xx r.1) r.1.length none,.int .i64 r.2.1,dnA r.2.2]
def scE(l:List aA)(id s:Int):List aA:=match l6 l id with|some a=>scL l a s|none=>[]
theorem Ul{P:List Rdn->List UInt8->Int->Bool}{T:List Atr->Int}{base:List Rdn}{scope:Int}:Um ts l P T base scope names tonly size time =
 if scope<0\/2<scope\/size<0\/time<0 then([],2,[])else if ¬OkD base then([],34,[])else if(xM (P · [] 1) l base).1=0 then([],32,(xM (P · [] 1) l base).2)else((srL (Wb ts P T names tonly) time size 0 [] (scE l (xM (P · [] 1) l base).1 scope)).1,(srL (Wb ts P T names tonly) time size 0 [] (scE l (xM (P · [] 1) l base).1 scope)).2,[]):=rfl
theorem afU(h:¬(s<0\/2<s)):scT l id s=(scE l id s).map (·.id):=by
 unfold scT scE;cases l6 l id with
 |none=>rfl
 |some a=>simp only[if_neg h]
theorem afS{x:aA}(h:x∈scE l id s):x∈l:=by
 unfold scE at h;cases hx:l6 l id with
 |none=>rw[hx]at h;cases h
 | some a =>
   rw[hx]at h;simp only[scL,List.mem_mergeSort,aka]at h;exact h.1
theorem afT  :(scE l id s).length<=l.length:=by
 unfold scE;cases l6 l id with
 |none=>simp
 |some a=>simp only[scL,amv];exact ak9 _ _
theorem aha{g:AV}{L:List Blk}{K:ajq}(h:K (.bool false) L):ajp 51 [.sl [] 0 (some 0),g] L K:=by
 have kk1:Hid (Ctr Tryz.prog 97 [.sl [] 0 (some 0),g] (.int .i64 (-1))):=@hid _ (λ{L K} h=>by replace h:=hid h;refine ajo l8 ?_;refine aq (λm T' L'=>m=0/\T'=[(8,.int .i64 0),(7,.int .i64 0)]/\L=L') amQ ⟨rfl,rfl,rfl⟩ ?_;rintro _ _ _ ⟨rfl,rfl,rfl⟩;refine wk ?_;exact ac h.o)
 replace h:=hid h;refine ajo jv ?_;exact ac h.o
theorem adE{capT:Option Nat}{c2:List AV}{n2:Nat}{cap2:Option Nat}(hts:ts.length<=1100000/\∀t∈ts,a8 t.1){iv mn mi:Nat}{nb bn:Int->Nat}{ck ci:Nat}{rs:List TKy}{suf:List Rdn}(ht:TOk suf last l)(hln:l.length<=1100000)(hb:∀x∈l,x.av.length<=1100000/\∀a∈x.av,a8 a.1/\a.2.length<=1100000){wh:AV}{base:List Rdn}{cb:Option Nat}(hbs:dnB base){scope f0:Int}{f1 f2:List UInt8}{f3 f4:AV}{cn:Option Nat}(hnl:names.length<=1100000)(hnz:∀n∈names,a8 n){P:List Rdn->List UInt8->Int->Bool}{T:List Atr->Int}{ib:Nat}{bk:List AV}(hcl:Hid (∀{vs:List (List UInt8)}{c:Option Nat},vs.length<=1100000->∀{L:List Blk}{K:ajq},K (.sl (vs.map AV.str) vs.length none) L->ajp 47 [.sl (vs.map AV.str) vs.length c] L K)){L:List Blk}(hc:bO L iv mn mi nb bn ck ci rs suf last l)(hib:L[ib]?=some (.cells bk))(hP:Hid (∀x∈l,∀n,a8 n->∀r,r=1\/r=2\/r=4->∀{X:List Blk}{K:ajq},K (.bool (P x.nm n r)) (L++X)->ajp 26 [.ptr ib 0,wh,.sl (x.nm.map ah) x.nm.length none,.str n,.int .i64 r] (L++X) K))(hT:Hid (∀x∈l,∀{X:List Blk}{K:ajq},K (.int .i64 (T (dR (λn=>P x.nm n 4) x.av))) (L++X)->ajp 27 [.agg [.sl (cq ts) ts.length capT,.sl c2 n2 cap2],.agg [.int .i64 f0,.str f1,.str f2,f3,f4],.sl (aB (dR (λn=>P x.nm n 4) x.av)) (dR (λn=>P x.nm n 4) x.av).length none] (L++X) K)){K:ajq}(h:K (srA (Um ts l P T base scope names tonly size time)) L):
  ajp 21 [.ptr iv 0,.agg [.sl (cq ts) ts.length capT,.sl c2 n2 cap2],.ptr ib 0,.agg [wh,.sl (base.map ah) base.length cb,.int .i64 scope,.int .i64 f0,.str f1,.str f2,f3,f4,.sl (names.map AV.str) names.length cn,.bool tonly,.int .i64 size,.int .i64 time],.sl [] 0 (some 0)] L K:=by
 have kk1:Hid (Ctr Tryz.prog 36 [.sl (base.map ah) base.length cb] (iQ (prS base))):=@hid _ (λ{L K} q=>jm hbs.1 hbs.2 q);obtain⟨⟨p1,e1⟩,hp1⟩:∃q,prS base=q:=⟨_,rfl⟩;have o1:OkD base↔e1=0:=by unfold OkD;rw[hp1]
 rw[hp1]at kk1;simp only[iQ]at kk1;have kk2:Hid (∀{X:List Blk}{K:ajq},K (ZJ (xM (P · [] 1) l base)) (L++X)->ajp 10 [.ptr iv 0,.ptr ib 0,wh,.sl (base.map ah) base.length cb] (L++X) K):=@hid _ (λ{X K} q=>agY ht (λx hx=>⟨(hb x hx).1,λa ha=>((hb x hx).2 a ha).2⟩) (hc.app X) (λx hx=>@hid _ (λ{K} q=>hP.o x hx [] (by simp[a8]) 1 (.inl rfl) q)) hbs q);have kk3:Hid (∀{id:Int}{X:List Blk}{K:ajq},K (.sl ((scT l id scope).map (AV.int .i64)) (scT l id scope).length none) (L++X)->ajp 23 [.ptr iv 0,.int .i64 id,.int .i64 scope] (L++X) K):=@hid _ (λ{id X K} q=>Uf ht hln (hc.app X) q);have hE:Hid (∀x∈l,∀{X:List Blk}{K:ajq},K (.tup [dnA x.nm,.sl (aB x.av) x.av.length none]) (L++X)->ajp 25 [.ptr iv 0,.int .i64 x.id] (L++X) K):=@hid _ (λx hx {X K} q=>Yf ht (λx hx=>⟨(hb x hx).1,λa ha=>((hb x hx).2 a ha).2⟩) (hc.app X) (λe=>by rw[ht.ent hx]at e;cases e) (λy e=>by rw[ht.ent hx]at e;cases e;exact q));have hS:Hid (∀x∈l,∀r,r=2\/r=4->∀{X:List Blk}{K:ajq},K (.sl (aB (dR (λn=>P x.nm n r) x.av)) (dR (λn=>P x.nm n r) x.av).length none) (L++X)->ajp 28 [.ptr ib 0,wh,.sl (x.nm.map ah) x.nm.length none,.sl (aB x.av) x.av.length none,.int .i64 r] (L++X) K):=@hid _ (λx hx r hr {X K} q=>ahr (Q:=λn=>P x.nm n r) (hb x hx).1 (λa ha=>((hb x hx).2 a ha).2) (ajm hib) (@hid _ (λa ha {Y K} q=>by rw[ajD]at q⊢;exact hP.o x hx a.1 ((hb x hx).2 a ha).1 r (.inr hr) q)) q);have hPk:Hid (∀x∈l,∀{atts:List Atr},(∀a∈atts,a∈x.av)->atts.length<=x.av.length->∀{L:List Blk}{K:ajq},K (.sl (aB (cW ts names tonly atts)) (cW ts names tonly atts).length none) L->ajp 17 [.agg [.sl (cq ts) ts.length capT,.sl c2 n2 cap2],.sl (aB atts) atts.length none,.sl (names.map AV.str) names.length cn,.bool tonly] L K):=@hid _ (λx hx atts h1 h2 {L K} q=>adW hts (ajU h2 (hb x hx).1) (λa ha=>(hb x hx).2 a (h1 a ha)) hnl hnz hcl q);obtain⟨V,hV⟩:=ajl (xM (P · [] 1) l base);have hs:Um ts l P T base scope names tonly size time=if scope<0\/2<scope\/size<0\/time<0 then([],2,[])else if e1≠0 then([],34,[])else if V.1=0 then([],32,V.2)else((srL (Wb ts P T names tonly) time size 0 [] (scE l V.1 scope)).1,(srL (Wb ts P T names tonly) time size 0 [] (scE l V.1 scope)).2,[]):=by rw[Ul,hV];simp only[o1,ne_eq]
 rw[hs]at h;rw[hV]at kk2;obtain⟨vi,vn⟩:=V;simp only[ZJ]at kk2 h;obtain⟨TS,hTS⟩:=ajl (cq ts);obtain⟨tl,htl⟩:=ajl (ts.length);rw[hTS,htl]at hPk hT⊢;replace h:=hid h;replace hb:=hid hb;clear hp1 o1 hs hV hTS htl hts hnz hbs hcl;refine aa RP (by simp[tq]) ?_;simp only[tq,am];by_cases c0:((scope<0\/2<scope)\/size<0)\/time<0;have h2:=hid (show K (srA ([],2,[])) L by have:=h.o;rw[if_pos amM]at this;exact this);have g0:decide (((scope<0\/2<scope)\/size<0)\/time<0)=true:=decide_eq_true c0;clear h c0;refine wk ?_;exact aJ (ab rfl h2.o);have g0:decide (((scope<0\/2<scope)\/size<0)\/time<0)=false:=decide_eq_false c0;have c1:¬(scope<0\/2<scope):=amM;have c2':¬(scope<0\/2<scope\/size<0\/time<0):=amM;by_cases ce:e1=0;rotate_left;have h2:=hid (show K (srA ([],34,[])) L by have:=h.o;rw[if_neg c2',if_pos ce]at this;exact this);have g1:decide (e1=0)=false:=decide_eq_false ce;clear h c0 c1 c2' ce;refine wk ?_;exact aJ (ab rfl h2.o);by_cases cv:vi=0;have h2:=hid (show K (srA ([],32,vn)) L by have:=h.o;rw[if_neg c2',if_neg (by simpa using ce),if_pos cv]at this;exact this);have g1:decide (e1=0)=true:=decide_eq_true ce;have g2:decide (vi=0)=true:=decide_eq_true cv;clear h c0 c1 c2' ce cv;refine wk ?_;refine aJ ?_;simp only[AV.frz,AV.frzL,dnA,aY];exact ab (by simp[AV.refs,AV.refsL,dX]) h2.o;have g1:decide (e1=0)=true:=decide_eq_true ce;have g2:decide (vi=0)=false:=decide_eq_false cv;obtain⟨SL,hSL⟩:=ajl (scE l vi scope);have hm:∀x∈SL,x∈l:=λx hx=>afS (by rw[hSL];exact hx)
 have hn:SL.length<=1100000:=by rw[<- hSL];exact ajU afT hln
 obtain⟨R,hR⟩:=ajl (srL (Wb ts P T names tonly) time size 0 [] SL);have h2:=hid (show K (srA (R.1,R.2,[])) L by have:=h.o;rw[if_neg c2',if_neg (by simpa using ce),if_neg cv,hSL,hR]at this;exact this);obtain⟨IDS,hIDS⟩:=ajl ((SL.map λx=>AV.int .i64 x.id));have kk4:Hid (∀{X:List Blk}{K:ajq},K (.sl IDS SL.length none) (L++X)->ajp 23 [.ptr iv 0,.int .i64 vi,.int .i64 scope] (L++X) K):=@hid _ (λ{X K} q=>kk3.o (by rw[afU c1,hSL,ajR,ajS,<- hIDS]at *;exact q));have hat:Hid (∀k,k<SL.length->IDS.getD k .undef=.int .i64 (SL.getD k default).id/\k<IDS.length):=hid (λk hk=>by rw[<- hIDS];exact⟨by simp[hk],by simpa using hk⟩);replace hm:=hid hm;replace hR:=hid hR;have hfn:=@aha;clear h kk3 c0 c1 c2' ce cv hSL hIDS;refine wk ?_;refine bK (l:=[]) (n:=0) 17 2 rfl (ajX 2).symm ?_;rw[show ∀A B:Blk,(L++[A,B]).length=L.length+2 from λA B=>by simp];refine aq (λm T' L'=>∃(k:Nat) (out:List Fnd) (C:List AV) (z:Nat) (X:List Blk),m=SL.length-k/\k<=SL.length/\z<=k/\Hid (srL (Wb ts P T names tonly) time size k out (SL.drop k)=R)/\Hid (C=xx out/\z=out.length)/\T'=[(69,.int .i64 (k:Int)),(68,.int .i64 SL.length),(67,.sl IDS SL.length none),(17,.gsl C z (L.length+2) 2),(8,.ptr (L.length+1) 0),(6,.ptr L.length 0),(0,.ptr iv 0),(2,.ptr ib 0),(4,.sl [] 0 (some 0))]/\L'=L++(.cells [.sl TS tl capT,.sl c2 n2 cap2] :: .cells [wh,.sl (base.map ah) base.length cb,.int .i64 scope,.int .i64 f0,.str f1,.str f2,f3,f4,.sl (names.map AV.str) names.length cn,.bool tonly,.int .i64 size,.int .i64 time] :: .spare z 2::X)) amQ ⟨0,[],[],0,[],rfl,aju _,ajs _,hid (by simpa using hR.o),hid ⟨rfl,rfl⟩,rfl,amN⟩ ?_;clear hR kk1 kk2 kk4;rintro _ _ _ ⟨k,out,C,z,X,rfl,hk,hzk,hI,hC,rfl,rfl⟩;by_cases hlt:k<SL.length;have j1:(k:Int)<(SL.length:Int):=amM;have j2:=ajn k amM;obtain⟨j3,j4⟩:=hat.o k hlt;have kk1:Hid (∀{g:AV}{L:List Blk}{K:ajq},K (.bool false) L->ajp 51 [.sl [] 0 (some 0),g] L K):=@hid _ (λ{g L K} q=>aha q);obtain⟨x,hx⟩:=ajl (SL.getD k default);rw[hx]at j3;have hxl:x∈l:=hm.o x (by rw[<- hx];simp[hlt]);have hdr:SL.drop k=x::SL.drop (k+1):=by rw[ajY hlt,<- hx];simp[hlt]
 have hI2:=hI.o;rw[hdr]at hI2;clear hI hdr hx;obtain⟨q,hq⟩:∃q:Int,((k/100:Nat):Int)=q:=⟨_,rfl⟩;have j5:IntKind.i64.wrap ((k:Int).tdiv 100)=q:=by rw[<- hq,Int.tdiv_eq_ediv_of_nonneg amM];exact ae amM amM
 by_cases htm:0<time/\time<=q;have hR:=ads (f:=Wb ts P T names tonly) (size:=size) (out:=out) (x:=x) (l:=SL.drop (k+1)) (by rw[hq];exact htm);rw[hR]at hI2;subst hI2;have g3:decide (0<time/\time<=q)=true:=decide_eq_true htm;clear hR htm hq;obtain⟨rfl,rfl⟩:=hC.o;refine wk ?_;refine aJ ?_;simp only[AV.frz,AV.frzL,J5];exact ab (by simp[AV.refs,AV.refsL,x8]) h2.o;have g3:decide (0<time/\time<=q)=false:=decide_eq_false htm;rw[<- hq]at htm;replace htm:=hid htm;have hbx:=hb.o x hxl;have kk2:Hid (∀{X:List Blk}{K:ajq},K (.tup [dnA x.nm,.sl (aB x.av) x.av.length none]) (L++X)->ajp 25 [.ptr iv 0,.int .i64 x.id] (L++X) K):=@hid _ (λ{X K} q=>hE.o x hxl q);have kk3:Hid (∀{X:List Blk}{K:ajq},K (.bool (P x.nm [] 1)) (L++X)->ajp 26 [.ptr ib 0,wh,.sl (x.nm.map ah) x.nm.length none,.str [],.int .i64 1] (L++X) K):=@hid _ (λ{X K} q=>hP.o x hxl [] (by simp[a8]) 1 (.inl rfl) q);have kk4:Hid (∀{X:List Blk}{K:ajq},K (.sl (aB (dR (λn=>P x.nm n 4) x.av)) (dR (λn=>P x.nm n 4) x.av).length none) (L++X)->ajp 28 [.ptr ib 0,wh,.sl (x.nm.map ah) x.nm.length none,.sl (aB x.av) x.av.length none,.int .i64 4] (L++X) K):=@hid _ (λ{X K} q=>hS.o x hxl 4 (.inr rfl) q);have kk5:Hid (∀{X:List Blk}{K:ajq},K (.int .i64 (T (dR (λn=>P x.nm n 4) x.av))) (L++X)->ajp 27 [.agg [.sl TS tl capT,.sl c2 n2 cap2],.agg [.int .i64 f0,.str f1,.str f2,f3,f4],.sl (aB (dR (λn=>P x.nm n 4) x.av)) (dR (λn=>P x.nm n 4) x.av).length none] (L++X) K):=@hid _ (λ{X K} q=>hT.o x hxl q);have kk6:Hid (∀{X:List Blk}{K:ajq},K (.sl (aB (dR (λn=>P x.nm n 2) x.av)) (dR (λn=>P x.nm n 2) x.av).length none) (L++X)->ajp 28 [.ptr ib 0,wh,.sl (x.nm.map ah) x.nm.length none,.sl (aB x.av) x.av.length none,.int .i64 2] (L++X) K):=@hid _ (λ{X K} q=>hS.o x hxl 2 (.inl rfl) q);have kk7:Hid (Ctr Tryz.prog 17 [.agg [.sl TS tl capT,.sl c2 n2 cap2],.sl (aB (dR (λn=>P x.nm n 2) x.av)) (dR (λn=>P x.nm n 2) x.av).length none,.sl (names.map AV.str) names.length cn,.bool tonly] (.sl (aB (cW ts names tonly (dR (λn=>P x.nm n 2) x.av))) (cW ts names tonly (dR (λn=>P x.nm n 2) x.av)).length none)):=@hid _ (λ{L K} q=>hPk.o x hxl (λa ha=>(aka.1 ha).1) (ak9 _ _) q);have hf:Wb ts P T names tonly x=if(P x.nm [] 1&&decide (T (dR (λn=>P x.nm n 4) x.av)=1))=true then some (x.nm,cW ts names tonly (dR (λn=>P x.nm n 2) x.av))else none:=rfl
 obtain⟨pb,hpb⟩:=ajl (P x.nm [] 1);obtain⟨A4,hA4⟩:=ajl (dR (λn=>P x.nm n 4) x.av);obtain⟨A2,hA2⟩:=ajl (dR (λn=>P x.nm n 2) x.av);obtain⟨W,hW⟩:=ajl (cW ts names tonly A2);obtain⟨tv,htv⟩:=ajl (T A4);rw[hpb,hA4,hA2,htv,hW]at hf;rw[hpb]at kk3;rw[hA4]at kk4 kk5;rw[htv]at kk5;rw[hA2]at kk6 kk7;rw[hW]at kk7;obtain⟨xi,xn,xv⟩:=x;simp only[dnA]at kk2 kk3 kk4 kk5 kk6 kk7 hf j3;clear hq hbx hpb hA4 hA2 hW htv hxl;by_cases hfit:pb=true/\tv=1;obtain⟨rfl,rfl⟩:=hfit;rw[if_pos amN]at hf;have hzl:=hC.o.2;by_cases hsz:0<size/\(z:Int)=size;have hR:=adv (l:=SL.drop (k+1)) htm.o hf (size:=size) (out:=out) (by rw[<- hzl];exact hsz);rw[hR]at hI2;subst hI2;have g4:decide (0<size/\(z:Int)=size)=true:=decide_eq_true hsz;clear hR hf hsz hzl;obtain⟨rfl,rfl⟩:=hC.o;refine wk ?_;refine aJ ?_;simp only[AV.frz,AV.frzL,J5];exact ab (by simp[AV.refs,AV.refsL,x8]) h2.o;have hR:=adt (l:=SL.drop (k+1)) htm.o hf (size:=size) (out:=out) (by rw[<- hzl];exact hsz);rw[hR]at hI2;have g4:decide (0<size/\(z:Int)=size)=false:=decide_eq_false hsz;have hC2:Hid (C++[.sl (xn.map ah) xn.length none,.sl (aB W) W.length none]=xx (out++[(xn,W)])/\z+1=(out++[(xn,W)]).length):=hid (by rw[hC.o.1,hC.o.2,acG];simp[xx,aiz,dnA]);replace hI2:=hid hI2;have fv1:=aY xn;have fv2:=dM W;clear hR hf hsz hzl hC;refine wk ?_;exact amR amM amP ⟨k+1,_,_,z+1,_,rfl,hlt,amM,hI2,hC2,rfl,rfl⟩;rw[if_neg (by simpa using hfit)]at hf;have hR:=adu (l:=SL.drop (k+1)) htm.o hf (size:=size) (out:=out);rw[hR]at hI2;replace hI2:=hid hI2;clear hR hf;cases pb with
 | false =>
   clear hfit;refine wk ?_;exact amR amM amP ⟨k+1,_,_,z,_,rfl,hlt,amM,hI2,hC,rfl,rfl⟩
 | true =>
   have g4:decide (tv=1)=false:=(by simpa using hfit);clear hfit;refine wk ?_;exact amR amM amP ⟨k+1,_,_,z,_,rfl,hlt,amM,hI2,hC,rfl,rfl⟩
 have hke:k=SL.length:=amM;have j1:¬(k:Int)<(SL.length:Int):=amM;have hI2:=hI.o;rw[alh amM,srL]at hI2;subst hI2;clear hI hke hlt;obtain⟨rfl,rfl⟩:=hC.o;refine wk ?_;refine aJ ?_;simp only[AV.frz,AV.frzL,J5];exact ab (by simp[AV.refs,AV.refsL,x8]) h2.o
def awU:List Upd:=[⟨1,dQ,[],[]⟩,⟨1,[([99,110],[97])]::dQ,[],[([99,110],[[97]])]⟩]
def awR:List Rul:=[⟨0,[],[],[],7,true⟩]
def awE:List aA:=[⟨1,dQ,[]⟩,⟨2,[([99,110],[97])]::dQ,[([99,110],[[97]])]⟩]
theorem agK:JP dQ awU=(awE,2):=amO
theorem ae0:aaP awU [] awR:=⟨by decide,by decide,amO,by unfold OkD;kernel_rfl,amO,λu hu=>by have:awU.all smU=true:=amO;exact ajE.1 this u hu⟩
def awP(ent:List Rdn)(n:List UInt8)(r:Int):Bool:=YR [] awR [] ent n r
theorem aa5{suf:List Rdn}(ht:TOk suf last l)(id s:Int):scE l id s=match l6 l id with|some a=>aai [] (l.filter (gr a s))|none=>[]:=by
 unfold scE;cases l6 l id with
 |none=>rfl
 |some a=>simp only[ht.ins]
theorem aiR(ht:TOk dQ last awE):Um aN awE awP (λ_=>1) dQ 2 [] false 1 0=([(dQ,[])],4,[]):=by
 rw[Ul,aa5 ht]
 kernel_rfl
theorem aiQ(ht:TOk dQ last awE):Um aN awE awP (λ_=>1) dQ 1 [] false 0 0=([([([99,110],[97])]::dQ,[([99,110],[[97]])])],0,[]):=by
 rw[Ul,aa5 ht]
 kernel_rfl
end Go.Proofs.YtdnfjhflkkpokaaGreatDoor.Av
set_option maxRecDepth 100000
namespace Go.Proofs.YtdnfjhflkkpokaaGreatDoor.Av
open Go
def K3:LSO:=[Ad 2 0]
def K2:LSO:=[Ad 3 1]
def K1:LSO:=[Aa 6 0,Af 7 6,Ad 8 0]
def K0:LSO:=[Al 9 8 7]
def KZ:LSO:=[Am 10 1 6 8,Ab 11 1 10,Aa 5 11]
def KY:LSO:=[Aa 13 5,Ao 14 13 0,Aa 12 14]
def KX:LSO:=[Ad 2 0]
def KW:LSO:=[Aa 16 5,A8 17 16 1,Aa 15 17]
def KV:LSO:=[Ad 3 2]
def KU:LSO:=[Ah 18 8 1,Aa 8 18]
def FF:LSO:=[Aa 19 3,Aa 2 19]
def Jy:aQ:=⟨20,(amF K3 [] (amF K2 [] (.seq (amF K1 [] (amI 0 (amF K0 [] (.seq (amJ 9 0) (.seq (.block 1 (amF KZ Cm (.block 2 (amF KY Cm (amG 12 (amF KX [] .ret) (amF KW Cm (amG 15 (.sreg KV []) .skip))))))) (.sreg KU Cl)))))) (amF FF Cl .ret)))),[(.tmp 2)]⟩
attribute [push_cast] K3 K2 K1 K0 KZ KY KX KW KV KU FF
theorem Vy:amK 64=amL Jy:=amO
def Zr:Int->List Int->Int
 |o,[]=>o
 |o,v::r=>if v=0 then 0 else if v=1 then Zr o r else Zr 2 r
def agP(l:List Int):Int:=Zr 1 l
variable {L:List Blk}{K:ajq}
set_option maxHeartbeats 8000000
set_option maxRecDepth 100000
theorem aiW{xs:List Int}{cap:Option Nat}(hn:(xs.length:Int)<=1000000)(h:K (.int .i64 (agP xs)) L):ajp 64 [.sl (xs.map (AV.int .i64)) xs.length cap] L K:=by
 replace h:=hid h;refine aa Vy (by simp[Jy]) ?_;simp only[Jy,am]
 repeat' first
  |refine cA ?_
  | (first|refine bG amO ?_|refine ba amO ?_|refine be ?_|refine dN ?_|refine cD (fun _=>?_)|refine aU ?_|refine bI ?_)
    refine sm ?_
  | (first|refine bC amO ?_|refine bz ?_|refine bd ?_|refine bH ?_|refine cI (aT ?_))
    refine sl ?_
  |exact cE
  |first|apply cF|apply bD|apply cG|apply bE|apply cH|apply bF
  |refine bh ?_
  |refine bc ?_
  |first|refine bf rfl ?_|refine bg rfl ?_|refine aI rfl ?_ ?_|refine bm rfl (λ_=>?_) (λ_=>?_)|refine bj rfl (λ_=>?_) (λ_=>?_)
  |((first|refine aG (λ_=>?_) (λ_=>?_)|refine aS (λ_=>?_) (λ_=>?_))<;>try refine sm ?_)
  |refine And.intro trivial ?_
  |refine And.intro amM ?_
  |refine br rfl (λ_=>?_) (λ_=>?_)
  |refine And.intro ?_ ?_
 refine aq (λn T' L'=>∃(k:Nat) (o:Int),n=xs.length-k/\k<=xs.length/\Hid (Zr o (xs.drop k)=agP xs)/\T'=[(8,.int .i64 (k:Int)),(7,.int .i64 xs.length),(6,.sl (xs.map (AV.int .i64)) xs.length cap),(3,.int .i64 o),(2,.int .i64 0)]/\L'=L) amQ ⟨0,1,rfl,aju _,hid rfl,rfl,rfl⟩ ?_;rintro _ _ _ ⟨k,o,rfl,hk,ho,rfl,rfl⟩;by_cases hlt:k<xs.length
 .have h1:(k:Int)<(xs.length:Int):=amM;have h2:=ajn k amM;obtain⟨x,hx⟩:=ajl (xs[k]);have hd:xs.drop k=x::xs.drop (k+1):=(by rw[ajY hlt,hx]);have hg:(xs.map (AV.int .i64)).getD k .undef=.int .i64 x:=(by rw[acE hlt,hx]);have hlk:k<(xs.map (AV.int .i64)).length:=(by simpa using hlt);have ho:=ho.o;rw[hd]at ho;simp only[Zr]at ho;by_cases e0:x=0
  .rw[if_pos e0]at ho;replace ho:=hid ho;clear hx hd
   repeat' first
    |refine cA ?_
    | (first|refine bG amO ?_|refine ba amO ?_|refine be ?_|refine dN ?_|refine cD (fun _=>?_)|refine aU ?_|refine bI ?_)
      refine sm ?_
    | (first|refine bC amO ?_|refine bz ?_|refine bd ?_|refine bH ?_|refine cI (aT ?_))
      refine sl ?_
    |exact cE
    |first|apply cF|apply bD|apply cG|apply bE|apply cH|apply bF
    |refine bh ?_
    |refine bc ?_
    |first|refine bf rfl ?_|refine bg rfl ?_|refine aI rfl ?_ ?_|refine bm rfl (λ_=>?_) (λ_=>?_)|refine bj rfl (λ_=>?_) (λ_=>?_)
    |((first|refine aG (λ_=>?_) (λ_=>?_)|refine aS (λ_=>?_) (λ_=>?_))<;>try refine sm ?_)
    |refine And.intro trivial ?_
    |refine And.intro amM ?_
    |refine br rfl (λ_=>?_) (λ_=>?_)
    |refine And.intro ?_ ?_
   refine ac ?_;have h:=h.o;rw[<- ho.o]at h;exact h
  .rw[if_neg e0]at ho;by_cases e1:x=1
   .rw[if_pos e1]at ho;replace ho:=hid ho;clear hx hd
    repeat' first
     |refine cA ?_
     | (first|refine bG amO ?_|refine ba amO ?_|refine be ?_|refine dN ?_|refine cD (fun _=>?_)|refine aU ?_|refine bI ?_)
       refine sm ?_
     | (first|refine bC amO ?_|refine bz ?_|refine bd ?_|refine bH ?_|refine cI (aT ?_))
       refine sl ?_
     |exact cE
     |first|apply cF|apply bD|apply cG|apply bE|apply cH|apply bF
     |refine bh ?_
     |refine bc ?_
     |first|refine bf rfl ?_|refine bg rfl ?_|refine aI rfl ?_ ?_|refine bm rfl (λ_=>?_) (λ_=>?_)|refine bj rfl (λ_=>?_) (λ_=>?_)
     |((first|refine aG (λ_=>?_) (λ_=>?_)|refine aS (λ_=>?_) (λ_=>?_))<;>try refine sm ?_)
     |refine And.intro trivial ?_
     |refine And.intro amM ?_
     |refine br rfl (λ_=>?_) (λ_=>?_)
     |refine And.intro ?_ ?_
    exact amR amM amQ ⟨k+1,o,rfl,hlt,ho,rfl,rfl⟩
   .rw[if_neg e1]at ho;replace ho:=hid ho;clear hx hd
    repeat' first
     |refine cA ?_
     | (first|refine bG amO ?_|refine ba amO ?_|refine be ?_|refine dN ?_|refine cD (fun _=>?_)|refine aU ?_|refine bI ?_)
       refine sm ?_
     | (first|refine bC amO ?_|refine bz ?_|refine bd ?_|refine bH ?_|refine cI (aT ?_))
       refine sl ?_
     |exact cE
     |first|apply cF|apply bD|apply cG|apply bE|apply cH|apply bF
     |refine bh ?_
     |refine bc ?_
     |first|refine bf rfl ?_|refine bg rfl ?_|refine aI rfl ?_ ?_|refine bm rfl (λ_=>?_) (λ_=>?_)|refine bj rfl (λ_=>?_) (λ_=>?_)
     |((first|refine aG (λ_=>?_) (λ_=>?_)|refine aS (λ_=>?_) (λ_=>?_))<;>try refine sm ?_)
     |refine And.intro trivial ?_
     |refine And.intro amM ?_
     |refine br rfl (λ_=>?_) (λ_=>?_)
     |refine And.intro ?_ ?_
    exact amR amM amQ ⟨k+1,2,rfl,hlt,ho,rfl,rfl⟩
 .have hke:k=xs.length:=amM;subst hke;have h1:¬(xs.length:Int)<(xs.length:Int):=amM;have ho:=ho.o;rw[ake]at ho;replace ho:=hid (show o=agP xs from ho)
  repeat' first
   |refine cA ?_
   | (first|refine bG amO ?_|refine ba amO ?_|refine be ?_|refine dN ?_|refine cD (fun _=>?_)|refine aU ?_|refine bI ?_)
     refine sm ?_
   | (first|refine bC amO ?_|refine bz ?_|refine bd ?_|refine bH ?_|refine cI (aT ?_))
     refine sl ?_
   |exact cE
   |first|apply cF|apply bD|apply cG|apply bE|apply cH|apply bF
   |refine bh ?_
   |refine bc ?_
   |first|refine bf rfl ?_|refine bg rfl ?_|refine aI rfl ?_ ?_|refine bm rfl (λ_=>?_) (λ_=>?_)|refine bj rfl (λ_=>?_) (λ_=>?_)
   |((first|refine aG (λ_=>?_) (λ_=>?_)|refine aS (λ_=>?_) (λ_=>?_))<;>try refine sm ?_)
   |refine And.intro trivial ?_
   |refine And.intro amM ?_
   |refine br rfl (λ_=>?_) (λ_=>?_)
   |refine And.intro ?_ ?_
  refine ac ?_;rw[ho.o];exact h.o
theorem ah0{xs:List Int}{i:Nat}(hn:(xs.length:Int)<=1000000)(h:K (.int .i64 (agP xs)) L):ajp 64 [.gsl (xs.map (AV.int .i64)) xs.length i 1] L K :=
 gZ (by simpa only[AV.frzL,AV.frz,WZ]using aiW (cap:=none) hn h)
end Go.Proofs.YtdnfjhflkkpokaaGreatDoor.Av
set_option maxRecDepth 100000
namespace Go.Proofs.YtdnfjhflkkpokaaGreatDoor.Av
open Go
def Pb:LSO:=[A5 3 0,A5 4 1,Ad 6 0]
def Pa:LSO:=[Ac 17 0 4,Ab 18 1 17]
def O9:LSO:=[Ao 20 18 0,Aa 19 20]
def O8:LSO:=[Ao 21 18 1,Aa 19 21]
def O7:LSO:=[Ao 22 18 2,Aa 19 22]
def O6:LSO:=[Ak 7]
def O5:LSO:=[Ac 23 4 4,Ab 24 1 23,Af 25 24,Ad 26 0]
def O4:LSO:=[Al 27 26 25]
def O3:LSO:=[Am 28 5 24 26,Ar 29 5 28,o1 9 (.alloc [(.int .i64 0),(.str []),(.str []),(.sl [] 0 (some 0)),(.sl [] 0 (some 0))]),An 5 9 29]
def O2:LSO:=[Aa 30 7,Ar 31 2 3,Ar 32 5 9,Aa 33 2,AS 34 27 31 32 33,o1 35 (.bslice false 1 1 [(.int .i64 0)] [(0,(1,(tm 34)))]),
 o1 36 (.app 1 1 8 [(.int .i64 0)] (tm 30) (tm 35)),Aa 7 36]
def KT:LSO:=[Ah 37 26 1,Aa 26 37]
def KS:LSO:=[Ac 39 0 4,Ab 40 1 39,Ao 41 40 0,Aa 38 41]
def KR:LSO:=[Aa 42 7,Ai 43 64 42,Aa 6 43]
def KQ:LSO:=[Ac 45 0 4,Ab 46 1 45,Ao 47 46 1,Aa 44 47]
def KP:LSO:=[Aa 48 7,Ai 49 65 48,Aa 6 49]
def KO:LSO:=[Aa 51 7,Af 52 51,A8 53 52 1,Aa 50 53]
def KN:LSO:=[Ad 6 2]
def KM:LSO:=[Aa 54 7,o1 55 (.iaddr 1 (tm 54) (iv 0)),Ab 56 1 55,Ai 57 66 56,Aa 6 57]
def KL:LSO:=[Ar 59 2 3,Ac 60 1 4,Ab 61 1 60,Au 62 45 59 61,Aa 58 62,Ap 63 58,Aq 64 58,B5 10,An 4 10 63,Aa 11 64]
def KK:LSO:=[Aa 65 11,A7 66 65,Aa 67 66,.grp none 67 false
 [AA 68 67 0 4,AB 69 67 1 68,Bz 70 67 69 0]
 71 (tm 70),Aa 72 71,.grp none 72 false
 [AA 73 72 0 4,AB 74 72 1 73,AF 75 72 74 8]
 76 (tm 75)]
def KJ:LSO:=[Ad 6 2]
def KI:LSO:=[Aa 77 2,Ac 78 1 4,Ab 79 1 78,Au 80 67 77 79,Aa 12 80]
def KH:LSO:=[Ac 82 1 10,Ab 83 1 82,Ac 84 2 4,Ab 85 1 84,Au 86 68 83 85,Aa 81 86,Ap 87 81,Aq 88 81,Aa 13 87,Aa 14 88]
def KG:LSO:=[Ac 89 0 4,Ab 90 1 89]
def KF:LSO:=[Ao 92 90 7,Aa 91 92]
def KE:LSO:=[Aa 93 12,Af 94 93,A9 95 94 0,Ai 96 69 95,Aa 6 96]
def KD:LSO:=[Ao 98 90 3,Aa 97 98]
def KC:LSO:=[Ao 99 90 8,Aa 97 99]
def KB:LSO:=[Aa 100 14,A7 101 100]
def KA:LSO:=[Ad 6 2]
def Kz:LSO:=[Ar 102 2 3,Aa 103 2,Ac 104 1 4,Ab 105 1 104,Ac 106 2 4,Ab 107 1 106,BG 108 70 102 103 105 107,Ai 109 69 108,Aa 6 109]
def Ky:LSO:=[Ao 111 90 4,Aa 110 111]
def Kx:LSO:=[Ac 112 1 10,Ab 113 1 112,A9 114 113 3,Aa 115 114,.grp none 115 false
 [AA 116 115 3 4,AB 117 115 1 116,
 og 118 115 false (.build [(.int .i64 0),(.str []),(.str []),(.sl [] 0 (some 0)),(.sl [] 0 (some 0))] [(0,(1,(iv 4))),(1,(1,(.av (.str [97])))),(3,(1,(tm 117)))]),
 AH 119 115 71 118,Bb 120 115 119 0]
 121 (tm 120)]
def Kw:LSO:=[Ad 6 2]
def Kv:LSO:=[Aa 122 12,o1 123 (.mkfn 73 [(tm 10),(tm 4)]),Au 124 72 122 123,Ai 125 69 124,Aa 6 125]
def Ku:LSO:=[Ac 127 1 10,Ab 128 1 127,Ac 129 2 4,Ab 130 1 129,Ac 131 2 4,Ab 132 1 131,AS 133 75 128 130 132,Aa 126 133,Ap 134 126,Aq 135 126,Aa 15 134,Aa 16 135]
def Kt:LSO:=[Aa 136 16,A7 137 136]
def Ks:LSO:=[Ad 6 2]
def Kr:LSO:=[Aa 138 12,o1 139 (.mkfn 76 [(tm 10),(tm 4)]),Au 140 72 138 139,Ai 141 69 140,Aa 6 141]
def Ot:aQ:=⟨142,(amF Pb [] (.seq (amF Pa Cl (.block 0 (.seq (amF O9 Cl (amG 19 .skip (amF O8 Cl (amG 19 .skip (.sreg O7 Cl))))) (amG 19 (amF O6 [] (.seq (amF O5 C0 (amI 1 (amF O4 [] (.seq (amJ 27 1) (.seq (.block 2 (amF O3 Cm (.sreg O2 Ct))) (.sreg KT Cl)))))) (.seq (.block 3 (amF KS Cp (amG 38 (amF KR Cm .ret) (amF KQ Cp (amG 44 (amF KP Cm .ret) (amF KO Cp (amH 50 (.sreg KN [])))))))) (amF KM Co .ret)))) .skip)))) (amF KL CE (.seq (amF KK Cq (amH 76 (.sreg KJ []))) (amF KI Co (amF KH Cu (.seq (amF KG Cl (.block 4 (amF KF Cl (amG 91 (amF KE Co .ret) (.seq (amF KD Cl (amG 97 .skip (.sreg KC Cl))) (amG 97 (.seq (amF KB Cl (amH 101 (.sreg KA []))) (amF Kz Cz .ret)) (amF Ky Cl (amG 110 (.seq (amF Kx Co (amH 121 (.sreg Kw []))) (amF Kv Co .ret)) .skip)))))))) (.seq (amF Ku C4 (amF Kt Cl (amH 137 (.sreg Ks [])))) (amF Kr Co .ret))))))))),[(.tmp 6)]⟩
attribute [push_cast] Pb Pa O9 O8 O7 O6 O5 O4 O3 O2 KT KS KR KQ KP KO KN KM KL KK KJ KI KH KG KF KE KD KC KB KA Kz Ky Kx Kw Kv Ku Kt Ks Kr
theorem Wc:amK 27=amL Ot:=amO
attribute [push_cast] Ot
variable {L:List Blk}{K:ajq}
set_option maxHeartbeats 8000000
set_option maxRecDepth 100000
theorem agd{TS c2 A:List AV}{tl n2 na:Nat}{capT cap2 cap:Option Nat}(h:K (.int .i64 1) L):
  ajp 27 [.agg [.sl TS tl capT,.sl c2 n2 cap2],.agg [.int .i64 0,.str [],.str [],.sl [] 0 (some 0),.sl [] 0 (some 0)],.sl A na cap] L K:=by
 have kk1:Hid (∀{i:Nat}{L:List Blk}{K:ajq},K (.int .i64 1) L->ajp 64 [.gsl [] 0 i 1] L K):=@hid _ (λ{i L K} q=>ah0 (xs:=[]) (by decide) q);replace h:=hid h;refine ajo Wc ?_;refine bK (l:=[]) (n:=0) 7 1 rfl (ajX 1).symm ?_;rw[show ∀A B:Blk,(L++[A,B]).length=L.length+2 from λA B=>by simp];refine aq (λm T' L'=>m=0/\T'=[(26,.int .i64 0),(25,.int .i64 0),(24,.sl [] 0 (some 0)),(7,.gsl [] 0 (L.length+2) 1),(4,.ptr (L.length+1) 0),(3,.ptr L.length 0),(2,.sl A na cap)]/\L'=L++[.cells [.sl TS tl capT,.sl c2 n2 cap2],.cells [.int .i64 0,.str [],.str [],.sl [] 0 (some 0),.sl [] 0 (some 0)],.spare 0 1]) amQ ⟨rfl,rfl,amN⟩ ?_;rintro _ _ _ ⟨rfl,rfl,rfl⟩;refine wk ?_;exact ab rfl h.o
theorem aiS:∀u∈awU,aaJ u:=by intro u hu;simp only[awU,ajM,akl,or_false]at hu;rcases hu with rfl|rfl;exact⟨⟨⟨by decide,by decide⟩,by decide⟩,⟨⟨by decide,by decide⟩,by decide⟩,by decide,by decide⟩;exact⟨⟨⟨by decide,by decide⟩,by decide⟩,⟨⟨by decide,by decide⟩,by decide⟩,by decide,by decide⟩
theorem ahV:∀x∈awE,x.av.length<=1100000/\∀a∈x.av,a8 a.1/\a.2.length<=1100000:=by intro x hx;simp only[awE,ajM,akl,or_false]at hx;rcases hx with rfl|rfl;exact⟨by decide,amN⟩;exact⟨by decide,by simp[a8]⟩
theorem aiT{L:List Blk}{iv mn mi:Nat}{nb bn:Int->Nat}{ck ci:Nat}{trs:List TKy}{ib:Nat}{cb:Option Nat}(ht:TOk dQ 2 awE)(hc:bO L iv mn mi nb bn ck ci trs dQ 2 awE)(hib:L[ib]?=some (.cells [dnA [],.sl (iL awR) awR.length cb])){s z:Int}{K:ajq}(h:K (srA (Um aN awE awP (λ_=>1) dQ s [] false z 0)) L):
  ajp 21 [.ptr iv 0,.agg [.sl (cq aN) aN.length none,.sl Zm 9 none],.ptr ib 0,.agg [.sl [] 0 (some 0),dnA dQ,.int .i64 s,.int .i64 0,.str [],.str [],.sl [] 0 (some 0),.sl [] 0 (some 0),.sl [] 0 (some 0),.bool false,.int .i64 z,.int .i64 0],.sl [] 0 (some 0)] L K :=
 adE (names:=[]) ⟨jt.1,jt.2.1⟩ ht (by decide) ahV Ym.m.b (by decide) amN (@hid _ (λ{vs c} hn {L K} q=>Vr hn q)) hc hib
  (@hid _ (λx hx n hn r hr {X K} q=>ag4 (adm:=[]) (rs:=awR) (who:=[]) (by unfold Ka;omega) (by intro r hr;simp only[awR,ajM,akl,or_false]at hr;subst hr;decide) (by intro r hr;simp only[awR,ajM,akl,or_false]at hr;subst hr;simp[a8]) hn (by decide) ⟨amN,amN⟩ ⟨amN,amN⟩ (ht.ok x hx).m.b (ajm hib) q))
  (@hid _ (λx hx {X K} q=>agd q)) h
theorem aaH(h:∀L',K (.bool true) L'):ajp 9 [] L K:=by
 obtain⟨TS,hTS⟩:=ajl (cq aN);obtain⟨tl,htl⟩:=ajl (aN.length);obtain⟨CS,hCS⟩:=ajl (Zm);have kk2:Hid (Ctr Tryz.prog 15 [] (.agg [.sl TS tl none,.sl CS 9 none])):=@hid _ (λ{L K} q=>aaD (by rw[hTS,hCS,htl];exact q));have hbuild:Hid (∀{L:List Blk}{K:ajq},(∀L' it iv mn mi rt nb bn ck ci trs c ib cb,Zz L' it iv mn mi rt nb bn ck ci trs c dQ 2 awE->L'[ib]?=some (.cells [dnA [],.sl (iL awR) awR.length cb])->K (.tup [.agg [.ptr it 0,.ptr ib 0,.ptr rt 0,.sl [] 0 none,.sl (dz awR) 1 none],.bool true]) L') ->
  ajp 7 [.agg [.sl (awU.flatMap oJ) 2 none,.sl [] 0 none,.sl (dz awR) 1 none]] L K):=@hid _ (λ{L K} q=>abr (us:=awU) (adm:=[]) (rs:=awR) aiS (by decide) (by decide) (by intro r hr;simp only[awR,ajM,akl,or_false]at hr;subst hr;simp[a8]) ⟨⟨by decide,amN⟩,amN⟩ (λg=>absurd ae0 g) (λL' it iv mn mi rt nb bn ck ci trs c last l ib cb hm hib _ _ _ hbl _ _=>by
  rw[agK]at hbl;cases hbl;exact q L' it iv mn mi rt nb bn ck ci trs c ib cb hm hib))
 obtain⟨S24,hS⟩:=ajl (dQ);have kk1:Hid (Ctr Tryz.prog 31 [] (.sl (S24.map ah) 1 none)):=@hid _ (λ{L K} q=>aa1 (by rw[hS];unfold dnA;rw[show S24.length=1 by rw[<- hS];rfl];exact q));have hfz:AV.frzL (S24.map ah)=S24.map ah:=aY S24;have hS2:=hid hS;obtain⟨R24,hR24⟩:=ajl (S24.map ah);rw[hR24]at kk1 hfz;have hRl:R24.length=1:=by rw[<- hR24,<- hS];rfl
 replace h:=hid h;replace hTS:=hid hTS;replace htl:=hid htl;replace hCS:=hid hCS;replace hR24:=hid hR24;clear hS;refine ajo RZ ?_;refine gZ ?_;rw[show AV.frzL _=[AV.agg [.sl (awU.flatMap oJ) 2 none,.sl [] 0 none,.sl (dz awR) 1 none]]from by simp only[AV.frzL,AV.frz,hfz,<- hR24.o,<- hS2.o];rfl]
 refine hbuild.o (λL' it iv mn mi rt nb bn ck ci trs c ib cb hm hib=>?_);have kq:∀{s z:Int}{r:List Fnd×Int×List Rdn},Um aN awE awP (λ_=>1) dQ s [] false z 0=r->∀{X:List Blk}{K:ajq},K (srA r) (L'++X)->ajp 21 [.ptr iv 0,.agg [.sl TS tl none,.sl CS 9 none],.ptr ib 0,.agg [.sl [] 0 (some 0),.sl R24 1 none,.int .i64 s,.int .i64 0,.str [],.str [],.sl [] 0 (some 0),.sl [] 0 (some 0),.sl [] 0 (some 0),.bool false,.int .i64 z,.int .i64 0],.sl [] 0 (some 0)] (L'++X) K:=λ{s z r} e {X K} q=>by rw[<- hR24.o,<- hS2.o,<- hTS.o,<- htl.o,<- hCS.o];exact aiT hm.ok (hm.code.app X) (ajm hib) (by rw[e];exact q)
 have kk3:Hid (∀{X:List Blk}{K:ajq},K (.tup [.sl [dnA dQ,.sl [] 0 none] 1 none,.int .i64 4,.sl [] 0 none]) (L'++X)->ajp 21 [.ptr iv 0,.agg [.sl TS tl none,.sl CS 9 none],.ptr ib 0,.agg [.sl [] 0 (some 0),.sl R24 1 none,.int .i64 2,.int .i64 0,.str [],.str [],.sl [] 0 (some 0),.sl [] 0 (some 0),.sl [] 0 (some 0),.bool false,.int .i64 1,.int .i64 0],.sl [] 0 (some 0)] (L'++X) K):=@hid _ (λ{X K} q=>kq (aiR hm.ok) q);have kk4:Hid (∀{X:List Blk}{K:ajq},K (.tup [.sl [dnA ([([99,110],[97])]::dQ),.sl (aB [([99,110],[[97]])]) 1 none] 1 none,.int .i64 0,.sl [] 0 none]) (L'++X)->ajp 21 [.ptr iv 0,.agg [.sl TS tl none,.sl CS 9 none],.ptr ib 0,.agg [.sl [] 0 (some 0),.sl R24 1 none,.int .i64 1,.int .i64 0,.str [],.str [],.sl [] 0 (some 0),.sl [] 0 (some 0),.sl [] 0 (some 0),.bool false,.int .i64 0,.int .i64 0],.sl [] 0 (some 0)] (L'++X) K):=@hid _ (λ{X K} q=>kq (aiQ hm.ok) q);have hit:∀A B:Blk,(L'++[A,B])[it]?=some (.cells [.ptr iv 0]):=λA B=>ajm hm.it
 generalize dnA dQ=D1 at kk3;generalize dnA ([([99,110],[97])]::dQ)=D2 at kk4;generalize aB [([99,110],[[97]])]=A2 at kk4;clear kq hm hib hbuild hR24 hS2 hTS htl hCS;refine amU ?_;exact ac (h.o _)
theorem ahn{P:Program}{f:FuncId}{b:Bool}(h:af P f [] [] λv _=>v=.bool b)(hk:K (.bool b) L):af P f [] L K:=λw0 S0 E w vs hR hv=>by
 have hR0:Rel w ⟨λ_=>False,0⟩ {mem:=E.mem,loc:=λ_=>none,tok:=λ_=>none} [] w:=by
  refine⟨hR.mem,?_,λ_ _=>rfl,?_,?_,λ_ _=>rfl,?_,?_,?_,λ_ _ _=>rfl,ajs _,rfl,rfl,rfl,hR.glob,hR.gsz⟩
  all_goals intros;simp_all
 have key:∀{E':Env}{L':List Blk}{w':World},Rel w ⟨λ_=>False,0⟩ E' L' w'->VZ w w':=λk=>⟨λb hb=>k.frame b hb (λx=>x),k.size,k.os,k.tape,k.output⟩
 have hv0:VRL {mem:=E.mem,loc:=λ_=>none,tok:=λ_=>none} [] vs:=by simpa only[VRL]using hv
 rcases h w _ _ w vs hR0 hv0 with⟨h1,h2⟩|⟨E',v,av,L',w',h1,h2,h3,h4,h5⟩;refine .inl ⟨h1,h2.mono λe w' ⟨E',v,av,L',a,b,c,d,r⟩=>⟨E,v,_,L,a,.refl E,hk,?_,hR.grown (key r)⟩⟩;subst c;simpa only[VR]using d;refine .inr ⟨E,v,_,L,w',h1,.refl E,hk,?_,hR.grown (key h5)⟩;subst h3;simpa only[VR]using h4
theorem Xb(h:K (.bool true) L):ajp 9 [] L K:=ahn (aaH λ_=>rfl) h
end Go.Proofs.YtdnfjhflkkpokaaGreatDoor.Av
