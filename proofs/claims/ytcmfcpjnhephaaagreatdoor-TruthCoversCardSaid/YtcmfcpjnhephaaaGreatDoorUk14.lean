/- Joined texts of the walk, made small by a program. -/
import Derived.Test.YtcmfcpjnhephaaaGreatDoorUk13
import Derived.Test.YtcmfcpjnhephaaaGreatDoorUk12
import Derived.Test.YtcmfcpjnhephaaaGreatDoorUk8
import Derived.Test.YtcmfcpjnhephaaaGreatDoorUk5
import Derived.Test.YtcmfcpjnhephaaaGreatDoorUk4
import Derived.Test.YtcmfcpjnhephaaaGreatDoorRows
import Derived.KernelRfl
import Derived.Test.YtcmfcpjnhephaaaGreatDoorUk11
import Derived.Test.YtcmfcpjnhephaaaGreatDoorUk9
import Derived.Test.YtcmfcpjnhephaaaGreatDoorUk10
set_option linter.unusedSimpArgs false
set_option linter.unusedVariables false
namespace Go.Proofs.YtcmfcpjnhephaaaGreatDoor.Av
open Go
variable {L:List Blk}{K:alp}
set_option maxHeartbeats 8000000
set_option maxRecDepth 100000
def Ub(id:Int):List Int->List Int
 |[]=>[id]
 |x::t=>if id<x then id::x::t else x::Ub id t
def Zy(l:List Int)(id:Int):List Int:=if l.contains id then l else Ub id l
def ZY(ls:List (List Int)):List Int:=ls.flatten.foldl Zy []
def agq(ls:List (List Int))(id:Int):Bool:=ls.all λl=>l.contains id
def af1(ls:List (List Int)):List Int:=(ZY ls).filter (agq ls)
theorem U5{a b:List Int}(ha:a.Pairwise (· < ·))(hb:b.Pairwise (· < ·))(h:∀x,x∈a↔x∈b):a=b:=by
 have na:a.Nodup:=ha.imp λh=>aoJ
 have nb:b.Nodup:=hb.imp λh=>aoJ
 have hp:a.Perm b:=(List.perm_ext_iff_of_nodup na nb).2 h;exact aoo (le:=λx y=>x<y) (λx y _ _ h1 h2=>aoJ) ha hb hp
theorem SS(id:Int):∀(l:List Int) (x:Int),x∈Ub id l↔x=id\/x∈l
 |[],x=>by simp[Ub]
 | y::t,x=>by
   simp only[Ub];split
   .simp
   .simp only[alu,SS id t x];constructor
    .rintro(h|h|h)
     .exact .inr (.inl h)
     .exact .inl h
     .exact .inr (.inr h)
    .rintro(h|h|h)
     .exact .inr (.inl h)
     .exact .inl h
     .exact .inr (.inr h)
theorem Z8(id:Int):∀l:List Int,l.Pairwise (· < ·)->id∉l->(Ub id l).Pairwise (· < ·)
 |[],_,_=>by simp[Ub]
 | y::t,h,hn=>by
   rw[al7]at h;simp only[alu,not_or]at hn;simp only[Ub];split
   .rename_i hlt;refine al7.2 ⟨λx hx=>?_,al7.2 h⟩;rcases alu.1 hx with rfl|hx
    .exact hlt
    .have:=h.1 x hx;omega
   .rename_i hlt;refine al7.2 ⟨λx hx=>?_,Z8 id t h.2 hn.2⟩;rcases(SS id t x).1 hx with rfl|hx
    .omega
    .exact h.1 x hx
theorem afA(l:List Int)(id x:Int):x∈Zy l id↔x=id\/x∈l:=by unfold Zy;split;rename_i h;rw[ame]at h;constructor;exact .inr;rintro(rfl|h');exact h;exact h';exact SS id l x
theorem aig(l:List Int)(id:Int)(h:l.Pairwise (· < ·)):(Zy l id).Pairwise (· < ·):=by unfold Zy;split;exact h;rename_i hc;rw[ame]at hc;exact Z8 id l h hc
theorem aam(l:List Int):∀r:List Int,r.Pairwise (· < ·)->(l.foldl Zy r).Pairwise (· < ·)/\∀x,x∈l.foldl Zy r↔x∈r\/x∈l:=by
 induction l with
 |nil=>exact λr h=>⟨h,aoK⟩
 | cons y l ih =>
   intro r h;obtain⟨h1,h2⟩:=ih (Zy r y) (aig r y h);refine⟨h1,λx=>?_⟩;rw[ami,h2,afA,alu];constructor
   .rintro((h|h)|h)
    .exact .inr (.inl h)
    .exact .inl h
    .exact .inr (.inr h)
   .rintro(h|h|h)
    .exact .inl (.inr h)
    .exact .inl (.inl h)
    .exact .inr h
theorem ZX(ls:List (List Int)):(ZY ls).Pairwise (· < ·):=(aam ls.flatten [] .nil).1
theorem XJ(ls:List (List Int))(x:Int):x∈ZY ls↔x∈ls.flatten:=by simpa[ZY]using(aam ls.flatten [] .nil).2 x
theorem abX{l:List Int}(h:l.Pairwise (·<=·)):(mw l).Pairwise (· < ·):=by
 unfold mw Lib.compact Lib.compactUpTo;rw[an2];have h0:(List.range l.length).Pairwise (· < ·):=List.pairwise_lt_range;refine List.Pairwise.imp_of_mem (R:=λi j=>i<j) (λ{i j} hi hj hij=>?_) (h0.filter _);rw[alZ,anH]at hi hj;have hk:=hj.2;simp only[Lib.keeps,decide_eq_true_eq]at hk;rcases hk with hk|hk;omega;have hle:=aol.1 h;have hj1:j-1<l.length:=aoJ;have e1:(l.toArray[j]!)=l[j]:=by simp[hj.1]
 have e2:(l.toArray[j-1]!)=l[j-1]:=by simp[hj1]
 have e3:(l.toArray[i]!)=l[i]:=by simp[hi.1]
 rw[e1,e2]at hk;rw[e1,e3];have a1:l[i]<=l[j-1]:=by rcases alK i (j-1)with h1|h1;exact hle i (j-1) hi.1 hj1 h1;have:i=j-1:=aoJ;subst this;exact Int.le_refl _
 have a2:l[j-1]<=l[j]:=hle (j-1) j hj1 hj.1 aoJ;omega
theorem aay(l:List Int)(x:Int):x∈mw l↔x∈l:=by
 refine⟨λh=>(Ug l).subset h,λh=>?_⟩;obtain⟨j,hj,rfl⟩:=amJ.1 h;have key:∀(n j:Nat) (hj:j<l.length),j<=n->∃(i:Nat) (hi:i<l.length),l[i]=l[j]/\Lib.keeps l.toArray i=true:=by
  intro n;induction n with
  | zero =>
    intro j hj hn;exact⟨j,hj,rfl,by simp[Lib.keeps,show j=0 by omega]⟩
  | succ n ih =>
    intro j hj hn;by_cases h0:j=0
    .exact⟨j,hj,rfl,by simp[Lib.keeps,h0]⟩
    by_cases he:l[j]'hj=l[j-1]
    .obtain⟨i,hi,e1,e2⟩:=ih (j-1) aoJ aoJ;exact⟨i,hi,by rw[e1,he],e2⟩
    .refine⟨j,hj,rfl,?_⟩;have hj1:j-1<l.length:=aoJ;simp only[Lib.keeps,decide_eq_true_eq];refine .inr ?_;simpa[hj,hj1]using he
 obtain⟨i,hi,e1,e2⟩:=key j j hj (alr _);rw[<- e1];unfold mw Lib.compact Lib.compactUpTo;refine alt.2 ⟨i,alZ.2 ⟨anH.2 hi,e2⟩,by simp[hi]⟩
theorem X8(xs:List Int):(cg xs).Pairwise (· < ·):=abX (xt xs)
theorem Px(xs:List Int)(x:Int):x∈cg xs↔x∈xs:=(aay _ x).trans (df xs).mem_iff
theorem ae8(o l:List Int)(x:Int):x∈jS o l↔x∈o/\x∈l:=by simp[jS,alZ,Px]
theorem aef(ls:List (List Int)):∀o:List Int,o.Pairwise (· < ·)->(ls.foldl jS o).Pairwise (· < ·)/\∀x,x∈ls.foldl jS o↔x∈o/\∀l∈ls,x∈l:=by
 induction ls with
 |nil=>exact λo h=>⟨h,aoK⟩
 | cons l ls ih =>
   intro o h;obtain⟨h1,h2⟩:=ih (jS o l) (h.filter _);refine⟨h1,λx=>?_⟩;rw[ami,h2,ae8];constructor
   .rintro⟨⟨a,b⟩,c⟩;refine⟨a,λm hm=>?_⟩;rcases alu.1 hm with rfl|hm
    .exact b
    .exact c m hm
   .rintro⟨a,b⟩;exact⟨⟨a,b l aoK⟩,λm hm=>b m (amB _ hm)⟩
theorem XN(ls:List (List Int))(x:Int):agq ls x=true↔∀l∈ls,x∈l:=by simp[agq,alC]
theorem acD:∀ls:List (List Int),af1 ls=xk ls
 |[]=>rfl
 | l::ls=>by
   obtain⟨h1,h2⟩:=aef ls (cg l) (X8 l);refine U5 ((ZX _).filter _) h1 λx=>?_
   show x∈(ZY (l::ls)).filter _↔x∈ls.foldl jS (cg l);rw[alZ,XJ,XN,h2,Px];constructor
   .rintro⟨_,h⟩;exact⟨h l aoK,λm hm=>h m (amB _ hm)⟩
   .rintro⟨a,b⟩;refine⟨by simp[a],λm hm=>?_⟩;rcases alu.1 hm with rfl|hm
    .exact a
    .exact b m hm
theorem ah7{xs:List Int}{cap cap':Option Nat}(hn:xs.length<=1000000)(h:K (.bool true) L):alo 22 [.sl (cf xs) xs.length cap,.sl (cf xs) xs.length cap'] L K:=afg hn (by simpa using h)
theorem VQ{b:Nat}:∀ls:List (List Int),(∀l∈ls,l.length<=b)->ls.flatten.length<=ls.length*b
 |[],_=>aoK
 | l::ls,h=>by
   have h1:=VQ ls λm hm=>h m (amB _ hm)
   have h2:=h l aoK;simp only[List.flatten_cons,alJ,alA,anA];omega
abbrev RW(ls:List (List Int)):List Int:=cg ls.flatten
theorem SD:acZ xk RW:=by
 have hm:∀ls x,x∈xk ls↔x∈ls.flatten/\∀l∈ls,x∈l:=λls x=>by rw[<- acD,af1,alZ,XJ,XN]
 refine⟨λls x=>?_,λls x=>?_,λls=>?_,λls=>X8 _⟩;rw[hm];constructor;rintro⟨h1,h2⟩;refine⟨λe=>?_,h2⟩;subst e;cases h1;rintro⟨h1,h2⟩;cases ls with
 |nil=>exact absurd rfl h1
 |cons l r=>exact⟨List.mem_flatten.2 ⟨l,aoK,h2 l aoK⟩,h2⟩
 rw[RW,Px,List.mem_flatten];rw[<- acD,af1];exact List.Pairwise.sublist anw (ZX ls)
abbrev tyO(tm:TMp)(f:List UInt8):Option Int:=(cO tm f).map (·.2.1)
abbrev lfO(tm:TMp)(l:List bt):=XH (gg tm) (tyO tm) l
abbrev Lo(tm:TMp)(l:List bt)(w:Int):Flt->Option (List Int):=Y4 xk RW (lfO tm l) w
theorem Ld{mt jn:List (List Int)->List Int}{leaf:Int->List UInt8->List UInt8->List Pc->Option (List Int)}{w:Int}:∀ks:List Flt,F3 mt jn leaf w ks=ks.map (Y4 mt jn leaf w)
 |[]=>by rw[F3];rfl
 |f::r=>by rw[F3,Ld r];rfl
theorem uj:∀a b:List (Option (List Int)),bx (a++b)=bx a++bx b
 |[],b=>rfl
 |none::a,b=>by simp only[al3,bx,uj a b]
 |some x::a,b=>by simp only[al3,bx,uj a b]
theorem uh:∀{a:List (Option (List Int))}{l:List Int},l∈bx a↔some l∈a
 |[],l=>by simp[bx]
 |none::a,l=>by simp[bx,uh (a:=a)]
 |some x::a,l=>by simp[bx,uh (a:=a)]
theorem ui:∀a:List (Option (List Int)),(bx a).length<=a.length
 |[]=>by simp[bx]
 |none::a=>by simp only[bx,alA];have:=ui a;omega
 |some x::a=>by simp only[bx,alA];have:=ui a;omega
def InE(l:List bt)(m:List Int):Prop:=m.Pairwise (· < ·)/\∀x∈m,x∈l.map (·.1)
theorem InE.len{l:List bt}{m:List Int}(h:InE l m):m.length<=l.length:=by have:=Zx h.1 h.2;simpa using this
theorem acu{l:List bt}(hr:iO l)(f:List UInt8):InE l (mG l f):=⟨K2 hr,λx hx=>by obtain⟨a,h1,_⟩:=p9.1 hx;exact alt.2 ⟨_,h1,rfl⟩⟩
theorem aga{tm:TMp}{l:List bt}(hr:iO l){k:Int}{a v:List UInt8}{ps:List Pc}{m:List Int}(h:lfO tm l k a v ps=some m):InE l m:=by
 unfold lfO XH at h;rcases hq:tyO tm (af a)with _|syn;rw[hq]at h;cases h;rw[hq]at h;simp only at h;split at h;cases h;unfold agU;split;exact⟨.nil,λx hx=>by cases hx⟩;exact⟨XP hr,λx hx=>by obtain⟨a,h1,_⟩:=mo.1 hx;exact alt.2 ⟨_,h1,rfl⟩⟩
 split at h;cases h;exact acu hr _;split at h;cases h;unfold RS;refine⟨List.Pairwise.sublist anw (K2 hr),λx hx=>(acu hr _).2 x (alZ.1 hx).1⟩;cases h
theorem aaJ{l:List bt}{k:Int}{os:List (Option (List Int))}(h:∀m∈bx os,InE l m){m:List Int}(e:Wx xk RW k os=some m):InE l m:=by
 refine⟨adU SD e,λx hx=>?_⟩;unfold Wx at e;split at e;split at e;cases e;rename_i hne;cases e;obtain⟨_,h2⟩:=(SD.mtM _ _).1 hx;cases hs:bx os with
 |nil=>exact absurd hs hne
 |cons y r=>exact(h y (by rw[hs];simp)).2 x (h2 y (by rw[hs];simp))
 split at e;cases e;obtain⟨y,h1,h2⟩:=(SD.jnM _ _).1 hx;exact(h y h1).2 x h2;cases e
theorem ac4{w:Int}{o:Option (List Int)}{m:List Int}(h:Tu w o=some m):o=some m/\(m.length:Int)<=w:=by
 cases o with
 |none=>cases h
 | some x =>
   rw[Tu]at h;split at h
   .cases h
   .cases h;exact⟨rfl,aoJ⟩
theorem Y3{tm:TMp}{l:List bt}(hr:iO l){w:Int}:∀f:Flt,∀m,Lo tm l w f=some m->InE l m:=by
 refine R5 λk a v ps ks ih m h=>?_
 rw[Lo,Y4]at h;have h1:=(ac4 h).1;split at h1;refine aaJ (λy hy=>?_) h1;rw[uh,Ld,alt]at hy;obtain⟨x,hx,e⟩:=hy;exact ih x hx y e;exact aga hr h1
def PP:Option (List Int)->AV
 |none=>.tup [.sl [] 0 (some 0),.bool false]
 |some m=>.tup [rH m,.bool true]
theorem adV{L:List Blk}{it:Nat}{tm:TMp}{l:List bt}{B:Nat->Prop}(ho:IxO L it tm l B){n:List UInt8}(hn:bv n){K:alp}(h:K (.bool ((tyO tm (af n)).elim false λs=>decide (s<=3))) L):alo 109 [.ptr it 0,.str n] L K:=by have kk1:Hid (∀{K:alp},K (.bool (cO tm (af n)).isSome) L->alo 11 [.ptr it 0,.str n] L K):=@hid _ (λ{K} q=>RX ho hn q);obtain⟨im,ie,ip,ii,em,ec,pm,pc,dm,dc,h1,h2,h3,h4⟩:=ho;obtain⟨f,hf⟩:=alj (af n);have kk2:Hid (Ctr Tryz.prog 38 [.str n] (.str f)):=@hid _ (by intro L K q;exact fv hn (by rw[hf];exact q));unfold tyO at h;rw[hf]at h kk1;have hst:=h1.st;have hty:=h1.ty;have hks:bE .str (.str f)=true:=rfl;rcases dk (va:=tyV) rm h1.tok f qm with⟨j,⟨w1,w2,w3,w4⟩,q1,q2,_⟩|⟨q1,q2,_⟩;rw[q1]at h kk1;simp only[amQ,alL,Option.elim]at kk1 h;replace h:=hid h;clear h1 h2 h3 h4 q1;refine aln mB ?_;exact aa h.o;rw[q1]at h kk1;simp only[amO,alX,Option.elim]at kk1 h;replace h:=hid h;clear h1 h2 h3 h4 q1;refine aln mB ?_;exact aa h.o
def alf(o:Option (List Int))(v:AV)(b:Bool):Prop:=match o with
 |some m=>v=rH m/\b=true
 |none=>b=false/\∃m c,v=.sl (cf m) m.length c
theorem afl(l:List Int):AV.frz (eJ l)=eJ l:=by simp only[AV.frz,xw]
theorem Sz:∀ls:List (List Int),AV.frzL (ls.map eJ)=ls.map eJ
 |[]=>rfl
 |l::r=>by simp only[alD,AV.frzL,afl,Sz r]
theorem iZ(p:Nat->Bool):∀l:List Int,AV.refsL p (l.map (AV.int .i64))=true
 |[]=>rfl
 |x::l=>by simp only[alD,AV.refsL,AV.refs,iZ p l,amr]
theorem ai3{L:List Blk}{it:Nat}{tm:TMp}{l:List bt}{w:Int}{f:Flt}{o:Option (List Int)}(hr:∀m,o=some m->m.length<=1000000)(hb:∀{X:List Blk}{K:alp},(∀v b,alf o v b->K (.tup [v,.bool b]) (L++X))->alo 59 [.ptr it 0,.agg (fA f),.int .i64 w] (L++X) K){K:alp}(h:K (PP (Tu w o)) L):alo 27 [.ptr it 0,.agg (fA f),.int .i64 w] L K:=by
 obtain⟨k,a,v,ps,ks⟩:=f;replace hb:=@hid _ @hb;rw[Kk]at hb⊢;obtain⟨PS,hPS⟩:∃P,P=iP ps:=⟨_,rfl⟩;obtain⟨KS,hKS⟩:∃P,P=fsA ks:=⟨_,rfl⟩;rw[<- hPS,<- hKS]at hb⊢;clear hPS hKS;cases o with
 | none =>
   simp only[Tu,PP]at h;replace h:=hid h;refine aln qy ?_;refine hb.o λv b hv=>?_
   obtain⟨rfl,m,c,rfl⟩:=hv;refine aoR ?_;exact ab rfl h.o
 | some m =>
   by_cases hw:w<(m.length:Int)
   .rw[Tu,if_pos hw]at h;simp only[PP]at h;replace h:=hid h;replace hr:=hid hr;refine aln qy ?_;refine hb.o λv b hv=>?_
    obtain⟨rfl,rfl⟩:=hv;refine aoR ?_;exact ab rfl h.o
   .rw[Tu,if_neg hw]at h;simp only[PP]at h;replace h:=hid h;replace hr:=hid hr;refine aln qy ?_;refine hb.o λv b hv=>?_
    obtain⟨rfl,rfl⟩:=hv;refine aoR ?_;exact ab (by simp only[AV.refs,AV.refsL,iZ,amr]) h.o
theorem aeC{L:List Blk}{it:Nat}{tm:TMp}{l:List bt}{B:Nat->Prop}{w:Int}(ho:IxO L it tm l B)(hi:Uj l):∀(f:Flt),WI f->∀{X:List Blk}{K:alp},K (PP (Lo tm l w f)) (L++X) ->
  alo 27 [.ptr it 0,.agg (fA f),.int .i64 w] (L++X) K:=by
 have hrs:=ho.rise;have hlen:∀{m:List Int},InE l m->m.length<=1000:=λh=>alQ h.len hi.len
 refine R5 λk a v ps ks ih hrd X K h=>?_
 have hin:=Y3 (tm:=tm) (w:=w) hrs;simp only[FlB]at hrd;obtain⟨r1,r2,r3,r4,r5,r6⟩:=hrd;have hn:bv a:=by unfold bv;omega
 have ih2:∀x∈ks,∀{X:List Blk}{K:alp},K (PP (Lo tm l w x)) (L++X)->alo 27 [.ptr it 0,.agg (fA x),.int .i64 w] (L++X) K:=λx hx {X K} q=>ih x hx (So r6 x hx) q
 replace ih2:=@hid _ @ih2;clear ih r6;obtain⟨o,ho'⟩:=alj ((if k=0\/k=1 then Wx xk RW k (F3 xk RW (lfO tm l) w ks)else lfO tm l k a v ps));rw[Lo,Y4,ho']at h;refine ai3 (l:=l) (tm:=tm) (o:=o) (λm e=>?_) (λ{Y K} h=>?_) h;subst e;split at ho';refine alQ (hlen (aaJ (λy hy=>?_) ho')) aoJ;rw[uh,Ld,alt]at hy;obtain⟨x,hx,e⟩:=hy;exact hin x y e;exact alQ (hlen (aga hrs ho')) aoJ;clear hin;obtain⟨M,hM⟩:=alj (L++X++Y);rw[hM]at h⊢;have hMW:∀W,M++W=L++(X++Y++W):=λW=>by rw[<- hM];simp
 have hoW:Hid (∀W,IxO (M++W) it tm l B):=hid λW=>by rw[hMW];exact ho.app _
 have ih3:∀x∈ks,∀{W:List Blk}{K:alp},K (PP (Lo tm l w x)) (M++W)->alo 27 [.ptr it 0,.agg (fA x),.int .i64 w] (M++W) K:=λx hx {W K} q=>by rw[hMW]at q⊢;exact ih2.o x hx q
 replace ih3:=@hid _ @ih3;clear ih2 hMW hM;rw[Kk];obtain⟨PS,hPS⟩:∃P,P=iP ps:=⟨_,rfl⟩;obtain⟨KS,hKS⟩:∃P,P=fsA ks:=⟨_,rfl⟩;rw[<- hPS,<- hKS];replace hPS:=hid hPS;replace hKS:=hid hKS;by_cases hk:k=0\/k=1;rw[if_pos hk,Ld]at ho';obtain⟨V,hV⟩:=alj (ks.map (Lo tm l w));rw[hV]at ho';replace hV:=hid hV;have hnl:V.length=ks.length:=by rw[<- hV.o];simp
 have hVin:∀m∈bx V,m.length<=1000:=λm hm=>by rw[uh,<- hV.o,alt]at hm;obtain⟨x,_,e⟩:=hm;exact hlen (Y3 hrs x m e)
 have hSl:(bx V).length<=60:=by have:=ui V;omega
 have hFl:(bx V).flatten.length<=1000000:=by have:=VQ (b:=1000) (bx V) hVin;have:(bx V).length*1000<=60*1000:=amw _ hSl;omega
 have stp:∀i:Nat,i<ks.length->∃q:Flt,Hid ((KS.drop (i*5)).take 5=fA q/\i*5+5<=KS.length/\(∀{W:List Blk}{K:alp},K (PP (Lo tm l w q)) (M++W)->alo 27 [.ptr it 0,.agg (fA q),.int .i64 w] (M++W) K)/\(i:Int)<(ks.length:Int)/\IntKind.i64.wrap ((i:Int)+1)=(i:Int)+1/\V.take (i+1)=V.take i++[Lo tm l w q]):=λi hlt=>by
  refine⟨ks.getD i ZN,hid ⟨?_,?_,?_,aoJ,ad aoJ aoJ,?_⟩⟩;rw[hKS.o];exact YO hlt;rw[hKS.o,UO];omega;exact λq=>ih3.o _ (by simp[hlt]) q
  rw[alN aoJ];congr 1;simp[<- hV.o,hlt]
 have e1:∀A:Blk,(M++[A]).length=M.length+1:=λA=>aoK
 clear hrs hlen ih3;replace h:=hid h;replace ho':=hid ho';refine ac dh (by simp[bA]) ?_;simp only[bA,am];rcases hk with rfl|rfl;refine wk ?_;refine bF (l:=[]) (n:=0) 8 1 rfl (alU 1).symm ?_;rw[e1];refine ah (λm T' L'=>∃(i n:Nat) (C:List AV) (Y:List Blk),m=ks.length-i/\i<=ks.length/\Hid (C=(bx (V.take i)).map eJ/\n=(bx (V.take i)).length)/\T'=[(21,.int .i64 (i:Int)),(20,.int .i64 ks.length),(19,.sl KS ks.length none),(8,.gsl C n (M.length+1) 1),(4,.ptr M.length 0),(0,.ptr it 0),(2,.int .i64 w)]/\L'=M++(.cells [.int .i64 0,.str a,.str v,.sl PS ps.length none,.sl KS ks.length none] :: .spare n 1::Y)) aoN ⟨0,0,[],[],rfl,alw _,hid ⟨rfl,rfl⟩,rfl,aoK⟩ ?_;rintro _ _ _ ⟨i,n,C,Y,rfl,hi,hC,rfl,rfl⟩;by_cases hlt:i<ks.length;obtain⟨q,hq⟩:=stp i hlt;obtain⟨e3,e4,e5,g1,g2,e6⟩:=hq.o;cases ha:Lo tm l w q with
 | none =>
   rw[ha]at e5 e6;simp only[PP]at e5;have kk1:=@hid _ @e5;have hC2:=hid (show C=(bx (V.take (i+1))).map eJ/\n=(bx (V.take (i+1))).length by rw[e6,uj];simpa[bx]using hC.o)
   clear e5 hq e6 ha;simp only[O9]at e3 kk1;refine wk ?_;exact aoO aoJ aoN ⟨i+1,n,C,_,rfl,hlt,hC2,rfl,rfl⟩
 | some m =>
   have hn60:n<=60:=by have h1:=hC.o.2;have h2:=ui (V.take i);rw[anl]at h2;omega
   rw[ha]at e5 e6;simp only[PP]at e5;have kk1:=@hid _ @e5;have hC2:=hid (show C++[eJ m]=(bx (V.take (i+1))).map eJ/\n+1=(bx (V.take (i+1))).length by
    rw[e6,uj];refine⟨?_,?_⟩
    .rw[hC.o.1];simp[bx]
    .rw[hC.o.2];simp[bx])
   clear e5 hq e6 ha;simp only[O9]at e3 kk1;refine wk ?_;exact aoO aoJ aoN ⟨i+1,n+1,_,_,rfl,hlt,hC2,rfl,rfl⟩
 have hke:i=ks.length:=aoJ;subst hke;have g1:¬(ks.length:Int)<(ks.length:Int):=aoJ;have hE:C=(bx (V.take ks.length)).map eJ/\n=(bx (V.take ks.length)).length:=⟨hC.o.1,hC.o.2⟩;clear stp;rw[<- hnl,alF]at hE;obtain⟨rfl,rfl⟩:=hE;have hnl':=hnl;replace hnl:=hid hnl;replace hSl:=hid hSl;replace hFl:=hid hFl;have kk1:Hid (∀{i:Nat}{W:List Blk}{K:alp},K (eJ (xk (bx V))) W->alo 29 [.gsl ((bx V).map eJ) (bx V).length i 1] W K):=@hid _ (λ{i W K} q=>eY (by simpa only[AV.frzL,AV.frz,Sz]using acE (cap:=none) (by have:=hSl.o;omega) (λm hm=>by have:=hVin m hm;omega) q));obtain⟨b,hb⟩:=alj (decide (0<((bx V).length:Int)));have h':=hid (h.o (eJ (xk (bx V))) b (by
  rw[<- ho'.o,Wx,if_pos rfl,<- hb];cases hs:bx V with
  |nil=>rw[if_pos rfl];exact⟨rfl,_,none,rfl⟩
  |cons x r=>rw[if_neg aoK];exact⟨rfl,aoK⟩))
 obtain⟨ls,hls⟩:=alj (bx V);obtain⟨R,hR⟩:=alj (xk ls);rw[hls]at kk1 h' hb⊢;rw[hR]at kk1 h';clear ho' hVin hls hR;cases b with
 | true =>
   have g3:(0:Int)<(ls.length:Int):=of_decide_eq_true hb;have g4:(ls.length:Int)>0:=g3;replace hb:=hid hb;refine wk ?_;exact ab (by simp only[AV.refs,AV.refsL,iZ,amr]) h'.o
 | false =>
   have g3:¬(0:Int)<(ls.length:Int):=of_decide_eq_false hb;have g4:¬(ls.length:Int)>0:=g3;replace hb:=hid hb;refine wk ?_;exact ab (by simp only[AV.refs,AV.refsL,iZ,amr]) h'.o
 refine wk ?_;refine bF (l:=[]) (n:=0) 8 1 rfl (alU 1).symm ?_;rw[e1];refine ah (λm T' L'=>∃(i n:Nat) (C:List AV) (Y:List Blk),m=ks.length-i/\i<=ks.length/\Hid (C=(bx (V.take i)).map eJ/\n=(bx (V.take i)).length/\(V.take i).all Option.isSome=true)/\T'=[(21,.int .i64 (i:Int)),(20,.int .i64 ks.length),(19,.sl KS ks.length none),(8,.gsl C n (M.length+1) 1),(4,.ptr M.length 0),(0,.ptr it 0),(2,.int .i64 w)]/\L'=M++(.cells [.int .i64 1,.str a,.str v,.sl PS ps.length none,.sl KS ks.length none] :: .spare n 1::Y)) aoN ⟨0,0,[],[],rfl,alw _,hid ⟨rfl,rfl,rfl⟩,rfl,aoK⟩ ?_;rintro _ _ _ ⟨i,n,C,Y,rfl,hi,hC,rfl,rfl⟩;by_cases hlt:i<ks.length;obtain⟨q,hq⟩:=stp i hlt;obtain⟨e3,e4,e5,g1,g2,e6⟩:=hq.o;cases ha:Lo tm l w q with
 | none =>
   rw[ha]at e5 e6;simp only[PP]at e5;have kk1:=@hid _ @e5;have hV':none∈V:=List.mem_of_mem_take (i:=i+1) (by rw[e6];simp);have h':=hid (h.o (.sl [] 0 (some 0)) false (by
    rw[<- ho'.o,Wx,if_neg aoJ,if_neg (λe=>by have:=alC.1 e _ hV';cases this)]
    exact⟨rfl,[],_,rfl⟩))
   clear e5 hq e6 ha hV';simp only[O9]at e3 kk1;refine wk ?_;exact ab rfl h'.o
 | some m =>
   have hn60:n<=60:=by have h1:=hC.o.2.1;have h2:=ui (V.take i);rw[anl]at h2;omega
   rw[ha]at e5 e6;simp only[PP]at e5;have kk1:=@hid _ @e5;have hC2:=hid (show C++[eJ m]=(bx (V.take (i+1))).map eJ/\n+1=(bx (V.take (i+1))).length/\(V.take (i+1)).all Option.isSome=true by
    rw[e6,uj];refine⟨?_,?_,?_⟩
    .rw[hC.o.1];simp[bx]
    .rw[hC.o.2.1];simp[bx]
    .rw[an1,hC.o.2.2];rfl)
   clear e5 hq e6 ha;simp only[O9]at e3 kk1;refine wk ?_;exact aoO aoJ aoN ⟨i+1,n+1,_,_,rfl,hlt,hC2,rfl,rfl⟩
 have hke:i=ks.length:=aoJ;subst hke;have g1:¬(ks.length:Int)<(ks.length:Int):=aoJ;have hE:C=(bx (V.take ks.length)).map eJ/\n=(bx (V.take ks.length)).length:=⟨hC.o.1,hC.o.2.1⟩;clear stp;rw[<- hnl,alF]at hE;obtain⟨rfl,rfl⟩:=hE;have hall:=hC.o.2.2;rw[<- hnl,alF]at hall;replace hnl:=hid hnl;replace hSl:=hid hSl;replace hFl:=hid hFl;have kk1:Hid (∀{i:Nat}{W:List Blk}{K:alp},K (eJ (RW (bx V))) W->alo 108 [.gsl ((bx V).map eJ) (bx V).length i 1] W K):=@hid _ (λ{i W K} q=>eY (by simpa only[AV.frzL,AV.frz,Sz]using aiv (cap:=none) (by have:=hSl.o;omega) hFl.o q));have h':=hid (h.o (eJ (RW (bx V))) true (by rw[<- ho'.o,Wx,if_neg aoJ,if_pos hall];exact⟨rfl,rfl⟩))
 obtain⟨R,hR⟩:=alj (RW (bx V));obtain⟨ls,hls⟩:=alj (bx V);rw[hR]at kk1 h';rw[hls]at kk1⊢;clear ho' hVin hls hR hall hC;refine wk ?_;exact ab (by simp only[AV.refs,AV.refsL,iZ,amr]) h'.o;rw[if_neg hk]at ho';have k0:¬k=0:=λe=>hk (.inl e)
 have k1:¬k=1:=λe=>hk (.inr e)
 clear hk ih3 hKS;have kkH:Hid (∀{W:List Blk}{K:alp},K (.bool (cO tm (af a)).isSome) (M++W)->alo 11 [.ptr it 0,.str a] (M++W) K):=@hid _ (λ{W K} q=>RX (hoW.o W) hn q);unfold lfO XH at ho';by_cases k38:k=3\/k=8
 .have kkE:Hid (∀{W:List Blk}{K:alp},K (rH (agT tm l a v)) (M++W)->alo 18 [.ptr it 0,.str a,.str v] (M++W) K):=@hid _ (λ{W K} q=>aiy (hoW.o W) hi hn q);obtain⟨b,hb⟩:=alj ((cO tm (af a)).isSome);obtain⟨R,hR⟩:=alj (agT tm l a v);have h':=h (rH R) b (by
   rw[<- ho',<- hb,<- hR];unfold agT tyO;cases hg:cO tm (af a)with
   |none=>exact⟨rfl,[],none,rfl⟩
   |some ty=>simp only[alL,if_pos k38];exact⟨rfl,rfl⟩)
  rw[hb]at kkH;rw[hR]at kkE;have kk1:=@kkE;have kk2:=@kkH;replace h':=hid h';clear h ho' hR hb kkE kkH hoW;refine ac dh (by simp[bA]) ?_;simp only[bA,am];rcases k38 with rfl|rfl
  all_goals
   refine wk ?_;exact ab (by simp only[AV.refs,AV.refsL,iZ,amr]) h'.o
 by_cases k7:k=7;have kkE:Hid (∀{W:List Blk}{K:alp},K (rH (ZA tm l a)) (M++W)->alo 14 [.ptr it 0,.str a] (M++W) K):=@hid _ (λ{W K} q=>age (hoW.o W) hi hn q);obtain⟨b,hb⟩:=alj ((cO tm (af a)).isSome);obtain⟨R,hR⟩:=alj (ZA tm l a);have h':=h (rH R) b (by
  rw[<- ho',<- hb,<- hR];unfold ZA tyO;cases hg:cO tm (af a)with
  |none=>exact⟨rfl,[],none,rfl⟩
  |some ty=>simp only[alL,if_neg k38,if_pos k7];exact⟨rfl,rfl⟩)
 rw[hb]at kkH;rw[hR]at kkE;have kk1:=@kkE;have kk2:=@kkH;replace h':=hid h';clear h ho' hR hb kkE kkH hoW;subst k7;refine aln dh ?_;exact ab (by simp only[AV.refs,AV.refsL,iZ,amr]) h'.o;have k3:¬k=3:=λe=>k38 (.inl e)
 have k8:¬k=8:=λe=>k38 (.inr e)
 by_cases k4:k=4;rotate_left;have h':=h (.sl [] 0 (some 0)) false (by
  rw[<- ho'];unfold tyO;cases hg:cO tm (af a)with
  |none=>exact⟨rfl,[],_,rfl⟩
  |some ty=>simp only[alL,if_neg k38,if_neg k7,if_neg (λe:k=4/\_=>k4 e.1)];exact⟨rfl,[],_,rfl⟩)
 replace h':=hid h';clear h ho' kkH hoW k38;refine aln dh ?_;exact ab rfl h'.o;subst k4;have kkT:Hid (∀{W:List Blk}{K:alp},K (.bool ((tyO tm (af a)).elim false λs=>decide (s<=3))) (M++W)->alo 109 [.ptr it 0,.str a] (M++W) K):=@hid _ (λ{W K} q=>adV (hoW.o W) hn q);have kkC:Hid (∀{W:List Blk}{K:alp},K (.int .i64 (if tz ps=true then 0 else 4)) W->alo 76 [.agg [.int .i64 4,.str [97],.str [],.sl PS ps.length none,.sl [] 0 (some 0)]] W K):=@hid _ (λ{W K} q=>by rw[hPS.o];exact ql aoJ q)
 have kkL:Hid (∀{W:List Blk}{K:alp},K (rH (air tm l a ps)) (M++W)->alo 13 [.ptr it 0,.str a,.sl PS ps.length none] (M++W) K):=@hid _ (λ{W K} q=>by rw[hPS.o];exact agf (hoW.o W) hi hn ⟨aoJ,λp hp=>by have:=r4 p hp;omega⟩ q)
 unfold tyO at ho' kkT;unfold air at kkL;cases hg:cO tm (af a)with
 | none =>
   rw[hg]at ho' kkH kkT;simp only[alX,amO]at ho' kkH;have h':=h (.sl [] 0 (some 0)) false (by rw[<- ho'];exact⟨rfl,[],_,rfl⟩);have kk1:=@kkH;replace h':=hid h';clear h ho' kkH kkT kkC kkL hoW hPS hg k38;refine aln dh ?_;exact ab rfl h'.o
 | some ty =>
   rw[hg]at ho' kkH kkT kkL;simp only[alL,amQ,Option.elim]at ho' kkH kkT kkL;rw[if_neg k38,if_neg k7]at ho';by_cases hs:ty.2.1<=3;rotate_left
   .rw[if_neg (by simp[hs])]at ho';simp only[hs,decide_false]at kkT;have h':=h (.sl [] 0 (some 0)) false (by rw[<- ho'];exact⟨rfl,[],_,rfl⟩);have kk1:=@kkH;have kk2:=@kkT;replace h':=hid h';clear h ho' kkH kkT kkC kkL hoW hPS hg k38 hs;refine aln dh ?_;exact ab rfl h'.o
   .simp only[hs,decide_true]at kkT;cases hp:tz ps with
    | false =>
      rw[hp]at ho' kkC;rw[if_neg aoK]at ho';simp only[alG,if_false]at kkC;have h':=h (.sl [] 0 (some 0)) false (by rw[<- ho'];exact⟨rfl,[],_,rfl⟩);have kk1:=@kkH;have kk2:=@kkT;have kk3:=@kkC;replace h':=hid h';clear h ho' kkH kkT kkC kkL hoW hPS hg k38 hs hp;refine aln dh ?_;exact ab rfl h'.o
    | true =>
      rw[hp]at ho' kkC;rw[if_pos (by simp[hs])]at ho';simp only[if_true]at kkC;obtain⟨R,hR⟩:=alj (RS (gg tm) l (af a) ty.2.1 ps);rw[hR]at kkL ho';have h':=h (rH R) true (by rw[<- ho'];exact⟨rfl,rfl⟩);have kk1:=@kkH;have kk2:=@kkT;have kk3:=@kkC;have kk4:=@kkL;replace h':=hid h';clear h ho' kkH kkT kkC kkL hoW hPS hg k38 hs hp hR;refine aln dh ?_;exact ab (by simp only[AV.refs,AV.refsL,iZ,amr]) h'.o
end Go.Proofs.YtcmfcpjnhephaaaGreatDoor.Av
set_option maxRecDepth 100000
namespace Go.Proofs.YtcmfcpjnhephaaaGreatDoor.Av
open Go
def Jw:LSO:=[AU 4,AU 5]
def Jv:LSO:=[Bz 15 20,Cd 6,Aj 2 6 15]
def Ju:LSO:=[Ap 17 2 6,Aa 18 0,Ar 19 19 17 18,Aa 16 19,Aq 20 16,Au 21 16,Aa 7 20,Aa 8 21]
def Jt:LSO:=[Ap 23 2 6,Aa 24 0,Ar 25 32 23 24,Aa 22 25,Aq 26 22,Au 27 22,Aa 9 26,Aa 10 27]
def Js:LSO:=[Aa 28 8,AC 29 28 0,Aa 30 29,.grp none 30 false
 [Ah 31 30 7,og 32 30 false (.eqk false .ptr (tm 31) (.av .nilptr))]
 33 (tm 32),Aa 34 33,.grp none 34 false
 [Ah 35 34 9,og 36 34 false (.eqk false .ptr (tm 35) (.av .nilptr))]
 37 (tm 36),Aa 38 37,.grp none 38 false
 [Ah 39 38 1,Bh 40 38 39,A9 41 38 40 30]
 42 (tm 41)]
def Jr:LSO:=[AU 4,AU 5]
def Jq:LSO:=[Aa 43 1,Am 44 43,Ab 45 0]
def Jp:LSO:=[Ak 46 45 44]
def Jo:LSO:=[Ao 47 2 43 45,Ap 48 2 47,BY 12,Aj 2 12 48]
def Jn:LSO:=[Ad 49 1 12,Ac 50 1 49,Ai 51 33 50,Ay 52 51]
def Fu:LSO:=[AU 4,AU 5]
def Fs:LSO:=[Ap 54 2 6,Ad 55 1 12,Ac 56 1 55,Ar 57 34 54 56,Aa 53 57,Aq 58 53,Au 59 53,Aa 13 58,Aa 14 59]
def Fq:LSO:=[Aa 60 14,An 61 60 0,Aa 62 61,.grp none 62 true
 [AA 63 62 1 12,A6 64 62 1 63,Bo 65 62 64,Cs 66 62 65 0]
 67 (tm 66)]
def Fp:LSO:=[Aa 68 7,Ad 69 0 12,Ac 70 1 69,Aa 71 13,A8 72 21 68 70 71]
def Fo:LSO:=[Aa 73 9,Ad 74 0 12,Ac 75 1 74,Aa 76 13,A8 77 37 73 75 76]
def Fn:LSO:=[Ag 78 45 1,Aa 45 78]
def Fm:LSO:=[Aa 79 7,Aa 80 9,Aa 4 79,Aa 5 80]
def mA:aQ:=⟨81,(aoC Jw [] (aoC Jv Cw (aoC Ju CE (aoC Jt Db (.seq (aoC Js C4 (aoE 42 (.sreg Jr []))) (.seq (aoC Jq [] (aoF 0 (aoC Jp [] (.seq (aoG 46 0) (.seq (.block 1 (aoC Jo Cx (.seq (aoC Jn Cy (aoE 52 (.sreg Fu []))) (aoC Fs CI (aoC Fq Cy (aoD 67 (aoC Fp CB (.sreg Fo CB)) .skip)))))) (.sreg Fn Cw)))))) (aoC Fm CH .ret))))))),[(.tmp 4),(.tmp 5)]⟩
attribute [push_cast] Jw Jv Ju Jt Js Jr Jq Jp Jo Jn Fu Fs Fq Fp Fo Fn Fm
theorem F2:aoH 24=aoI mA:=aoL
def nx:LSO:=[A4 2 0,Ae 4]
def nw:LSO:=[Ad 20 0 2,Ac 21 1 20,Ad 22 1 2,Ac 23 1 22,Ar 24 24 21 23,Aa 19 24,Aq 25 19,Au 26 19,Aa 5 25,Aa 6 26]
def nv:LSO:=[Aa 27 5,BV 28 27,Aa 29 28,AJ 30 29 2 2,og 31 29 false (.load true 5 (tm 30)),AP 32 29 25 31,Bc 33 29 32,
 o1 34 (.pick (tm 29) (.av (.bool true)) (tm 33))]
def nu:LSO:=[Bz 35 30,Aa 4 35]
def nr:LSO:=[Aa 37 5,Ad 38 2 2,Ap 39 5 38,Ad 40 7 2,Ac 41 1 40,A8 42 27 37 39 41,Aa 36 42,Aq 43 36,Au 44 36,Aa 7 43,Aa 8 44]
def nq:LSO:=[Aa 45 8,Ay 46 45]
def np:LSO:=[Bz 47 30,Aa 4 47]
def nl:LSO:=[Bz 48 20,Cd 9,Aj 2 9 48]
def nj:LSO:=[Aa 49 6,Ax 50 49,Ad 51 3 50,Ac 52 1 51,Am 53 52,Ab 54 0]
def ni:LSO:=[Ak 55 54 53]
def lS:LSO:=[Ao 56 2 52 54,Ap 57 2 56,BY 11,Aj 2 11 57]
def lR:LSO:=[Al 12]
def lQ:LSO:=[Ad 58 1 11,Ac 59 1 58,Am 60 59,Ab 61 0]
def lP:LSO:=[Ak 62 61 60]
def lO:LSO:=[Aa 63 61,Ao 64 2 59 61,Ap 65 2 64,Br 14,Aa 13 63,Aj 2 14 65]
def lN:LSO:=[Ad 66 1 14,Ac 67 1 66,Am 68 67,Ab 69 0]
def lM:LSO:=[Ak 70 69 68]
def lL:LSO:=[Ao 71 1 67 69,Ac 72 1 71,Aa 16 72]
def lK:LSO:=[Aa 73 16,Aw 74 73,A3 75 74 200]
def lJ:LSO:=[Az 4]
def lI:LSO:=[Ag 76 69 1,Aa 69 76]
def lH:LSO:=[Aa 77 1,Aa 78 13,BR 79 78 32,o1 80 (.bin .shr (tm 77) (tm 79)),o1 81 (.bin .and (tm 80) (.av (.int .u32 1))),
 o1 82 (.bin .eql (tm 81) (.av (.int .u32 0)))]
def lG:LSO:=[Aa 83 12,Ap 84 2 14,BI 85 84,BX 86 83 85,Aa 12 86]
def lF:LSO:=[Ag 87 61 1,Aa 61 87]
def lE:LSO:=[Ad 88 1 11,Ac 89 1 88,Aa 90 12,o1 91 (.bslice false 1 2 [(.sl [] 0 (some 0)),(.sl [] 0 (some 0))] [(0,(1,(tm 89))),(1,(1,(tm 90)))]),Am 92 91,
 Ab 93 0]
def lD:LSO:=[Ak 94 93 92]
def lC:LSO:=[Ao 95 1 91 93,Ac 96 1 95,Aa 18 96]
def lB:LSO:=[Ap 97 2 9,Ad 98 2 2,Ap 99 5 98,Aa 100 18,A8 101 31 97 99 100,An 102 101 1,Aa 103 102,.grp none 103 true
 [Af 104 103 7,AA 105 103 0 11,A6 106 103 1 105,og 107 103 true (.bslice false 1 1 [(.int .i64 0)] [(0,(1,(tm 106)))]),
 og 108 103 true (.bslice false 1 2 [(.sl [] 0 (some 0)),(.sl [] 0 (some 0))] [(0,(1,(tm 104))),(1,(1,(tm 107)))]),AL 109 103 29 108,AA 110 103 0 11,A6 111 103 1 110,
 og 112 103 true (.bslice false 1 1 [(.int .i64 0)] [(0,(1,(tm 111)))]),BG 113 103 22 109 112,Bp 114 103 113]
 115 (tm 114)]
def lA:LSO:=[Ae 4]
def lz:LSO:=[Ag 116 93 1,Aa 93 116]
def lw:LSO:=[Ag 117 54 1,Aa 54 117]
def lv:LSO:=[Bz 118 30,Aa 4 118]
def gY:aQ:=⟨119,(aoC nx [] (aoC nw CX (.seq (aoC nv C4 (aoE 34 (.sreg nu Cw))) (aoC nr CY (.seq (aoC nq Cw (aoE 46 (.sreg np Cw))) (aoC nl Cw (.seq (aoC nj CQ (aoF 0 (aoC ni [] (.seq (aoG 55 0) (.seq (.block 1 (aoC lS Cx (aoC lR [] (.seq (aoC lQ CF (aoF 2 (aoC lP [] (.seq (aoG 62 2) (.seq (.block 3 (aoC lO C6 (.seq (aoC lN CF (aoF 4 (aoC lM [] (.seq (aoG 70 4) (.seq (.block 5 (aoC lL Cx (aoC lK Cx (aoE 75 (.sreg lJ []))))) (.sreg lI Cw)))))) (aoC lH C0 (aoD 82 (.sreg lG Cz) .skip))))) (.sreg lF Cw)))))) (aoC lE CQ (aoF 6 (aoC lD [] (.seq (aoG 94 6) (.seq (.block 7 (aoC lC Cx (.seq (.sdreg lB [(.read 0 0),.pure,(.read 0 0),.pure,(.read 0 0),.pure,.pure,.pure,.pure,(.read 0 0),(.read 0 0),(.read 0 0),(.read 0 0),.pure,(.read 0 0),(.read 0 0)] C4) (aoE 115 (.sreg lA []))))) (.sreg lz Cw)))))))))) (.sreg lw Cw)))))) (aoC lv Cw .ret)))))))),[(.tmp 4)]⟩
attribute [push_cast] nx nw nv nu nr nq np nl nj ni lS lR lQ lP lO lN lM lL lK lJ lI lH lG lF lE lD lC lB lA lz lw lv
theorem yw:aoH 7=aoI gY:=aoL
attribute [push_cast] mA gY
set_option maxHeartbeats 8000000
set_option maxRecDepth 100000
structure akZ(L0:List Blk)(it im ie ip ii:Nat)(tm:TMp)(pm:List (bp (List UInt8) Nat))(pc:Nat)(L:List Blk):Prop where
 ix:IxH L it im ie ip ii tm tm.length [] 0 pm pc [] 0 (λ_ _=>False) (λ_ _=>False)
 bes:bK (λ_=>False) L0 L
 own:∀i,i∈it::im::ie::ip::ii::(pm.map (·.2.1)++([]:List (bp ba Nat)).map (·.2.1))->L0.length<=i
theorem aix{ts:List Typ}{capT:Option Nat}{c2:List AV}{n2:Nat}{cap2:Option Nat}{ns:List (List UInt8)}{cap:Option Nat}(hl:ts.length<=1100000)(hts:∀t∈ts,bv t.1)(hnl:(ns.length:Int)<=9223372036854775807)(hn:∀n∈ns,bv n){R:Int×TMp}(hR:RP ts [] ns=R){L:List Blk}{K:alp}(h0:∀L',R.1≠0->bK (λ_=>False) L L'->K (.tup [.nilptr,.int .i64 R.1]) L')(h1:∀L' it B,R.1=0->IxO L' it R.2 [] B->bK (λ_=>False) L L'->(∀i,B i->L.length<=i)->K (.tup [.ptr it 0,.int .i64 0]) L'):
  alo 19 [.agg [.sl (cj ts) ts.length capT,.sl c2 n2 cap2],.sl (ns.map AV.str) ns.length cap] L K:=by
 have kF:Hid (∀{n:List UInt8},bv n->∀{L:List Blk}{K:alp},K (Ki (ez ts n)) L->alo 49 [.agg [.sl (cj ts) ts.length capT,.sl c2 n2 cap2],.str n] L K):=@hid _ (λ{n} h {L K} q=>abU hl hts h q);replace hR:=hid hR;replace hn:=hid hn;replace h0:=hid h0;replace h1:=hid h1;clear hts hl;obtain⟨TS,hTS⟩:=alj (cj ts);obtain⟨tl,htl⟩:=alj (ts.length);rw[hTS,htl]at kF⊢;refine aln Wk ?_;refine ah (λm T' L'=>∃(i:Nat) (tm:TMp) (pm:List (bp (List UInt8) Nat)) (pc:Nat),m=ns.length-i/\i<=ns.length/\Hid (RP ts tm (ns.drop i)=R)/\Hid (akZ L (L.length+5) (L.length+1) (L.length+2) (L.length+3) (L.length+4) tm pm pc L')/\Hid (L'[L.length]?=some (.cells [.sl TS tl capT,.sl c2 n2 cap2]))/\T'=[(21,.int .i64 (i:Int)),(20,.int .i64 ns.length),(19,.sl (ns.map AV.str) ns.length cap),(6,.ptr (L.length+5) 0),(2,.ptr L.length 0)]) aoN ⟨0,[],[],0,rfl,alw _,hid (by simpa using hR.o),hid ⟨IxH.start (by rw[alT aoJ];simp) (by rw[alT aoJ];simp[be]) (by rw[alT aoJ];simp[be]) (by rw[alT aoJ];simp[be]) (by rw[alT aoJ];simp[be]) aoK (λ_ _ e=>e),bK.app _ _,aoK⟩,hid aoK,rfl⟩ ?_;rintro _ _ L' ⟨i,tm,pm,pc,rfl,hi,hr,hN,hb,rfl⟩;have hst:=hN.o.ix.st;have hl1:L.length+6<=L'.length:=(alq.1 hst).1;by_cases hlt:i<ns.length;have j1:(i:Int)<(ns.length:Int):=aoJ;have j2:=alm i aoJ;have j3:(ns.map AV.str).getD i .undef=.str (ns.getD i []):=by simp[hlt]
 have j4:i<(ns.map AV.str).length:=by simpa using hlt
 obtain⟨n,hn1⟩:=alj (ns.getD i []);have hrn:bv n:=hn.o n (by rw[<- hn1];simp[hlt]);have hdr:ns.drop i=n::ns.drop (i+1):=by rw[ama hlt,<- hn1];simp[hlt]
 rw[hn1]at j3;have hr2:=hr.o;rw[hdr,RP]at hr2;clear hr hn1 hdr;obtain⟨NS,hNS⟩:=alj (ns.map AV.str);rw[hNS]at j3 j4⊢;replace hNS:=hid hNS;obtain⟨f,hf⟩:=alj (af n);rw[hf]at hr2;have kk2:Hid (Ctr Tryz.prog 38 [.str n] (.str f)):=@hid _ (by intro L K q;exact fv hrn (by rw[hf];exact q));have hks:bE .str (.str f)=true:=rfl;have aX:∀(X:List Blk){i:Nat}{b:Blk},L'[i]?=some b->(L'++X)[i]?=some b:=λX {i b} e=>alk e
 have a0:L'[L.length]?=some (.cells [.sl TS tl capT,.sl c2 n2 cap2]):=hb.o;have a1:∀X,(L'++X)[L.length+5]?=some (.cells [.lmap (L.length+1),.lmap (L.length+2),.lmap (L.length+3),.lmap (L.length+4)]):=λX=>aX X hst
 have a2:∀X,(L'++X)[L.length+1]?=some (.map (be AV.str tyV tm) tm.length):=λX=>aX X hN.o.ix.ty
 clear hb;have kT:∀(t:Option Typ),ez ts n=t->∃t1 t2 t3 t4,t.getD qm=(t1,t2,t3,t4)/\Hid (Ctr Tryz.prog 49 [.agg [.sl TS tl capT,.sl c2 n2 cap2],.str n] (.tup [.agg [.str t1,.int .i64 t2,.bool t3,.bool t4],.bool t.isSome])):=λt ht=>by obtain⟨⟨t1,t2,t3,t4⟩,h⟩:∃x,t.getD qm=x:=⟨_,rfl⟩;refine⟨t1,t2,t3,t4,h,@hid _ (λ{L K} q=>kF.o hrn ?_)⟩;rw[ht,Ki,h];exact q
 obtain⟨t1,t2,t3,t4,ht,kk1⟩:=kT _ rfl;clear kT hst;rcases dk (va:=tyV) rm hN.o.ix.tok f (t1,t2,t3,t4)with⟨j,⟨w1,w2,w3,w4⟩,q1,q2,q3,q4⟩|⟨q1,q2,q3,q4⟩;rcases hty:ez ts n with _|ty;rw[hty]at hr2 kk1;have hfin:=hid (h0.o (L'++[.cells [.str t1,.int .i64 t2,.bool t3,.bool t4],.cells [.str w1,.int .i64 w2,.bool w3,.bool w4]]) (by rw[<- hr2];simp) (hN.o.bes.app2 _));rw[<- hr2]at hfin;simp only[amO]at kk1;clear hN hty ht hr2 q1 q3 q4 aX hR;refine wk ?_;refine⟨aA (kk2.o ⟨rfl,rfl⟩) rfl,?_⟩;refine wk ?_;exact aa hfin.o;rw[hty]at hr2 kk1;simp only[if_pos q4]at hr2;have hfin:=hid (h0.o (L'++[.cells [.str t1,.int .i64 t2,.bool t3,.bool t4],.cells [.str w1,.int .i64 w2,.bool w3,.bool w4]]) (by rw[<- hr2];simp) (hN.o.bes.app2 _));rw[<- hr2]at hfin;simp only[amQ]at kk1;clear hN hty ht hr2 q1 q3 q4 aX hR;refine wk ?_;refine⟨aA (kk2.o ⟨rfl,rfl⟩) rfl,?_⟩;refine wk ?_;exact aa hfin.o;rcases hty:ez ts n with _|ty;rw[hty]at hr2 kk1;have hfin:=hid (h0.o (L'++[.cells [.str t1,.int .i64 t2,.bool t3,.bool t4],.cells [.str [],.int .i64 0,.bool false,.bool false]]) (by rw[<- hr2];simp) (hN.o.bes.app2 _));rw[<- hr2]at hfin;simp only[amO]at kk1;clear hN hty ht hr2 q1 q3 q4 aX hR;refine wk ?_;refine⟨aA (kk2.o ⟨rfl,rfl⟩) rfl,?_⟩;refine wk ?_;exact aa hfin.o;rw[hty]at hr2 kk1 ht;simp only[if_neg q4]at hr2;simp only[amQ]at kk1;simp only[amj]at ht;subst ht;have hfp:f∉pm.map (·.1):=λe=>q4 ((hN.o.ix.pk f).1 e)
 rcases dk (va:=AV.lmap) rm hN.o.ix.pok f (L'.length+2)with⟨_,_,_,_,_,p4⟩|⟨p1,p2,p3,p4⟩;exact absurd p4 hfp;have hT:=(hN.o.ix.more [.cells [.str t1,.int .i64 t2,.bool t3,.bool t4],.cells [.str [],.int .i64 0,.bool false,.bool false]]).tyNew q4 (t1,t2,t3,t4) (λ_ e=>e);have him:L.length+1<L'.length:=aoJ;have hip:L.length+3<L'.length:=aoJ;have s1:∀X c,(L'++X).set (L.length+1) c=L'.set (L.length+1) c++X:=λX c=>amh _ _ him
 have s2:∀X c d,(L'.set (L.length+1) c++X).set (L.length+3) d=(L'.set (L.length+1) c).set (L.length+3) d++X:=λX c d=>amh _ _ (by simpa using hip)
 have s3:∀c,(L'.set (L.length+1) c).length=L'.length:=λc=>aoK
 have gl:∀(X:List Blk) c{j:Nat}{b:Blk},L.length+1≠j->L'[j]?=some b->(L'.set (L.length+1) c++X)[j]?=some b:=λX c {j b} ne e=>by rw[aly (by simpa using(alq.1 e).1),alP ne];exact e
 have b1:∀X c,(L'.set (L.length+1) c++X)[L.length+5]?=some (.cells [.lmap (L.length+1),.lmap (L.length+2),.lmap (L.length+3),.lmap (L.length+4)]):=λX c=>gl X c aoJ hN.o.ix.st
 have b2:∀X c,(L'.set (L.length+1) c++X)[L.length+3]?=some (.map (be AV.str AV.lmap pm) pc):=λX c=>gl X c aoJ hN.o.ix.pr
 have b3:∀(a c d:Blk) (X:List Blk),(L'++a::X)[L'.length]?=some a:=λa c d X=>rn _ _ _
 rw[s1,alI,s2,show(L'++[Blk.cells [.str t1,.int .i64 t2,.bool t3,.bool t4],Blk.cells [.str [],.int .i64 0,.bool false,.bool false]]).length=L'.length+2 by simp]at hT;have hes:rF tm f (t1,t2,t3,t4) tm.length=tm++[(f,(t1,t2,t3,t4),tm.length)]:=by unfold rF;rw[if_neg q4]
 have hep:rF pm f (L'.length+2) pc=pm++[(f,L'.length+2,pc)]:=by unfold rF;rw[if_neg p4]
 rw[hes]at q3;rw[hep]at p3;have hB:=hN.o.bes;have hN2:=hid (show akZ L (L.length+5) (L.length+1) (L.length+2) (L.length+3) (L.length+4) (tm++[(f,(t1,t2,t3,t4),tm.length)]) (pm++[(f,L'.length+2,pc)]) (pc+1) _ from⟨hT,⟨by simp;omega,λj hj _=>by
  rw[aly (by simp;omega),alP aoJ,alP aoJ];exact hB.eq j hj (λe=>e)⟩,λj hj=>by
  simp only[alW,alD,amS,alu,alv,am3,or_false]at hj;rcases hj with e|e|e|e|e|e|e;omega;omega;omega;omega;omega;exact hN.o.own j (by simp only[alu,alv];exact .inr (.inr (.inr (.inr (.inr (.inl e))))));omega⟩)
 have hbb:Hid (((L'.set (L.length+1) (aaY (tm++[(f,(t1,t2,t3,t4),tm.length)]) (tm.length+1))).set (L.length+3) (afE (pm++[(f,L'.length+2,pc)]) (pc+1))++([.cells [.str t1,.int .i64 t2,.bool t3,.bool t4],.cells [.str [],.int .i64 0,.bool false,.bool false]]++[mF [] 0]))[L.length]?=some (.cells [.sl TS tl capT,.sl c2 n2 cap2])):=hid (by rw[aly (by simp;omega),alP aoJ,alP aoJ];exact a0)
 replace hr2:=hid hr2;clear hT hN hB aX gl hes hep p4 q4 q1 p1 hfp hty hR him hip;refine wk ?_;refine⟨aA (kk2.o ⟨rfl,rfl⟩) rfl,?_⟩;refine wk ?_;refine⟨aA (kk2.o ⟨rfl,rfl⟩) rfl,?_⟩;refine wk ?_;rw[<- hNS.o];exact aoO aoJ (CutL (b:=by simp;omega)) ⟨i+1,_,_,_,rfl,hlt,hr2,hN2,hbb,rfl⟩;have hie:i=ns.length:=aoJ;subst hie;have j1:¬(ns.length:Int)<(ns.length:Int):=aoJ;have hr2:=hr.o;rw[al6,RP]at hr2;have hfin:=hid (h1.o L' (L.length+5) _ (by rw[<- hr2]) (by rw[<- hr2];exact⟨L.length+1,L.length+2,L.length+3,L.length+4,[],0,pm,pc,[],0,hN.o.ix.iff (λf x _=>by simp[mG]) (λk x=>by simp[gb]),PR.nil,List.Pairwise.nil,λi=>Iff.rfl⟩) hN.o.bes hN.o.own)
 clear hr2 hr hN hb hst hR;refine wk ?_;exact aa hfin.o
variable {L:List Blk}{K:alp}
theorem ak9{l:List (List UInt8)}{k:Nat}(h:k<l.length):(l.map AV.str).getD k .undef=.str (l.getD k []):=by rw[alR,alR];simp[h]
theorem aiG{xs:List (List UInt8)}{cap:Option Nat}{s:List UInt8}(hn:xs.length<=1000000000000)(h:K (.bool (xs.contains s)) L):
  alo 82 [.sl (xs.map AV.str) xs.length cap,.str s] L K:=by
 replace h:=hid h;have hg:=hid (λk (q:k<xs.length)=>ak9 q);have hl:(xs.map AV.str).length=xs.length:=aoK;obtain⟨X,hX⟩:=alj (xs.map AV.str);rw[hX]at hg hl⊢;clear hX;refine aln Wc ?_;refine ah (λn T' L'=>∃k:Nat,n=xs.length-k/\k<=xs.length/\T'=[(9,.int .i64 (k:Int)),(8,.int .i64 xs.length),(7,.sl X xs.length cap),(1,.str s)]/\L=L'/\Hid (∀j,j<k->xs.getD j []≠s)) (CutS (b:=alr _)) ⟨0,rfl,alw _,rfl,rfl,hid aoK⟩ ?_;rintro _ _ L' ⟨k,rfl,hk,rfl,e,hr⟩;subst e;by_cases hlt:k<xs.length;have g1:(k:Int)<(xs.length:Int):=aoJ;have g2:=alm k aoJ;have e3:=hg.o k hlt;have e4:k<X.length:=aoJ;obtain⟨x,hx⟩:=alj (xs.getD k []);rw[hx]at e3;by_cases hq:x=s;have e:xs.contains s=true:=by rw[ame,<- hq,<- hx];simp[hlt]
 rw[e]at h;replace hx:=hid hx;subst hq;clear e;refine wk ?_;exact aa h.o;have hr2:Hid (∀j,j<k+1->xs.getD j []≠s):=hid (λj hj=>by rcases alK j k with h|h;exact hr.o j h;have:j=k:=aoJ;subst this;rw[hx];exact hq)
 clear hx hr;refine wk ?_;exact aoO aoJ aoM ⟨k+1,rfl,hlt,rfl,rfl,hr2⟩;have g1:¬(k:Int)<(xs.length:Int):=aoJ;have e:xs.contains s=false:=by simp only[amf,decide_eq_false_iff_not];intro hs;obtain⟨j,hj,e⟩:=amJ.1 hs;exact hr.o j aoJ (by simp[hj,e])
 rw[e]at h;clear hr e;refine wk ?_;exact aa h.o
end Go.Proofs.YtcmfcpjnhephaaaGreatDoor.Av
set_option maxRecDepth 100000
namespace Go.Proofs.YtcmfcpjnhephaaaGreatDoor.Av
open Go
variable {L0 L:List Blk}{ts:List Typ}{ns:List (List UInt8)}{cap:Option Nat}{K:alp}{l:List bt}{rt it:Nat}{id:Int}{B:Nat->Prop}{s:List Atr}
def Mx:LSO:=[A4 2 0,AU 4,Ab 5 0]
def Mw:LSO:=[Ap 9 2 2,o1 10 (.build [(.sl [] 0 (some 0)),(.sl [] 0 (some 0)),(.sl [] 0 (some 0)),(.sl [] 0 (some 0))] [(0,(2,(tm 9)))]),A4 11 10,Aa 6 11]
def Mv:LSO:=[Aa 12 1,Am 13 12,Ab 14 0]
def Mu:LSO:=[Ak 15 14 13]
def Mt:LSO:=[Ao 16 1 12 14,Ac 17 1 16,Aa 8 17]
def Mr:LSO:=[Ad 18 0 2,Ac 19 1 18,Aa 20 8,Ar 21 12 19 20,AF 22 21 0]
def Mq:LSO:=[AU 4,Ab 5 20]
def Mp:LSO:=[Aa 23 6,Ax 24 23,Ad 25 2 24,Ac 26 1 25,Aa 27 8,Ai 28 39 27,Ar 29 82 26 28]
def Mo:LSO:=[AU 4,Ab 5 21]
def Mn:List (aj×Kd):=
 [A7 30 6,A7 31 6,AK 32 31 0 0,A5 33 2 32,A0 34 1 33 0 0,A7 35 8,Bb 36 39 35 0 0,od 37 (.bslice false 1 1 [(.str [])] [(0,(1,(tm 36)))]) (.read 0 0),
 od 38 (.app 1 1 16 [(.str [])] (tm 34) (tm 37)) .eff]
def Gu:List aj :=
 [⟨(some 39),(.nilchk (tm 30)),none⟩,⟨(some 40),(.faddr 2 (tm 39)),none⟩,⟨none,(.store 1 (tm 40) (tm 38)),none⟩]
def Gw:LSO:=[Ag 41 14 1,Aa 14 41]
def Gv:LSO:=[Aa 42 6,Aa 4 42,Ab 5 0]
def Kr:aQ:=⟨43,(aoC Mx [] (aoC Mw Cy (.seq (aoC Mv [] (aoF 0 (aoC Mu [] (.seq (aoG 15 0) (.seq (.block 1 (aoC Mt Cx (.seq (aoC Mr Cz (aoE 22 (.sreg Mq []))) (.seq (.seq (.sdreg Mp [.pure,(.read 0 0),.pure,(.read 0 0),.pure,(.read 0 0)] C2) (aoE 29 (.sreg Mo []))) (.dregM Mn Gu [false,false,false,false,false,false,false,false,false,false,false]))))) (.sreg Gw Cw)))))) (aoC Gv C3 .ret)))),[(.tmp 4),(.tmp 5)]⟩
attribute [push_cast] Mx Mw Mv Mu Mt Mr Mq Mp Mo Mn Gu Gw Gv
theorem V9:aoH 32=aoI Kr:=aoL
def pj:LSO:=[Al 4]
def pi:LSO:=[Aa 7 0,Ax 8 7,Ad 9 3 8,Ac 10 1 9,Am 11 10,Ab 12 0]
def ph:LSO:=[Ak 13 12 11]
def pg:LSO:=[Ao 14 2 10 12,Ap 15 2 14,BY 6,Aj 2 6 15]
def o9:LSO:=[Ad 16 0 6,Ac 17 1 16,Aa 18 1,BF 19 17 18]
def o8:LSO:=[Aa 20 4,Ap 21 2 6,BZ 22 21,Ca 23 20 22,Aa 4 23]
def o7:LSO:=[Ag 24 12 1,Aa 12 24]
def o6:LSO:=[Aa 25 0,Aa 26 4,Ax 27 25,Ad 28 3 27,Aj 1 28 26]
def iR:aQ:=⟨29,(aoC pj [] (.seq (aoC pi CQ (aoF 0 (aoC ph [] (.seq (aoG 13 0) (.seq (.block 1 (aoC pg Cx (aoC o9 Cy (aoD 19 (.sreg o8 Cz) .skip)))) (.sreg o7 Cw)))))) (.sreg o6 CP))),[]⟩
attribute [push_cast] pj pi ph pg o9 o8 o7 o6
theorem Gd:aoH 36=aoI iR:=aoL
def qN:LSO:=[Aa 10 0,Aa 11 1,Ar 12 36 10 11]
def qM:LSO:=[Al 6]
def qL:LSO:=[Ae 7]
def qK:LSO:=[Aa 13 0,Ax 14 13,Ad 15 3 14,Ac 16 1 15,Am 17 16,Ab 18 0]
def qJ:LSO:=[Ak 19 18 17]
def qI:LSO:=[Ao 20 2 16 18,Ap 21 2 20,BY 9,Aj 2 9 21]
def qH:LSO:=[Aa 22 7,Ay 23 22,Aa 24 23,.grp none 24 true
 [Af 25 24 1,AA 26 24 0 9,A6 27 24 1 26,Bx 28 24 25 27]
 29 (tm 28)]
def qG:LSO:=[Aa 30 6,Aa 31 1,Aa 32 2,Ai 33 86 32,o1 34 (.build [(.int .i64 0),(.sl [] 0 (some 0))] [(0,(1,(tm 31))),(1,(1,(tm 33)))]),BZ 35 34,Ca 36 30 35,
 Aa 6 36]
def qF:LSO:=[Az 7]
def qE:LSO:=[Aa 37 6,Ap 38 2 9,BZ 39 38,Ca 40 37 39,Aa 6 40]
def o5:LSO:=[Ag 41 18 1,Aa 18 41]
def o4:LSO:=[Aa 42 7,Ay 43 42]
def o3:LSO:=[Aa 44 6,Aa 45 1,Aa 46 2,Ai 47 86 46,o1 48 (.build [(.int .i64 0),(.sl [] 0 (some 0))] [(0,(1,(tm 45))),(1,(1,(tm 47)))]),BZ 49 48,Ca 50 44 49,
 Aa 6 50]
def oZ:LSO:=[Aa 51 0,Aa 52 6,Ax 53 51,Ad 54 3 53,Aj 1 54 52]
def mz:aQ:=⟨55,(aoC qN CU (aoC qM [] (aoC qL [] (.seq (aoC qK CQ (aoF 0 (aoC qJ [] (.seq (aoG 19 0) (.seq (.block 1 (aoC qI Cx (.seq (aoC qH Cy (aoD 29 (aoC qG C4 (.sreg qF [])) .skip)) (.sreg qE Cz)))) (.sreg o5 Cw)))))) (.seq (aoC o4 Cw (aoD 43 (.sreg o3 C4) .skip)) (.sreg oZ CP)))))),[]⟩
attribute [push_cast] qN qM qL qK qJ qI qH qG qF qE o5 o4 o3 oZ
theorem Ks:aoH 37=aoI mz:=aoL
attribute [push_cast] Kr iR mz
set_option maxHeartbeats 8000000
set_option maxRecDepth 100000
theorem Sp{r:AV}{Q:AV->List Blk->Prop}(i:Nat){c:List AV}(hL:L[i]?=some (.cells c))(h:Fin L0 r (L.set i (.cells (AV.frzL c))) Q):Fin L0 r L Q:=λw0 S0 E0 E w v h0 hn hw hR hv=>h w0 S0 E0 E w v h0 hn hw (hR.frzB hL) hv
def Uo(e:bt):List AV:=[.int .i64 e.1,atV e.2]
def cJ(l:List bt):List AV:=l.flatMap Uo
theorem K9(l:List bt):(cJ l).length=l.length*2:=by
 induction l with
 |nil=>rfl
 |cons e l ih=>unfold cJ at ih⊢;rw[amv,alJ,ih];simp[Uo];omega
theorem xx(l m:List bt):cJ (l++m)=cJ l++cJ m:=by unfold cJ;rw[anR]
theorem Kl:∀{l:List bt}{k:Nat},k<l.length->((cJ l).drop (k*2)).take 2=Uo (l.getD k (0,[]))
 |e::l,0,_=>by unfold cJ;rw[amv];simp[Uo]
 |e::l,k+1,h=>by have ih:=Kl (l:=l) (k:=k) (by simpa using h);have:cJ (e::l)=Uo e++cJ l:=(by unfold cJ;rw[amv]);rw[this,anA];show((cJ l).drop (k*2)).take 2=_;rw[ih];rfl
def ai8(L:List Blk)(rt:Nat)(s:List AV)(tm:TMp)(l:List bt):Prop:=∃k2,L[rt]?=some (.cells (s++[.sl ((tm.map (·.1)).map AV.str) tm.length none,.sl (cJ l) l.length k2]))
structure WF(ts:List Typ)(tm:TMp):Prop where
 nd:(tm.map (·.1)).Nodup
 sub:∀f∈tm.map (·.1),f∈ts.map λt=>af t.1
theorem Xu{X:Type}[DecidableEq X]:∀{l m:List X},l.Nodup->(∀x∈l,x∈m)->l.length<=m.length
 |[],m,_,_=>aoK
 | a::l,m,h,hs=>by
   rw[amm]at h;have ha:=hs a aoK;have:=Xu (l:=l) (m:=m.erase a) h.2 λx hx=>(List.mem_erase_of_ne (λe:x=a=>h.1 (by rw[<- e];exact hx))).2 (hs x (by simp[hx]))
   have h2:=List.length_erase_of_mem ha;have h3:=List.length_pos_of_mem ha;simp only[alA];omega
theorem WF.len{tm:TMp}(h:WF ts tm):tm.length<=ts.length:=by have:=Xu h.nd h.sub;simpa using this
theorem WF.add{tm:TMp}(h:WF ts tm){n f:List UInt8}{ty:Typ}{c:Nat}(ht:ez ts n=some ty)(hf:af n=f)(hin:f∉tm.map (·.1)):WF ts (tm++[(f,ty,c)]):=by refine⟨?_,λg hg=>?_⟩;rw[alW,an3];refine⟨h.nd,aoK,λa ha b hb e=>hin ?_⟩;simp only[alD,amS,alM]at hb;rw[<- hb,<- e];exact ha;rw[alW,alv]at hg;rcases hg with hg|hg;exact h.sub g hg;simp only[alD,amS,alM]at hg;rw[hg,<- hf];refine alt.2 ⟨ty,anS ht,?_⟩;have:=an7 ht;simpa using this
theorem afn{capT:Option Nat}{c2:List AV}{n2:Nat}{cap2:Option Nat}(hl:ts.length<=1100000)(hts:∀t∈ts,bv t.1)(hc2:AV.frzL c2=c2)(hnl:(ns.length:Int)<=9223372036854775807)(hn:∀n∈ns,bv n){R:Int×TMp}(hR:RP ts [] ns=R)(h0:∀L',R.1≠0->bK (λ_=>False) L L'->K (.tup [.nilptr,.int .i64 R.1]) L')(h1:∀L' rt,R.1=0->ai8 L' rt [.sl (cj ts) ts.length none,.sl c2 n2 none] R.2 []->bK (λ_=>False) L L'->L.length<=rt->K (.tup [.ptr rt 0,.int .i64 0]) L'):
  alo 32 [.agg [.sl (cj ts) ts.length capT,.sl c2 n2 cap2],.sl (ns.map AV.str) ns.length cap] L K:=by
 have kA:Hid (∀{n:List UInt8},bv n->∀{L:List Blk}{K:alp},(ez ts n=none->K (.int .i64 (-1)) L)->(∀k:Nat,k<ts.length->ez ts n=some (ts.getD k qm)->K (.int .i64 k) L)->alo 12 [.sl (cj ts) ts.length capT,.str n] L K):=@hid _ (λ{n} h {L K} q1 q2=>akU hl hts h q1 q2);have hfz:=rC ts;replace hR:=hid hR;replace hn:=hid hn;replace h0:=hid h0;replace h1:=hid h1;clear hts;replace hl:=hid hl;obtain⟨TS,hTS⟩:=alj (cj ts);obtain⟨tl,htl⟩:=alj (ts.length);rw[hTS,htl]at kA⊢;rw[hTS]at hfz;refine aln V9 ?_;refine Sr (L.length+1) 2 1 (c:=[.sl TS tl capT,.sl c2 n2 cap2,.sl [] 0 (some 0),.sl [] 0 (some 0)]) (l:=[]) (n:=0) (by rw[alT aoJ];simp) rfl rfl ?_;refine ahC (L':=L++(.cells [.sl TS tl capT,.sl c2 n2 cap2] :: .cells [.sl TS tl capT,.sl c2 n2 cap2,.gsl [] 0 (L.length+2) 1,.sl [] 0 (some 0)]::[.spare 0 1])) (by rw[amd _ _ aoJ,show L.length+1-L.length=1 by omega];simp) ?_
 refine ah (λm T' L'=>∃(i:Nat) (tm:TMp) (C:List AV) (X:List Blk),m=ns.length-i/\i<=ns.length/\Hid (RP ts tm (ns.drop i)=R)/\Hid (C=(tm.map (·.1)).map AV.str)/\Hid (WF ts tm)/\T'=[(14,.int .i64 (i:Int)),(13,.int .i64 ns.length),(12,.sl (ns.map AV.str) ns.length cap),(6,.ptr (L.length+1) 0),(2,.ptr L.length 0)]/\L'=L++(.cells [.sl TS tl capT,.sl c2 n2 cap2] :: .cells [.sl TS tl capT,.sl c2 n2 cap2,.gsl C tm.length (L.length+2) 1,.sl [] 0 (some 0)] :: .spare tm.length 1::X)) aoN ⟨0,[],[],[],rfl,alw _,hid (by simpa using hR.o),hid rfl,hid ⟨aoK,aoK⟩,rfl,rfl⟩ ?_;rintro _ _ _ ⟨i,tm,C,X,rfl,hi,hr,hC,hti,rfl,rfl⟩;have e1:∀(a b c:Blk) (X:List Blk),(L++a::b::c::X)[L.length+1]?=some b:=λa b c X=>by rw[alT aoJ];simp
 have e2:∀(a b c d:Blk) (X:List Blk),(L++a::b::c::X).set (L.length+1) d=L++a::d::c::X:=λa b c d X=>by rw[amd _ _ aoJ];simp
 have e3:∀(a b c:Blk) (X:List Blk),(L++a::b::c::X)[L.length+2]?=some c:=λa b c X=>by rw[alT aoJ];simp
 have e4:∀(a b c d:Blk) (X:List Blk),(L++a::b::c::X).set (L.length+2) d=L++a::b::d::X:=λa b c d X=>by rw[amd _ _ aoJ];simp
 by_cases hlt:i<ns.length;have j1:(i:Int)<(ns.length:Int):=aoJ;have j2:=alm i aoJ;have j3:(ns.map AV.str).getD i .undef=.str (ns.getD i []):=by simp[hlt]
 have j4:i<(ns.map AV.str).length:=by simpa using hlt
 obtain⟨n,hn1⟩:=alj (ns.getD i []);have hrn:bv n:=hn.o n (by rw[<- hn1];simp[hlt]);have hdr:ns.drop i=n::ns.drop (i+1):=by rw[ama hlt,<- hn1];simp[hlt]
 rw[hn1]at j3;have hr2:=hr.o;rw[hdr,RP]at hr2;clear hr hn1 hdr;obtain⟨NS,hNS⟩:=alj (ns.map AV.str);rw[hNS]at j3 j4⊢;replace hNS:=hid hNS;obtain⟨f,hf⟩:=alj (af n);rw[hf]at hr2;have kk1:Hid (Ctr Tryz.prog 39 [.str n] (.str f)):=@hid _ (by intro L K q;exact cm hrn (by rw[hf];exact q));have htb:tm.length<=1100000:=alQ hti.o.len hl.o;rcases hty:ez ts n with _|ty;have kk2:Hid (Ctr Tryz.prog 12 [.sl TS tl capT,.str n] (.int .i64 (-1))):=@hid _ (λ{L K} q=>kA.o hrn (λ_=>q) (λk _ e=>by rw[hty]at e;cases e));rw[hty]at hr2;simp only at hr2;have hfin:=hid (h0.o (L++(.cells [.sl TS tl capT,.sl c2 n2 cap2] :: .cells [.sl TS tl capT,.sl c2 n2 cap2,.gsl C tm.length (L.length+2) 1,.sl [] 0 (some 0)] :: .spare tm.length 1::X)) (by rw[<- hr2];simp) (bK.app _ _));rw[<- hr2]at hfin;clear hr2 hty hR;refine wk ?_;exact aa hfin.o;have kB:Hid (∀{L:List Blk}{K:alp},(∀k:Nat,K (.int .i64 k) L)->alo 12 [.sl TS tl capT,.str n] L K):=@hid _ (λ{L K} q=>kA.o hrn (λe=>by rw[hty]at e;cases e) (λk _ _=>q k));rw[hty]at hr2;simp only at hr2;have hty2:=hid hty;clear hty;refine wk ?_;refine kB.o λk=>?_
 have hk0:¬(k:Int)<0:=aoJ;have kH:∀b:Bool,decide (f∈tm.map (·.1))=b->Hid (∀{L:List Blk}{K:alp}{j:Nat},K (.bool b) L->alo 82 [.gsl C tm.length j 1,.str f] L K):=λb hb=>@hid _ (λ{L K j} q=>by refine eY ?_;have:=aiG (xs:=tm.map (·.1)) (cap:=none) (s:=f) (by simp;omega) (L:=L) (K:=K) (by rw[amf,hb];exact q);rw[al5]at this;simp only[AV.frzL,AV.frz,hC.o,eh];exact this)
 by_cases hin:f∈tm.map (·.1);have kk2:=@kH true (decide_eq_true hin);rw[if_pos hin]at hr2;have hfin:=hid (h0.o (L++(.cells [.sl TS tl capT,.sl c2 n2 cap2] :: .cells [.sl TS tl capT,.sl c2 n2 cap2,.gsl C tm.length (L.length+2) 1,.sl [] 0 (some 0)] :: .spare tm.length 1::X)) (by rw[<- hr2];simp) (bK.app _ _));rw[<- hr2]at hfin;clear hr2 hR kH kB hin;refine wk ?_;exact aa hfin.o;have kk2:=@kH false (decide_eq_false hin);rw[if_neg hin]at hr2;replace hr2:=hid hr2;have hC2:=hid (show C++[.str f]=((tm++[(f,ty,tm.length)]).map (·.1)).map AV.str by rw[hC.o];simp);have hlen:=hid (show(tm++[(f,ty,tm.length)]).length=tm.length+1 by simp);have hti2:=hid (show WF ts (tm++[(f,ty,tm.length)])from hti.o.add hty2.o hf hin);clear hR kH kB hin;refine wk ?_;rw[<- hNS.o];refine aoO aoJ aoM ⟨i+1,tm++[(f,ty,tm.length)],_,X,rfl,hlt,hr2,hC2,hti2,rfl,?_⟩;rw[hlen.o];have hie:i=ns.length:=aoJ;subst hie;have j1:¬(ns.length:Int)<(ns.length:Int):=aoJ;have hr2:=hr.o;rw[al6,RP]at hr2;have hfin:=hid (h1.o (L++(.cells [.sl TS tl capT,.sl c2 n2 cap2] :: .cells [.sl TS tl none,.sl c2 n2 none,.sl C tm.length none,.sl [] 0 none] :: .spare tm.length 1::X)) (L.length+1) (by rw[<- hr2]) ⟨none,by rw[e1,<- hr2,hTS,htl,hC.o];rfl⟩ (bK.app _ _) aoJ)
 have hCf:AV.frzL C=C:=by rw[hC.o];exact eh _
 clear hr2 hr hR hC;refine wk ?_;refine Sp (L.length+1) (e1 _ _ _ _) ?_;rw[e2];simp only[AV.frzL,AV.frz,hfz,hc2,hCf];exact aa hfin.o
theorem XW(l:List bt):AV.frzL (cJ l)=cJ l:=by
 induction l with
 |nil=>rfl
 | cons e l ih =>
   have:cJ (e::l)=Uo e++cJ l:=(by unfold cJ;rw[amv]);rw[this,AV.frzL_eq,alW,<- AV.frzL_eq,<- AV.frzL_eq,ih];simp only[Uo,AV.frzL,AV.frz,atV,eX]
theorem adE{a b c:AV}{k2:Option Nat}(hl:l.length<=1000000)(hL:L[rt]?=some (.cells [a,b,c,.sl (cJ l) l.length k2]))(ha:a.frz=a)(hb:b.frz=b)(hc:c.frz=c)(h:∀L' k,L'[rt]?=some (.cells [a,b,c,.sl (cJ (cQ id l)) (cQ id l).length k])->bK (λi=>i=rt) L L'->K (.tup []) L'):
  alo 36 [.ptr rt 0,.int .i64 id] L K:=by
 have hrl:=(alq.1 hL).1;have ar:∀X,(L++X)[rt]?=some (.cells [a,b,c,.sl (cJ l) l.length k2]):=λX=>by rw[aly hrl];exact hL
 have sr:∀(X:List Blk) d,(L++X).set rt d=L.set rt d++X:=λX d=>amh _ _ hrl
 have hel:=K9 l;have hat:=hid (λk (q:k<l.length)=>Kl q);have hat2:=hid (λk (q:k<l.length)=>show cQ id (l.take (k+1))=cQ id (l.take k)++(if(l.getD k (0,[])).1≠id then[l.getD k (0,[])]else[])by rw[alN q];unfold cQ;rw[aor];congr 1;by_cases e:l[k].1=id<;>simp[q,e])
 have hfin:=hid (show ∀k L2,K (.tup []) (L.set rt (.cells [a,b,c,.sl (cJ (cQ id l)) (cQ id l).length k])++L2)from λk L2=>h _ k (by rw[aly (by simpa using hrl),amn hrl]) ((bK.set (B:=λi=>i=rt) L (.inl rfl) _).trans (bK.app (B:=λ_=>False) _ _) λi _ e=>e.elim));obtain⟨ES,hES⟩:=alj (cJ l);rw[hES]at ar hel hat hL;clear h hES;refine aln Gd ?_;refine bF (l:=[]) (n:=0) 4 2 rfl (alU 2).symm ?_;refine ah (λm T' L'=>∃(i:Nat) (C:List AV) (k:Nat) (X:List Blk),m=l.length-i/\i<=l.length/\Hid (C=cJ (cQ id (l.take i))/\k=(cQ id (l.take i)).length)/\T'=[(12,.int .i64 (i:Int)),(11,.int .i64 l.length),(10,.sl ES l.length k2),(4,.gsl C k L.length 2),(0,.ptr rt 0),(1,.int .i64 id)]/\L'=L++(.spare k 2::X)) aoN ⟨0,[],0,[],rfl,alw _,hid ⟨rfl,rfl⟩,rfl,rfl⟩ ?_;clear hL;rintro _ _ _ ⟨i,C,k,X,rfl,hi,hC,rfl,rfl⟩;by_cases hlt:i<l.length;have j1:(i:Int)<(l.length:Int):=aoJ;have j2:=alm i aoJ;have e3:=hat.o i hlt;have e4:i*2+2<=ES.length:=by rw[hel];omega
 have e5:=hat2.o i hlt;obtain⟨⟨x,av⟩,hx⟩:∃e,l.getD i (0,[])=e:=⟨_,rfl⟩;rw[hx]at e3 e5;simp only[Uo]at e3;simp only at e5;have hkb:k<=1000000:=by rw[hC.o.2];have:=anm (λe:bt=>decide (e.1≠id)) (l.take i);rw[anl]at this;unfold cQ;omega
 have hef:AV.frzL (bc av)=bc av:=eX av;by_cases hq:x=id;rw[if_neg (by simpa using hq),alY]at e5;have hC2:=hid (show C=cJ (cQ id (l.take (i+1)))/\k=(cQ id (l.take (i+1))).length by rw[e5];exact hC.o);subst hq;clear hx e5;refine wk ?_;exact aoO aoJ aoM ⟨i+1,_,_,_,rfl,hlt,hC2,rfl,rfl⟩;rw[if_pos hq]at e5;have hC2:=hid (show C++[.int .i64 x,.sl (bc av) av.length none]=cJ (cQ id (l.take (i+1)))/\k+1=(cQ id (l.take (i+1))).length by rw[e5,xx,hC.o.1,alJ,hC.o.2];exact⟨rfl,rfl⟩)
 clear hx e5;refine wk ?_;exact aoO aoJ aoM ⟨i+1,_,_,_,rfl,hlt,hC2,rfl,rfl⟩;have hie:i=l.length:=aoJ;subst hie;have j1:¬(l.length:Int)<(l.length:Int):=aoJ;obtain⟨hC1,hC2⟩:=hC.o;rw[alF]at hC1 hC2;have hCf:AV.frzL C=C:=by rw[hC1];exact XW _
 have hf2:=hid (λX=>hfin.o none X);rw[<- hC1,<- hC2]at hf2;clear hC hC1 hC2 hfin hat hat2;refine wk ?_;refine eE rfl trivial (Sp rt (by rw[aly (by simpa using hrl),amn hrl]) ?_);rw[amh _ _ (by simpa using hrl),amM];simp only[AV.frzL,AV.frz,ha,hb,hc,hCf];exact aa (hf2.o _)
theorem adY{x e:bt}{t:List bt}(h:¬x.1<e.1)(l:List bt):l++mn x (e::t)=(l++[e])++mn x t:=by rw[mn,if_neg h];simp
theorem afi{a b c:AV}{k2:Option Nat}(hl:l.length<=900000)(hL:L[rt]?=some (.cells [a,b,c,.sl (cJ l) l.length k2]))(ha:a.frz=a)(hb:b.frz=b)(hc:c.frz=c){v:List Atr}(hv:v.length<=1100000)(hz:∀a∈v,a.2.length<=1100000)(h:∀L' k,L'[rt]?=some (.cells [a,b,c,.sl (cJ (J4 id v l)) (J4 id v l).length k])->bK (λi=>i=rt) L L'->K (.tup []) L'):
  alo 37 [.ptr rt 0,.int .i64 id,.sl (bc v) v.length cap] L K:=by
 have kD:Hid (∀{K:alp},(∀L' k,Hid (L'[rt]?=some (.cells [a,b,c,.sl (cJ (cQ id l)) (cQ id l).length k])/\bK (λi=>i=rt) L L')->K (.tup []) L')->alo 36 [.ptr rt 0,.int .i64 id] L K):=@hid _ (λ{K} q=>adE aoJ hL ha hb hc λL' k q1 q2=>q L' k (hid ⟨q1,q2⟩));have kk1:Hid (Ctr Tryz.prog 86 [.sl (bc v) v.length cap] (.sl (bc v) v.length none)):=@hid _ (λ{L K} q=>ah8 hv hz q);have hvf:AV.frzL (bc v)=bc v:=eX v;have hdl:(cQ id l).length<=900000:=alQ (anm _ _) hl;unfold J4 at h;obtain⟨m,hm⟩:=alj (cQ id l);rw[hm]at h hdl kD;replace h:=hid h;clear hL hm hl hv hz;refine aln Ks ?_;refine kD.o λL1 k1 hD=>?_
 clear kD;have hL:=hD.o.1;have hrl:=(alq.1 hL).1;have ar:∀X,(L1++X)[rt]?=some (.cells [a,b,c,.sl (cJ m) m.length k1]):=λX=>by rw[aly hrl];exact hL
 have sr:∀(X:List Blk) d,(L1++X).set rt d=L1.set rt d++X:=λX d=>amh _ _ hrl
 have hel:=K9 m;have hat:=hid (λk (q:k<m.length)=>Kl q);have hfin:=hid (show ∀k L2,K (.tup []) (L1.set rt (.cells [a,b,c,.sl (cJ (mn (id,v) m)) (mn (id,v) m).length k])++L2)from λk L2=>h.o _ k (by rw[aly (by simpa using hrl),amn hrl]) (hD.o.2.trans ((bK.set (B:=λi=>i=rt) L1 (.inl rfl) _).trans (bK.app (B:=λ_=>False) _ _) λi _ e=>e.elim) λi _ e=>e));obtain⟨ES,hES⟩:=alj (cJ m);rw[hES]at ar hel hat hL;clear h hD;refine wk ?_;refine bF (l:=[]) (n:=0) 6 2 rfl (alU 2).symm ?_;refine ah (λn T' L'=>∃(i:Nat) (out:List bt) (C:List AV) (k:Nat) (dn:Bool) (X:List Blk),n=m.length-i/\i<=m.length/\Hid (C=cJ out/\k=out.length/\k<=i+1/\(dn=false->k<=i))/\Hid (if dn=true then out++m.drop i=mn (id,v) m else out++mn (id,v) (m.drop i)=mn (id,v) m)/\T'=[(18,.int .i64 (i:Int)),(17,.int .i64 m.length),(16,.sl ES m.length k1),(6,.gsl C k L1.length 2),(7,.bool dn),(0,.ptr rt 0),(1,.int .i64 id),(2,.sl (bc v) v.length cap)]/\L'=L1++(.spare k 2::X)) aoN ⟨0,[],[],0,false,[],rfl,alw _,hid ⟨rfl,rfl,aoJ,λ_=>alr _⟩,hid aoK,rfl,rfl⟩ ?_;clear hL;rintro _ _ _ ⟨i,out,C,k,dn,X,rfl,hi,hC,hI,rfl,rfl⟩;by_cases hlt:i<m.length;have j1:(i:Int)<(m.length:Int):=aoJ;have j2:=alm i aoJ;have e3:=hat.o i hlt;have e4:i*2+2<=ES.length:=by rw[hel];omega
 have hdr:m.drop i=m.getD i (0,[])::m.drop (i+1):=by rw[ama hlt];simp[hlt]
 obtain⟨⟨x,av⟩,hx⟩:∃e,m.getD i (0,[])=e:=⟨_,rfl⟩;rw[hx]at e3 hdr;simp only[Uo]at e3;have hkb:k<=1000000:=by have:=hC.o.2.2.1;omega
 have hkb2:k+1<=1000000:=by have:=hC.o.2.2.1;omega
 have hef:AV.frzL (bc av)=bc av:=eX av;have hI2:=hI.o;rw[hdr]at hI2;cases dn with
 | true =>
   simp only[if_true]at hI2;have hC2:=hid (show C++[.int .i64 x,.sl (bc av) av.length none]=cJ (out++[(x,av)])/\k+1=(out++[(x,av)]).length/\k+1<=i+1+1/\(true=false->k+1<=i+1)by have h1:=hC.o.2.2.1;rw[xx,hC.o.1,alJ];refine⟨rfl,by rw[hC.o.2.1];rfl,aoJ,λe=>by cases e⟩)
   have hI3:=hid (show(if true=true then(out++[(x,av)])++m.drop (i+1)=mn (id,v) m else(out++[(x,av)])++mn (id,v) (m.drop (i+1))=mn (id,v) m)by simpa using hI2);clear hx hdr hI hI2 hkb2;refine wk ?_;exact aoO aoJ aoM ⟨i+1,_,_,_,true,_,rfl,hlt,hC2,hI3,rfl,rfl⟩
 | false =>
   simp only[alG,if_false]at hI2;by_cases hq:id<x
   .rw[mn,if_pos hq]at hI2;have hC2:=hid (show C++[.int .i64 id,.sl (bc v) v.length none,.int .i64 x,.sl (bc av) av.length none]=cJ (out++[(id,v),(x,av)])/\k+1+1=(out++[(id,v),(x,av)]).length/\k+1+1<=i+1+1/\(true=false->k+1+1<=i+1)by have h1:=hC.o.2.2.2 rfl;rw[xx,hC.o.1,alJ];refine⟨rfl,by rw[hC.o.2.1];rfl,aoJ,λe=>by cases e⟩)
    have hI3:=hid (show(if true=true then(out++[(id,v),(x,av)])++m.drop (i+1)=mn (id,v) m else(out++[(id,v),(x,av)])++mn (id,v) (m.drop (i+1))=mn (id,v) m)by simpa using hI2);clear hx hdr hI hI2;refine wk ?_;exact aoO aoJ aoM ⟨i+1,_,_,_,true,_,rfl,hlt,hC2,hI3,rfl,rfl⟩
   .rw[adY hq]at hI2;have hC2:=hid (show C++[.int .i64 x,.sl (bc av) av.length none]=cJ (out++[(x,av)])/\k+1=(out++[(x,av)]).length/\k+1<=i+1+1/\(false=false->k+1<=i+1)by have h1:=hC.o.2.2.2 rfl;rw[xx,hC.o.1,alJ];refine⟨rfl,by rw[hC.o.2.1];rfl,aoJ,λ_=>aoJ⟩)
    have hI3:=hid (show(if false=true then(out++[(x,av)])++m.drop (i+1)=mn (id,v) m else(out++[(x,av)])++mn (id,v) (m.drop (i+1))=mn (id,v) m)by simpa using hI2);clear hx hdr hI hI2 hkb2;refine wk ?_;exact aoO aoJ aoM ⟨i+1,_,_,_,false,_,rfl,hlt,hC2,hI3,rfl,rfl⟩
 have hie:i=m.length:=aoJ;subst hie;have j1:¬(m.length:Int)<(m.length:Int):=aoJ;have hI2:=hI.o;rw[al6]at hI2;obtain⟨hC1,hC2,hC3,hC4⟩:=hC.o;have hkb:k<=1000000:=aoJ;have hCf:AV.frzL C=C:=by rw[hC1];exact XW _
 cases dn with
 | true =>
   simp only[if_true,alY]at hI2;have hf2:=hid (λX=>hfin.o none X);rw[<- hI2,<- hC1,<- hC2]at hf2;clear hC hC1 hC2 hC3 hC4 hfin hat hI hI2;refine wk ?_;refine eE rfl trivial (Sp rt (by rw[aly (by simpa using hrl),amn hrl]) ?_);rw[amh _ _ (by simpa using hrl),amM];simp only[AV.frzL,AV.frz,ha,hb,hc,hCf];exact aa (hf2.o _)
 | false =>
   simp only[alG,if_false,mn]at hI2;have hf2:=hid (λX=>hfin.o none X);rw[<- hI2,xx,alJ,<- hC1,<- hC2]at hf2;have hCf2:AV.frzL (C++[.int .i64 id,.sl (bc v) v.length none])=C++[.int .i64 id,.sl (bc v) v.length none]:=by rw[AV.frzL_eq,alW,<- AV.frzL_eq,hCf,<- AV.frzL_eq];simp only[AV.frzL,AV.frz,hvf]
   clear hC hC1 hC2 hC3 hC4 hfin hat hI hI2;refine wk ?_;refine eE rfl trivial (Sp rt (by rw[aly (by simpa using hrl),amn hrl]) ?_);rw[amh _ _ (by simpa using hrl),amM];simp only[AV.frzL,AV.frz,ha,hb,hc,hCf2];exact aa (hf2.o _)
def ahA(a:List Atr):Prop:=(a.length:Int)<=9223372036854775807/\∀x∈a,bv x.1/\(x.2.length:Int)<=9223372036854775807
structure Zc(l:List bt):Prop where
 len:(l.length:Int)<=9223372036854775807
 at':∀e∈l,ahA e.2
 id:∀e∈l,-9223372036854775808<=e.1/\e.1<=9223372036854775807
structure hG(L0 L:List Blk)(it rt:Nat)(tm:TMp)(l:List bt)(B:Nat->Prop):Prop where
 ix:IxO L it tm l B
 doc:ai8 L rt [.sl (cj aK) aK.length none,.sl F0 9 none] tm l
 tms:TmS aK tm
 ents:∀e∈l,InA aK e.2/\Yg e.2
 ids:∀e∈l,-9223372036854775808<=e.1/\e.1<=9223372036854775807
 apart:¬B rt
 bes:bK (λ_=>False) L0 L
 own:∀i,B i->L0.length<=i
 rtl:L0.length<=rt
theorem TmS.ixg{tm:TMp}(h:TmS aK tm)(he:∀e∈l,InA aK e.2/\Yg e.2):IxG tm l:=⟨h.ok,λe hm=>by obtain⟨n,_,h2,h3⟩:=h.ty e hm;rw[<- h2];unfold bv at h3⊢;rw[XV];exact h3,λe hm=>(he e hm).2⟩
theorem Z7(x:bt):∀l:List bt,(mn x l).length=l.length+1
 |[]=>rfl
 | e::t=>by
   rw[mn];split
   .rfl
   .rw[alA,Z7 x t,alA]
theorem afB(id:Int)(a:List Atr)(l:List bt):(J4 id a l).length<=l.length+1:=by unfold J4;rw[Z7];have:(cQ id l).length<=l.length:=anm _ _;omega
theorem hG.drop{L1 L2:List Blk}{tm:TMp}{l':List bt}{B':Nat->Prop}(h:hG L0 L it rt tm l B)(h1:IxO L1 it tm l' B')(b1:bK B L L1)(o1:∀i,B' i->B i\/L.length<=i)(he:∀e∈l',InA aK e.2/\Yg e.2)(hi:∀e∈l',-9223372036854775808<=e.1/\e.1<=9223372036854775807)(hd:ai8 L2 rt [.sl (cj aK) aK.length none,.sl F0 9 none] tm l')(b2:bK (λi=>i=rt) L1 L2):hG L0 L2 it rt tm l' B':=by
 have hrl:rt<L.length:=by obtain⟨k2,hk⟩:=h.doc;exact(alq.1 hk).1
 have ap:¬B' rt:=λe=>by rcases o1 rt e with q|q;exact h.apart q;omega
 refine⟨h1.keep b2 λi hi e=>ap (by rw[<- e];exact hi),hd,h.tms,he,hi,ap,?_,λi hi=>?_,h.rtl⟩;refine(h.bes.trans b1 λi hi e=>?_).trans b2 λi hi e=>?_
 exact absurd (h.own i e) aoJ;have:=h.rtl;omega;rcases o1 i hi with q|q;exact h.own i q;exact alQ h.bes.len q
theorem hG.app{tm:TMp}(h:hG L0 L it rt tm l B)(X:List Blk):hG L0 (L++X) it rt tm l B:=by obtain⟨k2,hk⟩:=h.doc;exact⟨h.ix.app X,⟨k2,alk hk⟩,h.tms,h.ents,h.ids,h.apart,h.bes.app2 X,h.own,h.rtl⟩
theorem hG.base{L0':List Blk}{tm:TMp}(h:hG L0' L it rt tm l B)(hb:bK (λ_=>False) L0 L0'):hG L0 L it rt tm l B :=
 ⟨h.ix,h.doc,h.tms,h.ents,h.ids,h.apart,hb.trans h.bes (λ_ _ e=>e),λi hi=>alQ hb.len (h.own i hi),alQ hb.len h.rtl⟩
theorem aio{l:List Atr}(hl:aar l=true)(hz:(xl aK [] l).2=0):InA aK (xl aK [] l).1/\Yg (xl aK [] l).1:=by obtain⟨f1,f2⟩:=acN hl;have hi:=Yz (afW aK) hz;obtain⟨b1,b2⟩:=af5 (ts:=aK) (B:=60) (l:=l) (out:=[]) (i:=0) aoK aoK (λa ha=>(f2 a ha).1);refine⟨hi,aoJ,hi.1,λx hx=>⟨?_,?_⟩⟩;obtain⟨ty,h1,h2,_⟩:=hi.2 x hx;rw[<- h2];exact tG.2.1 ty (anS h1);have h1:=b2 x hx;have:60*(0+l.length)<=60*60:=Nat.mul_le_mul_left _ aoJ;omega
theorem af6{acts:List bt}{capA:Option Nat}(hn:∀n∈ns,bv n)(hnl:(ns.length:Int)<=9223372036854775807)(ha:Zc acts)(h0:∀L',bK (λ_=>False) L L'->K (.tup [.nilptr,.nilptr]) L')(h1:∀L' it rt tm l B,RP aK [] ns=(0,tm)->hG L L' it rt tm l B->l.length<=40->K (.tup [.ptr it 0,.ptr rt 0]) L'):
  alo 24 [.sl (ns.map AV.str) ns.length cap,.sl (cJ acts) acts.length capA] L K:=by
 obtain⟨R,hR⟩:=alj (RP aK [] ns);have hts:=acC (ts:=aK) (ns:=ns) (TmS.nil _) hn;rw[hR]at hts;obtain⟨x,hx⟩:=alj (cj aK);obtain⟨m,hm⟩:=alj (aK.length);obtain⟨y,hy⟩:=alj (F0);have kk1:Hid (Ctr Tryz.prog 20 [] (.agg [.sl x m none,.sl y 9 none])):=hid λq=>abW (by rw[hx,hm,hy];exact q)
 have hyf:AV.frzL y=y:=by rw[<- hy];rfl
 have hxf:AV.frzL x=x:=by rw[<- hx];exact rC _
 have kM:∀l:List Atr,aar l=true->ahA l->Hid (Ctr Tryz.prog 34 [.agg [.sl x m none,.sl y 9 none],.sl (bc l) l.length none] (.tup [.sl (bc (xl aK [] l).1) (xl aK [] l).1.length none,.int .i64 (xl aK [] l).2])):=λl hl hr=>@hid _ (λ{L K} q=>by obtain⟨f1,f2⟩:=acN hl;rw[<- hx,<- hm];exact aib tG aoJ (λa ha=>⟨(hr.2 a ha).1,by have:=(f2 a ha).1;omega⟩) rfl q)
 have kF:∀l:List Atr,ahA l->Hid (Ctr Tryz.prog 33 [.sl (bc l) l.length none] (.bool (aar l))):=λl hr=>@hid _ (λ{L K} q=>akN hr.1 (λa ha=>(hr.2 a ha).2) q)
 have kN:Hid (∀{L:List Blk}{K:alp},(∀L',R.1≠0->bK (λ_=>False) L L'->K (.tup [.nilptr,.int .i64 R.1]) L')->(∀L' it B,R.1=0->Hid (IxO L' it R.2 [] B/\bK (λ_=>False) L L'/\∀i,B i->L.length<=i)->K (.tup [.ptr it 0,.int .i64 0]) L')->alo 19 [.agg [.sl x m none,.sl y 9 none],.sl (ns.map AV.str) ns.length cap] L K):=@hid _ (λ{L K} q0 q1=>by rw[<- hx,<- hm];exact aix tG.1 tG.2.1 aoJ hn hR q0 λL' it B e g1 g2 g3=>q1 L' it B e (hid ⟨g1,g2,g3⟩))
 have kR:Hid (∀{L:List Blk}{K:alp},(∀L',R.1≠0->bK (λ_=>False) L L'->K (.tup [.nilptr,.int .i64 R.1]) L')->(∀L' rt,R.1=0->Hid (ai8 L' rt [.sl (cj aK) aK.length none,.sl F0 9 none] R.2 []/\bK (λ_=>False) L L'/\L.length<=rt)->K (.tup [.ptr rt 0,.int .i64 0]) L')->alo 32 [.agg [.sl x m none,.sl y 9 none],.sl (ns.map AV.str) ns.length cap] L K):=@hid _ (λ{L K} q0 q1=>by rw[<- hx,<- hm];exact afn tG.1 tG.2.1 hyf aoJ hn hR q0 λL' rt e g1 g2 g3=>q1 L' rt e (hid ⟨by rw[hy];exact g1,g2,g3⟩))
 have hel:=K9 acts;have hat:=hid (λk (q:k<acts.length)=>Kl q);obtain⟨ES,hES⟩:=alj (cJ acts);rw[hES]at hel hat⊢;replace h0:=hid h0;replace h1:=hid h1;replace ha:=hid ha;replace hts:=hid hts;obtain⟨z,tm⟩:=R;simp only at kN kR hts;have hcl:=hid hR;clear hR hn hnl hES;by_cases hz:z=0;rotate_left;have hz1:¬(z:Int)=0:=hz;refine aln F2 ?_;refine kN.o (λL1 _ u1=>?_) (λ_ _ _ e=>absurd e hz);have hb1:Hid (bK (λ_=>False) L L1/\L1[L.length]?=some (.cells [.sl x m none,.sl y 9 none])):=hid ⟨(bK.app (B:=λ_=>False) L _).trans u1 (λ_ _ e=>e),u1.get aoK (λe=>e)⟩;clear u1;have hx7:=hb1.o.2;refine wk ?_;refine kR.o (λL2 _ u2=>?_) (λ_ _ e=>absurd e hz);have h0':=hid (λX=>h0.o (L2++X) ((hb1.o.1.trans u2 (λ_ _ e=>e)).app2 X));clear u2 hb1 hx7 kN kR L1;refine wk ?_;exact aa (by simpa using h0'.o [])
 .subst hz;obtain⟨L0,hL0⟩:=alj (L++[Blk.cells [.sl x m none,.sl y 9 none]]);have hb0:=hid (show bK (λ_=>False) L L0 by rw[<- hL0];exact bK.app _ _);have hx0:L0[L.length]?=some (.cells [.sl x m none,.sl y 9 none]):=(by rw[<- hL0];simp);replace hL0:=hid hL0;refine aln F2 ?_;rw[hL0.o];refine kN.o (λ_ e _=>absurd rfl e) (λL1 it B _ u1=>?_);have hx1:L1[L.length]?=some (.cells [.sl x m none,.sl y 9 none]):=u1.o.2.1.get hx0 (λe=>e);refine wk ?_;refine kR.o (λ_ e _=>absurd rfl e) (λL2 rt _ u2=>?_);have hM0:Hid (hG L0 L2 it rt tm [] B):=hid (by obtain⟨v1,v2,v3⟩:=u1.o;obtain⟨w1,w2,w3⟩:=u2.o;refine⟨v1.keep w2 (λ_ _ e=>e),w1,hts.o,λe he=>(by cases he),λe he=>(by cases he),λe=>?_,v2.trans w2 (λ_ _ e=>e),v3,alQ v2.len w3⟩;have:=v1.lt e;omega)
  have hx2:L2[L.length]?=some (.cells [.sl x m none,.sl y 9 none]):=u2.o.2.1.get hx1 (λe=>e);clear u1 u2 hx1 kN kR hts;by_cases h30:30<acts.length;have g1:(acts.length:Int)>30:=aoJ;have g2:(30:Int)<(acts.length:Int):=aoJ;have h0':=hid (h0.o L2 (hb0.o.trans hM0.o.bes (λ_ _ e=>e)));clear hM0 hx2 kM kF;refine wk ?_;exact aa h0'.o;have g30:¬(acts.length:Int)>30:=aoJ;have g31:¬(30:Int)<(acts.length:Int):=aoJ;refine wk ?_;refine ah (λn T' L'=>∃(j:Nat) (l:List bt) (B:Nat->Prop),n=acts.length-j/\j<=acts.length/\Hid (hG L0 L' it rt tm l B/\l.length<=j/\l.length<=40)/\Hid (L2.length<=L'.length)/\T'=[(45,.int .i64 (j:Int)),(44,.int .i64 acts.length),(43,.sl ES acts.length capA),(9,.ptr rt 0),(7,.ptr it 0),(6,.ptr L.length 0)]) (CutS (b:=alr _)) ⟨0,[],B,rfl,alw _,hid ⟨hM0.o,aoK,aoK⟩,hid (alr _),rfl⟩ ?_;clear hM0 hx2;rintro _ _ L' ⟨j,l,B,rfl,hj,hM,hle,rfl⟩;have hx7:L'[L.length]?=some (.cells [.sl x m none,.sl y 9 none]):=hM.o.1.bes.get hx0 (λe=>e);by_cases hjl:j<acts.length
  .have hal:=ha.o.len;have j1:(j:Int)<(acts.length:Int):=aoJ;have j2:=alm j aoJ;have e3:=hat.o j hjl;have e4:j*2+2<=ES.length:=(by rw[hel];omega);obtain⟨⟨id,av⟩,he⟩:∃e,acts.getD j (0,[])=e:=⟨_,rfl⟩;have hmem:(id,av)∈acts:=(by rw[<- he];simp[hjl]);have hrd:=ha.o.at' _ hmem;have hidr:=ha.o.id _ hmem;simp only at hidr;rw[he]at e3;simp only[Uo]at e3;have kF1:=@kF av hrd;have aX:∀X,(L'++X)[L.length]?=some (.cells [.sl x m none,.sl y 9 none]):=λX=>alk hx7
   have hle2:=hle.o;cases hfw:aar av with
   | false =>
     have kk2:Hid (Ctr Tryz.prog 33 [.sl (bc av) av.length none] (.bool false)):=@hid _ (λ{L K} q=>kF1.o (by rw[hfw];exact q));have h0':=hid (λX=>h0.o (L'++X) ((hb0.o.trans hM.o.1.bes (λ_ _ e=>e)).app2 X));clear hal he hmem hrd kF1 kM kF hfw hM;refine wk ?_;exact aa (h0'.o _)
   | true =>
     have kk2:Hid (Ctr Tryz.prog 33 [.sl (bc av) av.length none] (.bool true)):=@hid _ (λ{L K} q=>kF1.o (by rw[hfw];exact q));have kM1:=@kM av hfw hrd;have hmk:=hid (λhz=>aio hfw hz);obtain⟨⟨R1,z1⟩,hR1⟩:∃R,xl aK [] av=R:=⟨_,rfl⟩;rw[hR1]at kM1 hmk;simp only at hmk;have kk3:Hid (Ctr Tryz.prog 34 [.agg [.sl x m none,.sl y 9 none],.sl (bc av) av.length none] (.tup [.sl (bc R1) R1.length none,.int .i64 z1])):=@hid _ (λ{L K} q=>kM1.o q);have hMA:=hid (hM.o.1.app [.cells [.int .i64 id,atV av]]);have hM3:=hid (λi (hi:B i)=>hM.o.1.ix.lt hi);have hln:=hid hM.o.2;replace hidr:=hid hidr;have hj40:j<40:=aoJ;clear he hmem hrd kF1 kM kF hfw kM1 hR1 hM;by_cases hz2:z1=0;rotate_left
     .have hnl:Hid (L2.length<=(L'++[Blk.cells [.int .i64 id,atV av]]).length):=hid (by simp;omega);have hnx:Hid (hG L0 (L'++[Blk.cells [.int .i64 id,atV av]]) it rt tm l B/\l.length<=j+1/\l.length<=40):=hid ⟨hMA.o,by have:=hln.o;omega,hln.o.2⟩;clear hMA hln hmk;refine wk ?_;exact aoO aoJ (CutL (b:=hnl.o)) ⟨j+1,l,B,rfl,hjl,hnx,hnl,rfl⟩
     subst hz2;have hz0:(0:Int)=0:=rfl;by_cases hav:av=[]
     .have hv1:(av.length:Int)=0:=(by rw[hav];rfl);have hv2:¬(av.length:Int)>0:=aoJ;have hv3:¬(0:Int)<(av.length:Int):=aoJ;replace hav:=hid hav;have hnl:Hid (L2.length<=(L'++[Blk.cells [.int .i64 id,atV av]]).length):=hid (by simp;omega);have hnx:Hid (hG L0 (L'++[Blk.cells [.int .i64 id,atV av]]) it rt tm l B/\l.length<=j+1/\l.length<=40):=hid ⟨hMA.o,by have:=hln.o;omega,hln.o.2⟩;clear hMA hln hmk;refine wk ?_;exact aoO aoJ (CutL (b:=hnl.o)) ⟨j+1,l,B,rfl,hjl,hnx,hnl,rfl⟩
     .have hv1:¬(av.length:Int)=0:=λe=>hav (al1.1 aoJ)
      have hv2:(av.length:Int)>0:=aoJ;have hv3:(0:Int)<(av.length:Int):=aoJ;obtain⟨hRi,hRo⟩:=hmk.o rfl;replace hRi:=hid hRi;replace hRo:=hid hRo;refine wk ?_;refine aiw hMA.o.ix (hMA.o.tms.ixg hMA.o.ents) hRo.o λL3 B3 g3 g4 g5=>?_
      obtain⟨k2,hk⟩:=hMA.o.doc;have hk3:=hid (g4.get hk hMA.o.apart);have hD3:=hid (show _/\_/\_ from⟨g3,g4,g5⟩);clear g3 g4 g5 hk;have hbx:L3[L'.length]?=some (.cells [.int .i64 id,atV av]):=hD3.o.2.1.get aoK λe=>by have:=hM3.o _ e;omega
      refine wk ?_;refine afi (by have:=hln.o;omega) hk3.o (by simp only[AV.frz,rC]) (by simp only[AV.frz];rfl) (by simp only[AV.frz,eh]) hRo.o.len (λa ha=>(hRo.o.sz a ha).2) λL4 k q1 q2=>?_
      have hnx:Hid (hG L0 L4 it rt tm (J4 id R1 l) B3/\(J4 id R1 l).length<=j+1/\(J4 id R1 l).length<=40):=hid ⟨hMA.o.drop hD3.o.1 hD3.o.2.1 hD3.o.2.2 (λe he=>by
        rcases mj.1 he with rfl|⟨h,_⟩
        .exact⟨hRi.o,hRo.o⟩
        .exact hMA.o.ents e h) (λe he=>by
        rcases mj.1 he with rfl|⟨h,_⟩
        .exact hidr.o
        .exact hMA.o.ids e h) ⟨_,q1⟩ q2,by
       have:=afB id R1 l;have h2:=hln.o;omega⟩
      have hnl:Hid (L2.length<=L4.length):=hid (by have h3:=hD3.o.2.1.len;have h4:=q2.len;simp at h3;omega)
      clear hMA hD3 hk3 q1 q2 hmk hln hRi hRo;refine wk ?_;exact aoO aoJ (CutL (b:=hnl.o)) ⟨j+1,_,_,rfl,hjl,hnx,hnl,rfl⟩
  have hje:j=acts.length:=aoJ;subst hje;have j1:¬(acts.length:Int)<(acts.length:Int):=aoJ;have hfin:=hid (h1.o _ _ _ _ _ _ hcl.o (hM.o.1.base hb0.o) hM.o.2.2);clear hM;refine wk ?_;exact aa hfin.o
set_option maxRecDepth 1000000
theorem TmS.typ{tm:TMp}(h:TmS aK tm){n:List UInt8}{ty:Typ}(hg:cO tm (af n)=some ty):ez aK n=some ty:=by obtain⟨c,hc⟩:=iF hg;obtain⟨m,h1,h2,_⟩:=h.ty _ hc;simp only at h1 h2;rw[<- h1];unfold ez;rw[h2]
structure ali(n v:List UInt8)(ps:List Pc):Prop where
 n:bv n
 len:(ps.length:Int)<=9223372036854775807
theorem W7{n:List UInt8}:∀{s:List Atr},(∀b∈s,af b.1≠af n)->cc s n=[]
 |[],_=>rfl
 |a::t,h=>by rw[cc,if_neg (h a aoK)];exact W7 λb hb=>h b (by simp[hb])
theorem ahP{l:List Atr}(h:s.Sublist l)(hr:gT dS l):∀n x,x∈cc s n->x∈cc l n:=by
 induction h with
 |slnil=>exact λn x hx=>hx
 | @cons s l a hs ih =>
   intro n x hx;rw[gT,al7]at hr;rw[cc];split
   .rename_i e;rw[W7 (s:=s) (λb hb e2=>by have:=hr.1 b (hs.mem hb);simp only[dS]at this;rw[e2,e]at this;exact absurd this (amz _))]at hx
    cases hx
   .exact ih hr.2 n x hx
 | @cons_cons s l a hs ih =>
   intro n x hx;rw[gT,al7]at hr;rw[cc]at hx⊢;split
   .rename_i e;rw[if_pos e]at hx;exact hx
   .rename_i e;rw[if_neg e]at hx;exact ih hr.2 n x hx
theorem InA.sub{l:List Atr}(h:InA ts l)(hs:s.Sublist l):InA ts s:=⟨List.Pairwise.sublist hs h.1,λa ha=>h.2 a (hs.mem ha)⟩
theorem ag3{tm:TMp}(hT:TmS aK tm){r:List Atr}(he:(id,r)∈l)(hi:InA aK r)(hs:s.Sublist r){w:Int}{f:Flt}{m:List Int}(hm:Lo tm l w f=some m)(ht:ofM aK s f=1):id∈m:=by
 have hd:((gg tm).map (·.1)).Nodup:=by rw[adb];exact hT.ok.keys
 refine acn SD (ts:=aK) (s:=s) (leaf:=lfO tm l) (λk a v ps m e h1=>?_) (λa v ps=>?_) f m hm ht;refine agc hd (λf s e=>?_) aeg (λa s e=>?_) he hi (ahP hs hi.1) e h1;obtain⟨ty,h1,h2⟩:=alS.1 e;exact(ae2 hT.ok.keys).2 ⟨ty,h1,h2⟩;obtain⟨ty,h1,h2⟩:=alS.1 e;exact⟨ty,hT.typ h1,h2⟩;unfold lfO XH;split;rfl;simp
theorem af0{m:List Int}(h:id∈m):xk [m,[id]]=[id]:=by
 refine U5 (SD.mtR _) aoK λx=>?_
 rw[SD.mtM];constructor;rintro⟨_,q⟩;exact q [id] aoK;intro q;rw[alM]at q;subst q;refine⟨aoK,λy hy=>?_⟩;simp only[alu,am3,or_false]at hy;rcases hy with rfl|rfl;exact h;simp
variable {L:List Blk}{K:alp}
theorem Zo{acts:List bt}{f:Flt}{w:Int}{hide:Int}{capA:Option Nat}(hns:∀n∈ns,bv n)(hnl:(ns.length:Int)<=9223372036854775807)(ha:Zc acts)(hf:ahu f)(h:∀L',K (.bool true) L'):
  alo 7 [.agg (.sl (ns.map AV.str) ns.length cap :: .sl (cJ acts) acts.length capA::(fA f++[.int .i64 w])),.int .u32 hide] L K:=by
 have kkW:Hid (Ctr Tryz.prog 30 [] (.bool true)):=@hid _ (λ{L K} q=>xH q);have kkS:Hid (∀{L:List Blk}{K:alp},(∀b:Bool,(b=true->WI f)->K (.bool b) L)->alo 25 [.agg (fA f)] L K):=@hid _ (λ{L K} q=>aeG hf q);have kkM:Hid (∀{L:List Blk}{K:alp},(∀L',bK (λ_=>False) L L'->K (.tup [.nilptr,.nilptr]) L')->(∀L' it rt tm l B,Hid (RP aK [] ns=(0,tm)/\hG L L' it rt tm l B/\l.length<=40)->K (.tup [.ptr it 0,.ptr rt 0]) L')->alo 24 [.sl (ns.map AV.str) ns.length cap,.sl (cJ acts) acts.length capA] L K):=@hid _ (λ{L K} q0 q1=>af6 hns hnl ha q0 λL' it rt tm l B e1 e2 e3=>q1 L' it rt tm l B (hid ⟨e1,e2,e3⟩));have hof:WI f->∀(s:List Atr) (cap:Option Nat),InA aK s->s.length<=1100000->(∀a∈s,a.2.length<=1100000)->∀{L:List Blk}{K:alp},K (.int .i64 (ofM aK s f)) L->alo 31 [.agg [.sl (cj aK) aK.length none,.sl F0 9 none],.agg (fA f),.sl (bc s) s.length cap] L K:=λhf s cap h1 h2 h3 {L K} q=>akE tG h1 h2 h3 f hf q
 replace hof:=@hid _ @hof;have kkA:∀(L:List Blk) (it:Nat) (tm:TMp) (l:List bt) (B:Nat->Prop),IxO L it tm l B->Uj l->WI f->∀w,Hid (∀{X:List Blk}{K:alp},K (PP (Lo tm l w f)) (L++X)->alo 27 [.ptr it 0,.agg (fA f),.int .i64 w] (L++X) K):=λL it tm l B ho hi hs w=>@hid _ (λ{X K} q=>aeC ho hi f hs q)
 have hfz:=agR f;obtain⟨k,a,v,ps,ks⟩:=f;rw[Kk]at kkS hfz⊢;rw[Kk]at kkA hof;obtain⟨PS,hPS⟩:∃P,P=iP ps:=⟨_,rfl⟩;obtain⟨KS,hKS⟩:∃P,P=fsA ks:=⟨_,rfl⟩;obtain⟨NS,hNS⟩:∃P,P=ns.map AV.str:=⟨_,rfl⟩;obtain⟨ES,hES⟩:∃P,P=cJ acts:=⟨_,rfl⟩;rw[<- hPS,<- hKS]at kkA hof kkS⊢;rw[<- hNS,<- hES]at kkM⊢;replace hPS:=hid hPS;replace hKS:=hid hKS;replace hNS:=hid hNS;replace hES:=hid hES;replace h:=hid h;clear hfz hf hns hnl ha;simp only[al3,al2];refine aln yw ?_;refine kkM.o (λL1 u1=>?_) (λL1 it rt tm l B hM=>?_);have hb:L1[L.length]?=some (.cells [.sl NS ns.length cap,.sl ES acts.length capA,.int .i64 k,.str a,.str v,.sl PS ps.length none,.sl KS ks.length none,.int .i64 w]):=u1.get aoK (λe=>e);have kk1:=@kkW;clear u1 kkM kkA kkS hof;refine aoR ?_;exact aa (h.o _);have hb:L1[L.length]?=some (.cells [.sl NS ns.length cap,.sl ES acts.length capA,.int .i64 k,.str a,.str v,.sl PS ps.length none,.sl KS ks.length none,.int .i64 w]):=hM.o.2.1.bes.get aoK (λe=>e);have hi:Uj l:=⟨by have:=hM.o.2.2;omega,hM.o.2.1.ids⟩;have kA:=kkA L1 it tm l B hM.o.2.1.ix hi;have hrs:=hM.o.2.1.ix.rise;have hlen:=hid hM.o.2.2;replace kA:=hid kA;replace hrs:=hid hrs;clear kkA kkM;replace hi:=hid hi;refine aoR ?_;refine kkS.o λb hb2=>?_
 cases b with
 | false =>
   have kk1:=@kkW;clear hb2 kA kkS hof hM hi;refine aoR ?_;exact aa (h.o _)
 |true =>
 have hfs:=hb2 rfl;have kB:=kA.o hfs;have kB1:=@kB w;have hof1:=hof.o hfs;clear hb2 kA kkS hof kB;have hcov:∀m,Lo tm l w (.mk k a v ps ks)=some m->∀id r,(id,r)∈l->∀s:List Atr,s.Sublist r->ofM aK s (.mk k a v ps ks)=1->id∈m:=λm hm id r he s hs ht=>ag3 hM.o.2.1.tms he (hM.o.2.1.ents _ he).1 hs hm ht
 have hml:∀m,Lo tm l w (.mk k a v ps ks)=some m->m.length<=1000:=λm e=>by have:=(Y3 hrs.o _ m e).len;have:=hlen.o;omega
 obtain⟨oA,ho1⟩:=alj (Lo tm l w (.mk k a v ps ks));rw[ho1]at hcov hml kB1;clear ho1 hfs;cases oA with
 | none =>
   simp only[PP]at kB1;have kk1:Hid (∀{K:alp},K (.tup [.sl [] 0 (some 0),.bool false]) L1->alo 27 [.ptr it 0,.agg [.int .i64 k,.str a,.str v,.sl PS ps.length none,.sl KS ks.length none],.int .i64 w] L1 K):=@hid _ (λ{K} q=>by have:=kB1.o (X:=[]) (K:=K) (by simpa using q);simpa using this)
   have kk2:=@kkW;clear kB1 hcov hml hof1 hM hi;refine aoR ?_;exact aa (h.o _)
 |some m =>
 simp only[PP]at kB1;have hmm:=hml m rfl;have hcv:=hid (hcov m rfl);have kk1:Hid (∀{K:alp},K (.tup [rH m,.bool true]) L1->alo 27 [.ptr it 0,.agg [.int .i64 k,.str a,.str v,.sl PS ps.length none,.sl KS ks.length none],.int .i64 w] L1 K):=@hid _ (λ{K} q=>by have:=kB1.o (X:=[]) (K:=K) (by simpa using q);simpa using this)
 obtain⟨k2,hL0⟩:=hM.o.2.1.doc;have hents:=hid hM.o.2.1.ents;have hll:=hlen.o;have kkC:Hid (Ctr Tryz.prog 20 [] (.agg [.sl (cj aK) aK.length none,.sl F0 9 none])):=@hid _ (λ{L K} q=>abW q);obtain⟨OF,hOF⟩:∃OF:List Atr->Int,(λs=>ofM aK s (.mk k a v ps ks))=OF:=⟨_,rfl⟩;have hOFv:∀s,ofM aK s (.mk k a v ps ks)=OF s:=λs=>by rw[<- hOF]
 simp only[hOFv]at hof1 hcv;obtain⟨TS,hTS⟩:=alj (cj aK);obtain⟨tl,htl⟩:=alj (aK.length);obtain⟨CC,hCC⟩:=alj (F0);obtain⟨TN,hTN⟩:=alj ((tm.map (·.1)).map AV.str);have hel:=K9 l;have hat:=hid (λk (q:k<l.length)=>Kl q);obtain⟨LS,hLS⟩:=alj (cJ l);have hTf:AV.frzL TS=TS:=by rw[<- hTS];exact rC _
 have hCf0:AV.frzL CC=CC:=by rw[<- hCC];rfl
 have hPf:AV.frzL PS=PS:=by rw[hPS.o];exact acy _
 have hKf:AV.frzL KS=KS:=by rw[hKS.o];exact YN _
 rw[hTS,htl,hCC]at kkC;simp only[hTS,htl,hCC,hTN,hLS,al3,al2]at hL0;simp only[hTS,htl,hCC]at hof1;rw[hLS]at hel hat;replace hof1:=@hid _ @hof1;have kk2:=@kkC;clear kB1 hcov hml hM hi hTN hLS hOF hOFv hTS htl hCC kkC;have hLX:∀X,(L1++X)[rt]?=some (.cells [.sl TS tl none,.sl CC 9 none,.sl TN tm.length none,.sl LS l.length k2]):=λX=>by rw[aly (alq.1 hL0).1];exact hL0
 have hbX:∀X,(L1++X)[L.length]?=some (.cells [.sl NS ns.length cap,.sl ES acts.length capA,.int .i64 k,.str a,.str v,.sl PS ps.length none,.sl KS ks.length none,.int .i64 w]):=λX=>by rw[aly (alq.1 hb).1];exact hb
 refine aoR ?_;clear kk1 kk2 hLX hL0;refine ah (λn T' L'=>∃(i:Nat) (X:List Blk),n=l.length-i/\i<=l.length/\T'=[(54,.int .i64 (i:Int)),(53,.int .i64 l.length),(52,.sl LS l.length k2),(9,.ptr L1.length 0),(7,rH m),(2,.ptr L.length 0),(1,.int .u32 hide)]/\L'=L1++(.cells [.sl TS tl none,.sl CC 9 none]::X)) aoN ⟨0,[],rfl,alw _,rfl,aoK⟩ ?_;clear hb;rintro _ _ _ ⟨i,X,rfl,hi,rfl,rfl⟩;by_cases hlt:i<l.length;rotate_left;have hie:i=l.length:=aoJ;subst hie;have j1:¬(l.length:Int)<(l.length:Int):=aoJ;have kk1:=@kkW;clear hof1 hcv hat;refine wk ?_;exact aa (h.o _);have j1:(i:Int)<(l.length:Int):=aoJ;have j2:=alm i aoJ;have e3:=hat.o i hlt;have e4:i*2+2<=LS.length:=by rw[hel];omega
 obtain⟨⟨x,av⟩,hx⟩:∃e,l.getD i (0,[])=e:=⟨_,rfl⟩;have hmem:(x,av)∈l:=by rw[<- hx];simp[hlt]
 have hav:=hents.o _ hmem;have hcx:=hid (hcv.o x av hmem);rw[hx]at e3;simp only[Uo,atV]at e3;simp only at hav;have hasl:=iN av;have hast:=hid (λk (q:k<av.length)=>oO q);have hasf:=eX av;obtain⟨AS,hAS⟩:=alj (bc av);rw[hAS]at e3 hasl hast;replace hAS:=hid hAS;replace hav:=hid hav;have havl:av.length<=1100000:=hav.o.2.len;clear hx hmem hasf;refine wk ?_;refine bF (l:=[]) (n:=0) 12 2 rfl (alU 2).symm ?_;have e1:(L1++(Blk.cells [.sl TS tl none,.sl CC 9 none])::(X++[Blk.cells [.int .i64 x,.sl AS av.length none]])).length=L1.length+(X.length+2):=aoK;rw[e1];clear e1;refine ah (λn T' L'=>∃(q c:Nat) (C:List AV) (Y:List Blk),n=av.length-q/\q<=av.length/\Hid (∃Sx:List Atr,Sx.Sublist (av.take q)/\C=bc Sx/\c=Sx.length)/\T'=[(61,.int .i64 (q:Int)),(60,.int .i64 av.length),(59,.sl AS av.length none),(12,.gsl C c (L1.length+(X.length+2)) 2),(11,.ptr (L1.length+(X.length+1)) 0),(54,.int .i64 (i:Int)),(53,.int .i64 l.length),(52,.sl LS l.length k2),(9,.ptr L1.length 0),(7,rH m),(2,.ptr L.length 0),(1,.int .u32 hide)]/\L'=L1++(.cells [.sl TS tl none,.sl CC 9 none]::(X ++ .cells [.int .i64 x,.sl AS av.length none] :: .spare c 2::Y))) aoN ⟨0,0,[],[],rfl,alw _,hid ⟨[],aoK,rfl,rfl⟩,rfl,aoK⟩ ?_;rintro _ _ _ ⟨q,c,C,Y,rfl,hq,hC,rfl,rfl⟩;by_cases hql:q<av.length
 .have q1:(q:Int)<(av.length:Int):=aoJ;have q2:=alm q aoJ;have e5:=hast.o q hql;have e6:q*2+2<=AS.length:=(by rw[hasl];omega);obtain⟨⟨nm,vs⟩,ha⟩:∃a,av.getD q ([],[])=a:=⟨_,rfl⟩;have hvsl:vs.length<=1100000:=(hav.o.2.sz (nm,vs) (by rw[<- ha];simp[hql])).2;have htk:av.take (q+1)=av.take q++[(nm,vs)]:=(by rw[alN hql,show av[q]=(nm,vs)by rw[<- ha];simp[hql]]);rw[ha]at e5;simp only[atA]at e5;have hVt:Hid (∀z,z<vs.length->(vs.map AV.str).getD z .undef=.str (vs.getD z [])/\z<(vs.map AV.str).length):=hid λz hz=>by simp[hz]
  obtain⟨VS,hVS⟩:=alj (vs.map AV.str);rw[hVS]at e5 hVt;replace htk:=hid htk;replace hVS:=hid hVS;clear ha;refine wk ?_;refine ah (λn T' L'=>∃z:Nat,n=vs.length-z/\z<=vs.length/\T'=[(69,.int .i64 (z:Int)),(68,.int .i64 vs.length),(67,.sl VS vs.length none),(13,.int .i64 (q:Int)),(14,.ptr (L1.length+(X.length+(Y.length+1+1)+1)) 0),(61,.int .i64 (q:Int)),(60,.int .i64 av.length),(59,.sl AS av.length none),(12,.gsl C c (L1.length+(X.length+2)) 2),(11,.ptr (L1.length+(X.length+1)) 0),(54,.int .i64 (i:Int)),(53,.int .i64 l.length),(52,.sl LS l.length k2),(9,.ptr L1.length 0),(7,rH m),(2,.ptr L.length 0),(1,.int .u32 hide)]/\L'=L1++(.cells [.sl TS tl none,.sl CC 9 none]::(X ++ .cells [.int .i64 x,.sl AS av.length none] :: .spare c 2::(Y++[.cells [.str nm,.sl VS vs.length none]])))) aoN ⟨0,rfl,alw _,rfl,aoK⟩ ?_;rintro _ _ _ ⟨z,rfl,hz,rfl,rfl⟩;by_cases hzl:z<vs.length;have z1:(z:Int)<(vs.length:Int):=aoJ;have z2:=alm z aoJ;obtain⟨z3,z4⟩:=hVt.o z hzl;obtain⟨v0,hv0⟩:=alj (vs.getD z []);rw[hv0]at z3;clear hv0;by_cases h200:(200:Int)<(v0.length:Int);have h201:(v0.length:Int)>200:=h200;refine wk ?_;exact aa (h.o _);have h201:¬(v0.length:Int)>200:=h200;refine wk ?_;exact aoO aoJ aoM ⟨z+1,rfl,hzl,rfl,rfl⟩;have hze:z=vs.length:=aoJ;subst hze;have z1:¬(vs.length:Int)<(vs.length:Int):=aoJ;have g32:(0:Int)<=(q:Int).tmod 32:=Int.tmod_nonneg _ aoJ;have hcb:c<=1100000:=by obtain⟨Sx,s1,_,s3⟩:=hC.o;have:=s1.length_le;rw[anl]at this;omega
  have hK:=hid (show ∃Sx:List Atr,Sx.Sublist (av.take (q+1))/\C=bc Sx/\c=Sx.length by obtain⟨Sx,s1,s2,s3⟩:=hC.o;exact⟨Sx,by rw[htk.o];exact s1.trans (List.sublist_append_left _ _),s2,s3⟩)
  have hK2:=hid (show ∃Sx:List Atr,Sx.Sublist (av.take (q+1))/\C++[.str nm,.sl VS vs.length none]=bc Sx/\c+1=Sx.length by obtain⟨Sx,s1,s2,s3⟩:=hC.o;exact⟨Sx++[(nm,vs)],by rw[htk.o];exact s1.append (List.Sublist.refl _),by rw[KJ,s2,<- hVS.o];rfl,by rw[alJ,s3];rfl⟩)
  have hVf:AV.frzL VS=VS:=(by rw[<- hVS.o];exact eh _);clear hC htk hVt hVS
  repeat' first
   |refine bd ?_
   | (first|refine aV aoL ?_|refine aB aoL ?_|refine aE ?_|refine bJ ?_|refine bg (fun _=>?_)|refine ax ?_|refine aY ?_|refine xH ?_|refine aU (xH ⟨rfl,rfl⟩) (xH ⟨rfl,rfl⟩) ?_|refine aA (xH ⟨rfl,rfl⟩) ?_)
     refine sm ?_
   | (first|refine aO aoL ?_|refine aP ?_|refine aD ?_|refine aW ?_|refine bq (aw ?_))
     refine sl ?_
   |exact bh
   |first|apply bj|apply aR|apply bm|apply aS|apply bo|apply aT
   |refine aH ?_
   |refine aC ?_
   |first|refine aF rfl ?_|refine aG rfl ?_|refine ao rfl ?_ ?_|refine aJ rfl (λ_=>?_) (λ_=>?_)|refine aI rfl (λ_=>?_) (λ_=>?_)
   |((first|refine an (λ_=>?_) (λ_=>?_)|refine au (λ_=>?_) (λ_=>?_))<;>try refine sm ?_)
   |refine And.intro trivial ?_
   |refine And.intro aoJ ?_
   |refine aL rfl (λ_=>?_) (λ_=>?_)
   |refine And.intro ?_ ?_
  exact aoO aoJ aoM ⟨q+1,_,_,_,rfl,hql,hK2,rfl,rfl⟩;exact aoO aoJ aoM ⟨q+1,_,_,_,rfl,hql,hK,rfl,rfl⟩
 have hqe:q=av.length:=aoJ;subst hqe;have q1:¬(av.length:Int)<(av.length:Int):=aoJ;obtain⟨Sx,s1,s2,s3⟩:=hC.o;rw[alF]at s1;subst s2 s3;have hCf:AV.frzL (bc Sx)=bc Sx:=eX Sx;have hAf:AV.frzL AS=AS:=by rw[<- hAS.o];exact eX av
 have hbox:∀s:List Atr,s.Sublist av->Hid (Ctr Tryz.prog 31 [.agg [.sl TS tl none,.sl CC 9 none],.agg [.int .i64 k,.str a,.str v,.sl PS ps.length none,.sl KS ks.length none],.sl (bc s) s.length none] (.int .i64 (OF s))):=λs hs=>@hid _ (λ{L K} q=>hof1.o s none (hav.o.1.sub hs) (by have:=hs.length_le;omega) (λa ha=>(hav.o.2.sz a (hs.mem ha)).2) q)
 have hid2:∀s:List Atr,s.Sublist av->OF s=1->Hid (∀{L:List Blk}{c c1:Option Nat}{K:alp},K (rH [x]) L->alo 29 [.sl [rH m,.sl [.int .i64 x] 1 c1] 2 c] L K):=λs hs h1=>@hid _ (λ{L c c1 K} q=>eY (by
  simp only[AV.frzL,AV.frz,xw];exact acE (cap:=none) (ls:=[m,[x]]) aoK (λy hy=>by
  simp only[alu,am3,or_false]at hy;rcases hy with rfl|rfl;omega;simp) (by rw[af0 (hcx.o s hs h1)];exact q)))
 have hsm:Hid (∀{L:List Blk}{c:Option Nat}{K:alp},K (.bool true) L->alo 22 [rH [x],.sl [.int .i64 x] 1 c] L K):=@hid _ (λ{L c K} q=>ah7 (xs:=[x]) (cap:=none) (cap':=c) aoK q);have hA0:=@hbox av (List.Sublist.refl _);rw[hAS.o]at hA0;have hA1:=@hbox Sx s1;have hA2:Hid (∀{i:Nat}{L:List Blk}{K:alp},K (.int .i64 (OF Sx)) L->alo 31 [.agg [.sl TS tl none,.sl CC 9 none],.agg [.int .i64 k,.str a,.str v,.sl PS ps.length none,.sl KS ks.length none],.gsl (bc Sx) Sx.length i 2] L K):=@hid _ (λ{i L K} q=>eY (by simp only[AV.frzL,AV.frz,hTf,hCf0,hPf,hKf,eX];exact hA1 q))
 clear hA1;have hA1:=@hA2;have hB0:=hid2 av (List.Sublist.refl _);have hB1:=hid2 Sx s1;obtain⟨CS,hCS⟩:=alj (bc Sx);rw[hCS]at hCf hA1⊢;obtain⟨oA,hoA⟩:=alj (OF av);obtain⟨oS,hoS⟩:=alj (OF Sx);rw[hoA]at hA0 hB0;rw[hoS]at hA1 hB1;have hcl:=s1.length_le;replace hB0:=hid hB0;replace hB1:=hid hB1;clear hC hbox hid2 hCS hoA hoS hcx hast hasl;refine wk ?_;refine ah (λn T' L'=>∃(r:Nat) (Z:List Blk),n=2-r/\r<=2/\Hid (Y.length<=Z.length)/\T'=[(93,.int .i64 (r:Int)),(92,.int .i64 2),(91,.sl [.sl AS av.length none,.gsl CS Sx.length (L1.length+(X.length+2)) 2] 2 (some 2)),(11,.ptr (L1.length+(X.length+1)) 0),(54,.int .i64 (i:Int)),(53,.int .i64 l.length),(52,.sl LS l.length k2),(9,.ptr L1.length 0),(7,rH m),(2,.ptr L.length 0),(1,.int .u32 hide)]/\L'=L1++(.cells [.sl TS tl none,.sl CC 9 none]::(X ++ .cells [.int .i64 x,.sl AS av.length none] :: .spare Sx.length 2::Z))) aoN ⟨0,_,rfl,aoJ,hid (alr _),rfl,rfl⟩ ?_;rintro _ _ _ ⟨r,Z,rfl,hr,hZ,rfl,rfl⟩;have hr3:r=0\/r=1\/r=2:=aoJ;rcases hr3 with rfl|rfl|rfl;by_cases ho:oA=1;have hq0:=hB0.o;have hm1:=@hq0 ho;clear hq0;subst ho;have kk1:=@hA0;have kk2:=@hm1;have kk3:=@hsm;clear hB0 hB1 hA1 hA0 hm1;refine wk ?_;exact aoO aoJ (CutL (b:=by simp;exact hZ.o)) ⟨1,_,rfl,aoJ,hZ,rfl,rfl⟩;have kk1:=@hA0;clear hB0 hB1 hA1 hA0;refine wk ?_;exact aoO aoJ (CutL (b:=by simp;exact hZ.o)) ⟨1,_,rfl,aoJ,hZ,rfl,rfl⟩;by_cases ho:oS=1;have hq0:=hB1.o;have hm1:=@hq0 ho;clear hq0;subst ho;have kk1:=@hA1;have kk2:=@hm1;have kk3:=@hsm;clear hB0 hB1 hA1 hA0 hm1;refine wk ?_;exact aoO aoJ (CutL (b:=by simp;exact hZ.o)) ⟨2,_,rfl,aoJ,hZ,rfl,rfl⟩;have kk1:=@hA1;clear hB0 hB1 hA1 hA0;refine wk ?_;exact aoO aoJ (CutL (b:=by simp;exact hZ.o)) ⟨2,_,rfl,aoJ,hZ,rfl,rfl⟩;clear hB0 hB1 hA1 hA0;refine wk ?_;exact aoO aoJ aoM ⟨i+1,_,rfl,hlt,rfl,rfl⟩
end Go.Proofs.YtcmfcpjnhephaaaGreatDoor.Av
