/- Joined texts of the walk, made small by a program. -/
import Derived.Test.YtdnfjhflkkpokaaGreatDoorGk12
import Derived.Test.YtdnfjhflkkpokaaGreatDoorGk11
import Derived.Test.YtdnfjhflkkpokaaGreatDoorGk4
import Derived.Test.YtdnfjhflkkpokaaGreatDoorRows
import Derived.KernelRfl
set_option linter.unusedSimpArgs false
set_option linter.unusedVariables false
namespace Go.Proofs.YtdnfjhflkkpokaaGreatDoor.Av
open Go
variable {x:aC}{seen:List Nat}{ps:List aC}{cap c:Option Nat}{j rt:Nat}{p:Pth}{dn tn:List Rdn}{k:Int}
set_option maxHeartbeats 8000000
set_option maxRecDepth 100000
theorem aga{nb bn:Int->Nat}:∀{l:List aC}{x:aC},(l.map λx=>bn x.id).Nodup->x∈l->(l.map (gM nb bn)).find? (λe=>Nat.beq e.2.2 (bn x.id))=some (gM nb bn x)
 |[],x,_,h=>by cases h
 | y::l,x,hn,h=>by
   rw[apv,aqi]at hn;rcases apn.1 h with h|h
   .subst h;simp[gM]
   .have hne:bn y.id≠bn x.id:=λe=>hn.1 (ao6.2 ⟨x,h,e.symm⟩)
    have a:Nat.beq (bn y.id) (bn x.id)=false:=by
     cases hh:Nat.beq (bn y.id) (bn x.id)with
     |false=>rfl
     |true=>exact absurd (Nat.eq_of_beq_eq_true hh) hne
    simp only[apv,aq0];rw[show Nat.beq (gM nb bn y).2.2 (bn x.id)=false from a];exact aga hn.2 h
theorem aoN{nb bn:Int->Nat}{l:List aC}{ck:Nat}(b:(l.map λx=>bn x.id).Nodup)(a:x∈l):mat (l.map (gM nb bn)) ck (seen++[bn x.id]) ck=some (gM nb bn x):=by simp only[mat,List.getLast?_append,List.getLast?_singleton,Option.some_or,if_true];exact aga b a
theorem ai7{β:Type}:∀(ps l:List β),ps.Nodup->(∀x∈ps,x∈l)->ps.length<=l.length
 |[],l,_,_=>ao2 _
 | x::ps,l,hn,hs=>by
   obtain⟨e,d⟩:=aqi.1 hn;obtain⟨a,b,rfl⟩:=List.append_of_mem (hs x asp);have:=ai7 ps (a++b) d λy c=>by
    have:=hs y (by simp[c]);rcases ao5.1 this with h|h
    .exact aqh _ h
    .rcases apn.1 h with h|h
     .rw[h]at c;exact absurd c e
     .exact aqP _ h
   simp only[apd,apb]at this⊢;omega
structure aaq(bn:Int->Nat)(l:List aC)(ps:List aC)(seen:List Nat):Prop where
 sub:∀x∈ps,x∈l
 nd:ps.Nodup
 eq:seen=ps.map λx=>bn x.id
theorem aaq.nil{bn:Int->Nat}{l:List aC}:aaq bn l [] []:=⟨λ_ h=>absurd h apX,List.nodup_nil,rfl⟩
theorem aaq.next{bn:Int->Nat}{l:List aC}(h:aaq bn l ps seen)(i:x∈l)(d:seen.contains (bn x.id)=false):aaq bn l (ps++[x]) (seen++[bn x.id]):=by
 refine⟨λy c=>?_,?_,by rw[h.eq];simp⟩;rcases ao5.1 c with c|c;exact h.sub y c;rw[apr.1 c];exact i;rw[arp];refine⟨h.nd,asp,λa f b g e=>?_⟩;rw[apr.1 g]at e;have:bn x.id∈seen:=by rw[h.eq,<- e];exact ao6.2 ⟨a,f,rfl⟩
 rw[ap2]at d;simp[this]at d
theorem aaq.all{bn:Int->Nat}{l:List aC}(h:aaq bn l ps seen)(f:l.Nodup)(d:(l.map λx=>bn x.id).Nodup)(c:∀x∈l,seen.contains (bn x.id)=true):ps.Perm l:=by
 refine(List.perm_ext_iff_of_nodup h.nd f).2 λx=>⟨h.sub x,λa=>?_⟩
 have:=c x a;rw[ap2,decide_eq_true_eq,h.eq]at this;obtain⟨y,b,e⟩:=ao6.1 this;rw[<- f9 d (h.sub y b) a e];exact b
theorem aaq.len{bn:Int->Nat}{l:List aC}(h:aaq bn l ps seen):ps.length<=l.length:=ai7 ps l h.nd h.sub
theorem aoH{bn:Int->Nat}{l:List aC}(a:x∈l)(b:seen.contains (bn x.id)=false):(l.filter λr => !(seen++[bn x.id]).contains (bn r.id)).length<(l.filter λr => !seen.contains (bn r.id)).length:=by
 have e:(l.filter λr => !(seen++[bn x.id]).contains (bn r.id))=(l.filter λr => !seen.contains (bn r.id)).filter (λr=>decide (bn r.id≠bn x.id)):=by
  rw[List.filter_filter];refine List.filter_congr λr _=>?_
  by_cases h:bn r.id=bn x.id<;>simp[h]
 rw[e];refine List.length_filter_lt_length_iff_exists.2 ⟨x,apC.2 ⟨a,by rw[b];rfl⟩,asp⟩
theorem TOk.nodup{suf:List Rdn}{last:Int}{l:List aC}(h:TOk suf last l):l.Nodup:=by have a:=h.inv.ids;unfold d7 at a;rw[apq]at a;exact EJ a
theorem ac5(q:Nat->Bool):∀l:List aC,AV.refsL q (pc l)=true
 |[]=>rfl
 |x::l=>by show(AV.refs q _&&AV.refsL q _)=true;rw[ac5 q l];rfl
theorem SQ{suf:List Rdn}{last:Int}{l:List aC}(ht:TOk suf last l)(bt:l.length<=1100000){L:List Blk}{iv mn mi:Nat}{nb bn:Int->Nat}{ck ci:Nat}{rs:List TKy}(H:bT L iv mn mi nb bn ck ci rs suf last l){id s:Int}{K:aoY}(h:K (.sl ((scT l id s).map (AV.int .i64)) (scT l id s).length none) L):
  aoX 23 [.ptr iv 0,.int .i64 id,.int .i64 s] L K:=by
 have y:=H.v;have hn:=H.n;have bb:iv<L.length:=(aoZ.1 y).1;have a9:mn<L.length:=(aoZ.1 hn).1;have av:∀X:List Blk,(L++X)[iv]?=some (.cells [dnA suf,.lmap mn,.lmap mi,.int .i64 last]):=λX=>by rw[ao4 bb];exact y
 have an:∀X:List Blk,(L++X)[mn]?=some (.map (l.map (gM nb bn)) ck):=λX=>by rw[ao4 a9];exact hn
 have b4:bS .int (.int .i64 id)=true:=rfl;unfold scT at h;rcases H.node id with⟨e1,e2⟩|⟨a,j,e1,ha,b2,e2,e3⟩;rw[e1]at h;replace h:=hid h;clear H e1 y hn;refine aoW fT ?_;refine aY ?_;rw[show(AV.sl [] 0 (some 0)).frz=.sl (([]:List Int).map (AV.int .i64)) ([]:List Int).length none from rfl];exact ac rfl h.o
 .rw[e1]at h;simp only at h;have bs:nb id<L.length:=(aoZ.1 e3).1;unfold nf at e3;have ad:∀X:List Blk,(L++X)[nb id]?=some (.cells [dnA a.nm,.sl (aD (pth a)) a.nm.length none,atR a.av,.int .i64 (bE (d7 l) (NK a.nm):Nat)]):=λX=>by rw[ao4 bs];exact e3
  by_cases hs:s<0\/2<s;rw[if_pos hs]at h;replace h:=hid h;clear H e1 y hn e3;by_cases c1:s<0;refine aoW fT ?_;refine aY ?_;rw[show(AV.sl [] 0 (some 0)).frz=.sl (([]:List Int).map (AV.int .i64)) ([]:List Int).length none from rfl];exact ac rfl h.o;have c2:2<s:=aso;have c3:s>2:=c2;refine aoW fT ?_;refine aY ?_;rw[show(AV.sl [] 0 (some 0)).frz=.sl (([]:List Int).map (AV.int .i64)) ([]:List Int).length none from rfl];exact ac rfl h.o
  .rw[if_neg hs]at h;have c1:¬s<0:=aso;have c2:¬2<s:=aso;have c3:¬s>2:=c2;replace h:=hid h;replace H:=hid H;replace ht:=hid ht;clear y hn e3 hs;refine aoW fT ?_;refine ak (λn T' L'=>∃(seen:List Nat) (ps:List aC) (v:AV) (Z:List Blk),n=(l.filter λr => !seen.contains (bn r.id)).length/\Hid (aaq bn l ps seen)/\Hid ((ps.filter (iE a s)=[]/\v=.sl [] 0 (some 0))\/∃m,ps.filter (iE a s)≠[]/\v=.lsl (L.length+2+m) 0 (ps.filter (iE a s)).length none 1/\Z[m]?=some (.cells (pc (ps.filter (iE a s)))))/\T'=[(44,.ptr (L.length+1) 0),(8,v),(7,.sl (aD (pth a)) a.nm.length none),(3,.ptr L.length 0),(0,.ptr iv 0),(1,.int .i64 id),(2,.int .i64 s)]/\L'=L++([.cells [.ptr iv 0],.miter (some mn) ck seen ck]++Z)) ass ⟨[],[],_,[],rfl,hid aaq.nil,hid (.inl ⟨rfl,rfl⟩),rfl,rfl⟩ ?_;rintro _ _ _ ⟨seen,ps,v,Z,rfl,E,y,rfl,rfl⟩;have i1:∀(a b:Blk) (Z:List Blk),(L++([a,b]++Z))[L.length+1]?=some b:=λa b Z=>by rw[ape aso];simp
   have i3:∀(a b c:Blk) (Z:List Blk),(L++([a,b]++Z)).set (L.length+1) c=L++([a,c]++Z):=λa b c Z=>by rw[apu _ _ aso,show L.length+1-L.length=1 by omega];rfl
   refine bH ?_;refine ame (i:=L.length+1) (j:=mn) (es:=l.map (gM nb bn)) asq rfl (i1 _ _ _) (an _) (λe he=>?_) (ao0 _) (λai=>?_) (λe he hs=>?_);obtain⟨p,hp,rfl⟩:=ao6.1 he;exact H.o.blt p hp;have N:=E.o.all ht.o.nodup H.o.bnd λx O=>ai (gM nb bn x) (ao6.2 ⟨x,O,rfl⟩)
   have P:=ht.o.srt a s (N.filter (iE a s));have w:=apk (ap4 (iE a s) ps) E.o.len;have G:∀x∈ps.filter (iE a s),x∈l:=λx O=>E.o.sub x (apC.1 O).1
   obtain⟨z,A⟩:=aoT (ps.filter (iE a s));have a8:=y.o;rw[A]at a8 P w G;rw[<- P]at h;replace G:=hid G;replace w:=hid w;clear ai N P E y A;refine sk ?_;rcases a8 with⟨rfl,rfl⟩|⟨m,Y,rfl,M⟩;have kk1:Hid (∀{cap:Option Nat}{fv:AV}{L:List Blk}{K:aoY},K (.tup []) L->aoX 55 [.sl [] 0 cap,fv] L K):=@hid _ (by intro cap fv L K q;exact aiv q);clear G w;refine wk ?_;refine aY ?_;have h':=h.o;rw[List.mergeSort_nil]at h';exact ac rfl h';have al:∀(b c:Blk),(L++b::c::Z)[L.length+2+m]?=some (.cells (pc z)):=λb c=>by rw[ape aso,show L.length+2+m-L.length=m+1+1 by omega];simpa using M
   have a6:∀(b c d:Blk),(L++b::c::Z).set (L.length+2+m) d=L++b::c::Z.set m d:=λb c d=>by rw[apu _ _ aso,show L.length+2+m-L.length=m+1+1 by omega];rfl
   have hm:m<Z.length:=(aoZ.1 M).1;obtain⟨sr,W⟩:=aoT (z.mergeSort leE);have b1:sr.length=z.length:=(by rw[<- W,ar6]);have kk1:Hid (∀{K:aoY},K (.tup []) (L ++ .cells [.ptr iv 0] :: .miter (some mn) ck seen ck::Z.set m (.cells (pc sr)))->aoX 55 [.lsl (L.length+2+m) 0 z.length none 1,.func 56 [.ptr L.length 0]] (L ++ .cells [.ptr iv 0] :: .miter (some mn) ck seen ck::Z) K):=@hid _ (by intro K q;refine akS ht.o G.o Y (apk w.o bt) (H.o.app _) (al _ _) (by rw[ape (ao0 _)];simp) ?_;rw[a6,W];exact q)
   rw[W]at h;have e4:(sr.map λx=>x.id).map (AV.int .i64)=pc sr:=(by rw[apq];rfl);rw[e4,apm]at h;clear G w Y W a6 al M;refine wk ?_;refine EC (i:=L.length+2+m) (l:=pc sr) ?_ ?_;rw[ape aso,show L.length+2+m-L.length=m+1+1 by omega];simp[hm];rw[show(AV.lsl (L.length+2+m) 0 z.length none 1).snap (L.length+2+m) (pc sr)=.sl (pc sr) sr.length none from by simp[AV.snap,<- b1,apA],apu _ _ aso];refine ac ?_ h.o;simp only[AV.refs];exact ac5 _ sr
   .obtain⟨x,O,rfl⟩:=ao6.1 he;clear he;have a3:seen.contains (bn x.id)=false:=hs;have B:=hid (aoH O a3);have t:=hid (E.o.next O a3);have a_:=aoN (nb:=nb) (ck:=ck) (seen:=seen) H.o.bnd O;have V:=H.o.nd x O;have bo:nb x.id<L.length:=(aoZ.1 V).1;unfold nf at V;have a4:∀X:List Blk,(L++X)[nb x.id]?=some (.cells [dnA x.nm,.sl (aD (pth x)) x.nm.length none,atR x.av,.int .i64 (bE (d7 l) (NK x.nm):Nat)]):=λX=>by rw[ao4 bo];exact V
    have f:=ajv ht.o ha O s;have J:(pth x).length=x.nm.length:=(by simp[pth,bC]);have a2:(pth a).length=a.nm.length:=(by simp[pth,bC]);have Q:(ps++[x]).filter (iE a s)=ps.filter (iE a s)++(if iE a s x=true then[x]else[]):=by rw[ar5];congr 1;by_cases c:iE a s x=true<;>simp[c]
    have bi:=(ht.o.ok x O).len;have a':=(ht.o.ok a ha).len;have w:=apk (ap4 (iE a s) ps) E.o.len;rw[J,a2]at f;simp only[gM]at *;clear hs a3 E;simp only[i3];have w1:IntKind.i64.wrap ((x.nm.length:Int)-(a.nm.length:Int))=(x.nm.length:Int)-(a.nm.length:Int):=ae aso aso;have kE:Hid (∀{ca cb:Option Nat}{L:List Blk}{K:aoY},a.nm.length<=x.nm.length->K (.bool (decide (List.take a.nm.length (pth x)=pth a))) L->aoX 54 [.sl (List.take a.nm.length (aD (pth x))) a.nm.length ca,.sl (aD (pth a)) a.nm.length cb] L K):=@hid _ (by intro ca cb L K b5 q;rw[<- arI];exact an3 (a:=(pth x).take a.nm.length) (b:=pth a) (by rw[aqk,J];omega) a2.symm (by rw[aqk,J];omega) q)
    obtain⟨u,hu⟩:=aoT (decide (List.take a.nm.length (pth x)=pth a));rw[hu]at kE f;obtain⟨xi,I⟩:=aoT (x.id);have D:iE a s x=true->(ps++[x]).filter (iE a s)=ps.filter (iE a s)++[x]:=λe=>by rw[Q,if_pos e]
    have ap:iE a s x=false->(ps++[x]).filter (iE a s)=ps.filter (iE a s):=λe=>by rw[Q,if_neg (by rw[e];decide)];simp
    obtain⟨z,A⟩:=aoT (ps.filter (iE a s));rw[A]at y D ap w;obtain⟨nx,S⟩:=aoT (x.nm.length);obtain⟨na,U⟩:=aoT (a.nm.length);rw[I]at a_ a4;rw[S,U]at kE f w1;rw[S]at a4 bi;rw[U]at ad a';obtain⟨xp,a0⟩:=aoT (aD (pth x));rw[a0]at kE a4;have b3:xp.length=nx:=(by rw[<- a0,apm,J,S]);have out:iE a s x=false->Hid ((z=[]/\v=.sl [] 0 (some 0))\/∃m,z≠[]/\v=.lsl (L.length+2+m) 0 z.length none 1/\Z[m]?=some (.cells (pc z)))->Hid (((ps++[x]).filter (iE a s)=[]/\v=.sl [] 0 (some 0))\/∃m,(ps++[x]).filter (iE a s)≠[]/\v=.lsl (L.length+2+m) 0 ((ps++[x]).filter (iE a s)).length none 1/\Z[m]?=some (.cells (pc ((ps++[x]).filter (iE a s))))):=λe y=>by rw[ap e];exact y
    rw[U,I];rw[I]at B t;have g:=λ(e:iE a s x=false)=>out e y
    clear out;replace g:=hid g;replace f:=hid f;have F:=hid (show pc [x]=[.int .i64 xi]from by rw[<- I];rfl);clear Q V O ap J a2 I S U hu a0 A ha b2 e1;by_cases d1:na<=nx;rotate_left;have g1:¬(0:Int)<=(nx:Int)-(na:Int):=aso;have g2:¬(nx:Int)-(na:Int)≥0:=g1;have out:=g.o (by rw[f.o,decide_eq_false g1];rfl);clear kE f g y D;refine asw ?_;refine ast B.o ass ⟨_,ps++[x],_,_,rfl,hid t.o,out.o,rfl,rfl⟩;have kk1:=@hid _ (λ{ca cb:Option Nat}{L:List Blk}{K:aoY}=>kE.o (ca:=ca) (cb:=cb) (L:=L) (K:=K) d1);have g1:(0:Int)<=(nx:Int)-(na:Int):=aso;have g2:(nx:Int)-(na:Int)≥0:=g1;have g3:(na:Int)<=(nx:Int):=aso;have f:=f.o;rw[decide_eq_true g1,apy]at f;replace f:=hid f;clear kE;cases u with
    | false =>
      have out:=g.o (by rw[f.o];rfl);clear f g y D;refine asw ?_;refine ast B.o ass ⟨_,ps++[x],_,_,rfl,hid t.o,out.o,rfl,rfl⟩
    | true =>
      have f:=f.o;rw[apy]at f;replace f:=hid f;by_cases d2:s=2
      .subst d2;have k:=hid (D (by rw[f.o];rfl));clear f g D;rcases y.o with⟨A,rfl⟩|⟨m,Y,rfl,M⟩
       .subst A;clear y;refine asw ?_;refine ast B.o ass ⟨_,ps++[x],_,Z++[.cells [.int .i64 xi]],rfl,hid t.o,hid (.inr ⟨Z.length,by rw[k.o];simp,?_,by rw[k.o,apx,F.o];simp⟩),rfl,asp⟩;rw[k.o,show L.length+(Z.length+1+1)=L.length+2+Z.length by omega];rfl
       .have hm:m<Z.length:=(aoZ.1 M).1;have a5:∀(a b:Blk),(L++a::b::Z)[L.length+2+m]?=some (.cells (pc z)):=λa b=>by rw[ape aso,show L.length+2+m-L.length=m+1+1 by omega];simpa using M
        have bk:∀(a b:Blk),(L++a::b::Z).set (L.length+2+m) .dead=L++a::b::Z.set m .dead:=λa b=>by rw[apu _ _ aso,show L.length+2+m-L.length=m+1+1 by omega];rfl
        obtain⟨C,R⟩:=aoT (pc z);obtain⟨d,T⟩:=aoT (z.length);have bx:C.length=d:=(by rw[<- R,apm,T]);have bl:List.take d C=C:=apA aso;have b0:d<=1100000:=aso;rw[R]at a5;rw[T];have ar:=hid R;have a1:=hid T;clear y M R T w;refine asw ?_;refine ast B.o ass ⟨_,ps++[x],_,Z.set m .dead++[.cells (C++[.int .i64 xi])],rfl,hid t.o,hid (.inr ⟨Z.length,by rw[k.o];simp,?_,by rw[k.o,show pc (z++[x])=pc z++pc [x]from apz,ar.o,F.o,ape asp];simp⟩),rfl,asp⟩;rw[k.o,show L.length+(Z.length+1+1)=L.length+2+Z.length by omega,apd,a1.o];rfl
      .by_cases d3:(nx:Int)-(na:Int)=s
       .have k:=hid (D (by rw[f.o];rw[decide_eq_true d3,arz]));subst d3;clear f g D;rcases y.o with⟨A,rfl⟩|⟨m,Y,rfl,M⟩
        .subst A;clear y;refine asw ?_;refine ast B.o ass ⟨_,ps++[x],_,Z++[.cells [.int .i64 xi]],rfl,hid t.o,hid (.inr ⟨Z.length,by rw[k.o];simp,?_,by rw[k.o,apx,F.o];simp⟩),rfl,asp⟩;rw[k.o,show L.length+(Z.length+1+1)=L.length+2+Z.length by omega];rfl
        .have hm:m<Z.length:=(aoZ.1 M).1;have a5:∀(a b:Blk),(L++a::b::Z)[L.length+2+m]?=some (.cells (pc z)):=λa b=>by rw[ape aso,show L.length+2+m-L.length=m+1+1 by omega];simpa using M
         have bk:∀(a b:Blk),(L++a::b::Z).set (L.length+2+m) .dead=L++a::b::Z.set m .dead:=λa b=>by rw[apu _ _ aso,show L.length+2+m-L.length=m+1+1 by omega];rfl
         obtain⟨C,R⟩:=aoT (pc z);obtain⟨d,T⟩:=aoT (z.length);have bx:C.length=d:=(by rw[<- R,apm,T]);have bl:List.take d C=C:=apA aso;have b0:d<=1100000:=aso;rw[R]at a5;rw[T];have ar:=hid R;have a1:=hid T;clear y M R T w;refine asw ?_;refine ast B.o ass ⟨_,ps++[x],_,Z.set m .dead++[.cells (C++[.int .i64 xi])],rfl,hid t.o,hid (.inr ⟨Z.length,by rw[k.o];simp,?_,by rw[k.o,show pc (z++[x])=pc z++pc [x]from apz,ar.o,F.o,ape asp];simp⟩),rfl,asp⟩;rw[k.o,show L.length+(Z.length+1+1)=L.length+2+Z.length by omega,apd,a1.o];rfl
       .have out:=g.o (by rw[f.o,decide_eq_false d2,decide_eq_false d3];rfl);clear f g y D;refine asw ?_;refine ast B.o ass ⟨_,ps++[x],_,_,rfl,hid t.o,out.o,rfl,rfl⟩
variable {L:List Blk}{K:aoY}
theorem aoh{rows:List AV}{i:Nat}(O:rows.length<=1100000){Inv:Nat->List Blk->List Blk->Prop}{L:List Blk}{K:aoY}(p:∀k A Z,Inv k A Z->A.length=L.length/\A[j]?=some (.cells [.sl rows rows.length cap]))(C:Inv rows.length L [])(E:∀k A Z X (Q:AV->List Blk->Prop),k<rows.length->X.length=3->Inv (k+1) A Z->(∀v B,Inv k v B->Q (.bool true) (v++(X++B)))->aaO Tryz.prog i [rows.getD k .undef] (A++(X++Z)) Q)(H:∀A Z,Inv 0 A Z->∀X,X.length=3->Fin L (.tup []) (A++(X++Z)) K):
  aoX 184 [.yld i,.ptr j 0] L K:=by
 have M:=(p _ _ _ C).2;have F:j<L.length:=(aoZ.1 M).1;have I:∀x:Blk,(L++[x])[j]?=some (.cells [.sl rows rows.length cap]):=λx=>by rw[ao4 F];exact M
 have kk1:Hid (∀{L:List Blk}{K:aoY},K (.func 209 [.ptr L.length 0]) (L++[.cells [.sl rows rows.length cap]])->aoX 185 [.sl rows rows.length cap] L K):=@hid _ (by intro L K q;exact aok q);replace p:=hid p;replace C:=hid C;replace E:=hid E;replace H:=hid H;refine aoW NM ?_;refine WR (f:=209) (caps:=[.ptr (L.length+1) 0]) (λargs w=>rfl) rfl (λfn ca cb r t m u n=>?_);have D:∀(A:List Blk) (d:A.length=L.length) (a b c x y:Blk) (Z:List Blk),(A++([a,b,c]++Z))[(L++[x,y]).length]?=some c:=λA d a b c x y Z=>by rw[ape (by simp[d])];simp[d]
 have s:∀(A:List Blk) (d:A.length=L.length) (a b c c' x y:Blk) (Z:List Blk),(A++([a,b,c]++Z)).set (L++[x,y]).length c'=A++([a,b,c']++Z):=λA d a b c c' x y Z=>by rw[apu _ _ (by simp[d]),show(L++[x,y]).length-A.length=2 by simp[d]];rfl
 refine alZ (rows:=rows) (cap:=cap) O (Inv:=λk L'=>∃A Z,L'=A++([.cells [.yld i],.cells [.sl rows rows.length cap],.lrec [(6,.func 209 [.ptr (L.length+1) 0]),(2,.ptr L.length 0),(0,.yld i),(1,.ptr j 0)] 13 fn [7,8] ca cb false]++Z)/\Inv k A Z) ?_ ?_ ?_ ?_;rintro k L' ⟨A,Z,rfl,h⟩;have d:=(p.o _ _ _ h).1;refine⟨?_,by simp[d]⟩;rw[ape aso,d];simp;exact⟨L,[],asp,C.o⟩;rintro k L' Q N ⟨A,Z,rfl,h⟩ G;have d:=(p.o _ _ _ h).1;refine acH (D A d _ _ _ _ _ _) r t m u rfl n ?_;simp only[RZ];replace G:=hid G;replace h:=hid h;have e:∀(A:List Blk) (d:A.length=L.length) (a b c c':Blk) (Z:List Blk),(A++a::b::c::Z).set (L.length+2) c'=A++a::b::c'::Z:=λA d a b c c' Z=>by rw[apu _ _ aso,show L.length+2-A.length=2 by omega];rfl
 have g:∀(A:List Blk) (d:A.length=L.length) (a b c:Blk) (Z:List Blk),(A++a::b::c::Z)[L.length+2]?=some c:=λA d a b c Z=>by rw[ape aso,show L.length+2-A.length=2 by omega];rfl
 have J:∀(a:Blk) (Z:List Blk),(A++a::Z)[L.length]?=some a:=λa Z=>by rw[ape aso,show L.length-A.length=0 by omega];rfl
 replace e:=hid e;replace g:=hid g;clear r t m u n kk1 D s M I;refine wk ?_;refine⟨g.o _ d _ _ _ _,?_⟩;rw[e.o _ d];refine wk ?_;rw[aar];refine E.o k A Z [.cells [.yld i],.cells [.sl rows rows.length cap],.lrec [(6,.func 209 [.ptr (L.length+1) 0]),(2,.ptr L.length 0),(0,.yld i),(1,.ptr j 0)] 13 fn [7,8] ca cb true] _ N rfl h.o λv B l=>?_
 have z:=(p.o _ _ _ l).1;have P:∀(a:Blk) (Z:List Blk),(v++a::Z)[L.length]?=some a:=λa Z=>by rw[ape aso,show L.length-v.length=0 by omega];rfl
 replace l:=hid l;clear J h d;refine asw ?_;refine⟨rfl,g.o _ z _ _ _ _,?_⟩;rw[e.o _ z];exact G.o _ ⟨v,B,rfl,l.o⟩;rintro L' ⟨A,Z,rfl,h⟩;have d:=(p.o _ _ _ h).1;refine aa ⟨D A d _ _ _ _ _ _,?_⟩;rw[s A d];clear D s r t m u n kk1;exact⟨.inl rfl,True,[],rfl,trivial,H.o A Z h _ rfl⟩
theorem ac3{k:Nat}(a:k<p.length):p.reverse.take (p.length-k)=p.reverse.take (p.length-(k+1))++[p.getD k []]:=by rw[show p.length-k=p.length-(k+1)+1 by omega,aph (by rw[aql];omega)];congr 2;rw[List.getElem_reverse];simp only[apo];rw[ao8 a];simp only[apT];congr 1;omega
theorem aor(W:p.length<=1000){L:List Blk}(J:L[j]?=some (.cells [.sl (aD p) p.length cap])){K:aoY}(h:K (.sl (aD p.reverse) p.length none) L):
  aoX 183 [.sl [] 0 (some 0),.func 184 [.ptr j 0]] L K:=by
 replace h:=hid h;have S:j<L.length:=(aoZ.1 J).1;refine aoW jy ?_;refine WR (f:=184) (caps:=[.ptr j 0]) (λargs w=>rfl) rfl (λfn ca cb y z r B t=>?_);have M:∀(a c x:Blk) (Z:List Blk),(L++[a,c]++Z)[(L++[x]).length]?=some c:=λa c x Z=>by rw[apc,ape asp];simp
 refine aoh (rows:=aD p) (cap:=cap) (by simp;omega) (Inv:=λk A Z=>∃v:AV,A=L++[.cells [v],.lrec [(6,.func 184 [.ptr j 0]),(4,.sl [] 0 (some 0)),(2,.ptr L.length 0),(0,.sl [] 0 (some 0)),(1,.func 184 [.ptr j 0])] 13 fn [7] ca cb false]/\((k=p.length/\v=.sl [] 0 (some 0))\/∃m,v=.lsl (L.length+5+m) 0 (p.length-k) none 1/\Z[m]?=some (.cells (aD (p.reverse.take (p.length-k)))))) ?_ ?_ ?_ ?_;rintro k A Z ⟨v,rfl,_⟩;refine⟨asp,?_⟩;rw[ao4 S];simpa using J;exact⟨_,asp,.inl ⟨asp,rfl⟩⟩;rintro k A Z X Q O N ⟨v,rfl,P⟩ I;rw[apm]at O;obtain⟨x0,x1,x2,rfl⟩:∃a b c,X=[a,b,c]:=by
  match X,N with
  |[a,b,c],_=>exact⟨a,b,c,rfl⟩
 obtain⟨s,R⟩:=aoT (p.getD k []);have U:(aD p).getD k .undef=.str s:=by rw[<- R];simp[O]
 have q:=ac3 O;rw[R]at q;rw[U];refine acH (M _ _ _ _) y z r B rfl t ?_;simp only[RZ];replace I:=hid I;replace q:=hid q;clear R U y z r B t M h J;have g:∀(a c c':Blk) (Z:List Blk),(L++a::c::Z).set (L.length+1) c'=L++([a,c']++Z):=λa c c' Z=>by rw[apu _ _ aso,show L.length+1-L.length=1 by omega];rfl
 have n:∀(a c:Blk) (Z:List Blk),(L++a::c::Z)[L.length+1]?=some c:=λa c Z=>by rw[ape aso,show L.length+1-L.length=1 by omega];rfl
 replace g:=hid g;replace n:=hid n;rcases P with⟨V,rfl⟩|⟨m,rfl,D⟩;refine wk ?_;refine⟨rfl,n.o _ _ _,?_⟩;rw[g.o];have:=I.o _ (Z++[.cells [.str s]]) ⟨_,rfl,.inr ⟨Z.length,rfl,by rw[q.o,show p.length-(k+1)=0 by omega];simp⟩⟩;rw[show L.length+(Z.length+1+1+1+1+1)=L.length+5+Z.length by omega];rw[show p.length-k=1 by omega]at this;rw[apc]at this;exact this;obtain⟨d,Y⟩:=aoT (p.length-(k+1));obtain⟨C,u⟩:=aoT (aD (p.reverse.take (p.length-(k+1))));have H:C.length=d:=by rw[<- u,apm,aqk,aql];omega
 have al:List.take d C=C:=apA aso;rw[u]at D;rw[Y];have hm:m<Z.length:=(aoZ.1 D).1;have F:∀(a b c e f:Blk),(L++a::b::c::e::f::Z)[L.length+5+m]?=some (.cells C):=λa b c e f=>by rw[ape aso,show L.length+5+m-L.length=m+1+1+1+1+1 by omega];simpa using D
 have ai:d<=1000:=aso;have ad:∀(a b c e f:Blk),(L++a::b::c::e::f::Z).set (L.length+5+m) .dead=L++a::b::c::e::f::Z.set m .dead:=λa b c e f=>by rw[apu _ _ aso,show L.length+5+m-L.length=m+1+1+1+1+1 by omega];rfl
 refine wk ?_;refine⟨rfl,n.o _ _ _,?_⟩;rw[g.o];have:=I.o _ (Z.set m .dead++[.cells (C++[.str s])]) ⟨_,rfl,.inr ⟨Z.length,rfl,by rw[q.o,<- u,ape asp];simp⟩⟩;rw[show L.length+(Z.length+1+1+1+1+1)=L.length+5+Z.length by omega];rw[show p.length-k=d+1 by omega]at this;rw[apc]at this;exact this;rintro A Z ⟨v,rfl,P⟩ X N;obtain⟨x0,x1,x2,rfl⟩:∃a b c,X=[a,b,c]:=by
  match X,N with
  |[a,b,c],_=>exact⟨a,b,c,rfl⟩
 have G:∀(a c c' x:Blk) (Z:List Blk),(L++[a,c]++Z).set (L++[x]).length c'=L++a::c'::Z:=λa c c' x Z=>by rw[apc,apu _ _ asp,show(L++[x]).length-L.length=1 by simp];rfl
 refine aa ⟨M _ _ _ _,?_⟩;rw[G];clear G M y z r B t N J;rcases P with⟨T,rfl⟩|⟨m,rfl,D⟩;have E:p=[]:=apK.1 T.symm;subst E;clear T W;refine wk ?_;refine aY ?_;rw[show(AV.sl [] 0 (some 0)).frz=.sl (aD ([]:Pth).reverse) ([]:Pth).length none from rfl];exact ac rfl h.o;rw[aq2,apA (by rw[aql];omega)]at D;rw[aq2];obtain⟨C,u⟩:=aoT (aD p.reverse);have H:C.length=p.length:=by rw[<- u,apm,aql]
 rw[u]at D h;have F:∀(a b c e f:Blk),(L++a::b::c::e::f::Z)[L.length+5+m]?=some (.cells C):=λa b c e f=>by rw[ape aso,show L.length+5+m-L.length=m+1+1+1+1+1 by omega];simpa using D
 refine wk ?_;refine EC (i:=L.length+5+m) (l:=C) (F _ _ _ _ _) ?_;rw[show(AV.lsl (L.length+5+m) 0 p.length none 1).snap (L.length+5+m) C=.sl C p.length none from by simp[AV.snap,<- H],apu _ _ aso];exact ac (by rw[<- u];simp only[AV.refs];exact i8 _ _) h.o
theorem ani(b:p.length<=1000){L:List Blk}(a:L[j]?=some (.cells [.sl (aD p) p.length cap])){K:aoY}(h:K (.sl (aD p.reverse) p.length none) L):
  aoX 127 [.func 184 [.ptr j 0]] L K:=by
 have kk1:Hid (∀{K:aoY},K (.sl (aD p.reverse) p.length none) L->aoX 183 [.sl [] 0 (some 0),.func 184 [.ptr j 0]] L K):=@hid _ (by intro K q;exact aor b a q);replace h:=hid h;refine aoW tE ?_;exact aa h.o
theorem aog{rows:List AV}{n:Nat}(h:K (.func 184 [.ptr L.length 0]) (L++[.cells [.sl rows n cap]])):
  aoX 128 [.sl rows n cap] L K:=by
 replace h:=hid h;refine aoW So ?_;exact aa h.o
theorem alw{d:List Rdn}(j:OkD d)(h:K (.str (bj true d)) L):
  aoX 126 [.sl (aD (NK d)) d.length cap,.str [44]] L K:=by
 obtain⟨k,f⟩:=Y4 j;have g:∀r∈d,(dx true r).length<=200000:=λr b=>S9 (f r b).1 (λa c=>((f r b).2 a c).1) (λa c=>((f r b).2 a c).2)
 have i:=SZ aso g;have e:bj true d=Lib.join (NK d) [44]:=rfl;rw[e]at h i;rw[show d.length=(NK d).length from(bC d).symm];exact VC (by rw[bC];omega) aso h
theorem aij{L:List Blk}{it iv mn mi nb:Nat}{s lst a0 a2 a3:AV}{es:List (AV×AV×Nat)}{rs:List TKy}{ck ci V:Nat}{l1:List AV}{W:Option Nat}{id:Int}{d:List Rdn}(l:OkD d)(f:L[it]?=some (.cells [.ptr iv 0]))(i:L[iv]?=some (.cells [s,.lmap mn,.lmap mi,lst]))(u:L[mn]?=some (.map es ck))(O:dG (.int .i64 id) es 0=some (some (j,.ptr nb 0)))(a:L[nb]?=some (.cells [a0,.sl l1 V W,a2,a3]))(g:L[mi]?=some (.map (rs.map kyA) ci))(I:dG (.str (bj true d)) (rs.map kyA) 0=some none){K:aoY}(h:K (.tup []) ((L.set nb (.cells [dnA d,.sl (aD (NK d).reverse) d.length none,a2,a3])).set mi (.map ((rs++[(bj true d,id,ci)]).map kyA) (ci+1))++[.cells [.sl (aD (NK d).reverse) d.length none]])):
  aoX 79 [.ptr it 0,.int .i64 id,.sl (d.map am) d.length cap] L K:=by
 have Q:bS .int (.int .i64 id)=true:=rfl;have H:=l.len;have A:nb≠iv:=λe=>by rw[e,i]at a;simp at a
 have y:nb≠it:=λe=>by rw[e,f]at a;simp at a
 have N:nb≠mn:=λe=>by rw[e,u]at a;simp at a
 have C:nb≠mi:=λe=>by rw[e,g]at a;simp at a
 have D:nb<L.length:=(aoZ.1 a).1;have x:∀b,(L.set nb b)[it]?=some (.cells [.ptr iv 0]):=λb=>by rw[api y];exact f
 have B:∀b,(L.set nb b)[iv]?=some (.cells [s,.lmap mn,.lmap mi,lst]):=λb=>by rw[api A];exact i
 have z:∀b,(L.set nb b)[mi]?=some (.map (rs.map kyA) ci):=λb=>by rw[api C];exact g
 have M:∀b,(L.set nb b)[nb]?=some b:=λb=>by simp[D]
 have T:∀b c,(L.set nb b).set nb c=L.set nb c:=λb c=>arK ..
 have kk1:Hid (∀{L:List Blk}{c:Option Nat}{K:aoY},K (dnA d) L->aoX 59 [.sl (d.map am) d.length cap,.sl [] 0 c] L K):=@hid _ (by intro L c K q;exact ab9 l.m.b.1 l.m.b.2 q);have kk2:Hid (Ctr Tryz.prog 125 [.sl (d.map am) d.length cap] (.sl (aD (NK d).reverse) d.length none)):=@hid _ (by intro L K q;exact amR l q);replace h:=hid h;refine aoW Sp ?_;have E:iv<L.length:=(aoZ.1 i).1;have w:it<L.length:=(aoZ.1 f).1;have v:mi<L.length:=(aoZ.1 g).1;have U:∀b X,(L.set nb b++[X])[it]?=some (.cells [.ptr iv 0]):=λb X=>by rw[ao4 (by simpa using w)];exact x b
 have S:∀b X,(L.set nb b++[X])[iv]?=some (.cells [s,.lmap mn,.lmap mi,lst]):=λb X=>by rw[ao4 (by simpa using E)];exact B b
 have R:∀b X,(L.set nb b++[X])[mi]?=some (.map (rs.map kyA) ci):=λb X=>by rw[ao4 (by simpa using v)];exact z b
 have J:∀b X Y,(L.set nb b++[X]).set mi Y=(L.set nb b).set mi Y++[X]:=λb X Y=>by rw[ap3 _ _ (by simpa using v)]
 have kk3:Hid (∀{K:aoY},K (.sl (aD (NK d)) d.length none) ((L.set nb (.cells [dnA d,.sl (aD (NK d).reverse) d.length none,a2,a3]))++[.cells [.sl (aD (NK d).reverse) d.length none]])->aoX 127 [.func 184 [.ptr (L.set nb (.cells [dnA d,.sl (aD (NK d).reverse) d.length none,a2,a3])).length 0]] ((L.set nb (.cells [dnA d,.sl (aD (NK d).reverse) d.length none,a2,a3]))++[.cells [.sl (aD (NK d).reverse) d.length none]]) K):=@hid _ (by intro K q;have G:(NK d).reverse.length=d.length:=(by rw[aql,bC]);have:=ani (p:=(NK d).reverse) (cap:=none) (j:=(L.set nb (.cells [dnA d,.sl (aD (NK d).reverse) d.length none,a2,a3])).length) (L:=(L.set nb (.cells [dnA d,.sl (aD (NK d).reverse) d.length none,a2,a3]))++[.cells [.sl (aD (NK d).reverse) d.length none]]) aso (by rw[ape (ao0 _),G];simp) (K:=K);rw[List.reverse_reverse,G]at this;exact this q)
 have kk4:Hid (Ctr Tryz.prog 126 [.sl (aD (NK d)) d.length none,.str [44]] (.str (bj true d))):=@hid _ (by intro L K q;exact alw l q);have r:bS .str (.str (bj true d))=true:=rfl;obtain⟨F,k⟩:=aoT (bj true d);rw[k]at kk4 I r h;obtain⟨P,n⟩:=aoT (aD (NK d).reverse);rw[n]at kk3 h⊢;have t:(rs++[(F,id,ci)]).map kyA=rs.map kyA++[(.str F,.int .i64 id,ci)]:=by rw[apz];rfl
 rw[t]at h;clear kk1 kk2 f i u O a g k n t;refine⟨_,_,(show aoX 128 [.sl P d.length none] _ _ from aog ⟨rfl,rfl⟩),?_⟩;refine asw ?_;exact⟨.inl rfl,True,[],rfl,trivial,aa h.o⟩
def dI(kd:Int->Int)(x:aC):List AV:=[dnA x.nm,.sl (aD (pth x)) x.nm.length none,atR x.av,.int .i64 (kd x.id)]
structure bY(L:List Blk)(iv mn mi:Nat)(nb bn:Int->Nat)(ck ci:Nat)(rs:List TKy)(suf:List Rdn)(last:Int)(l lk:List aC)(kd:Int->Int):Prop where
 v:L[iv]?=some (.cells [dnA suf,.lmap mn,.lmap mi,.int .i64 last])
 n:L[mn]?=some (.map (l.map (gM nb bn)) ck)
 i:L[mi]?=some (.map (rs.map kyA) ci)
 nd:∀x∈l,L[nb x.id]?=some (.cells (dI kd x))
 inj:∀x∈l,∀y∈l,nb x.id=nb y.id->x.id=y.id
 keys:(rs.map (·.1)).Nodup
 mem:∀k id,(∃b,(k,id,b)∈rs)↔∃x∈lk,bj true x.nm=k/\x.id=id
 bnd:(l.map λx=>bn x.id).Nodup
 blt:∀x∈l,bn x.id<ck
theorem TOk.kidsE{suf:List Rdn}{last:Int}{l:List aC}(h:TOk suf last l)(a:x∈l):iP l x.id=bE (d7 l) (NK x.nm):=by unfold iP;rw[h.ent a]
theorem bT.toK{L:List Blk}{iv mn mi:Nat}{nb bn:Int->Nat}{ck ci:Nat}{rs:List TKy}{suf:List Rdn}{last:Int}{l:List aC}(h:bT L iv mn mi nb bn ck ci rs suf last l)(j:TOk suf last l):bY L iv mn mi nb bn ck ci rs suf last l l (λid=>(iP l id:Nat)):=by
 have nd:∀x∈l,L[nb x.id]?=some (.cells (dI (λid=>(iP l id:Nat)) x)):=λx c=>by rw[h.nd x c];unfold nf dI;dsimp only;rw[j.kidsE c]
 refine⟨h.v,h.n,h.i,nd,λx c y k e=>?_,h.keys,h.mem,h.bnd,h.blt⟩;have d:=h.nd x c;have o:=h.nd y k;rw[e,o]at d;have g:nf l y=nf l x:=by injection d with d;injection d
 unfold nf at g;simp only[List.cons.injEq,AV.sl.injEq]at g;have h4:aD (pth y)=aD (pth x):=g.2.1.1;have m:pth y=pth x:=(List.map_inj_right λa b f=>by injection f).1 h4;rw[j.byN k c (abQ m)]
theorem bY.toT{L:List Blk}{iv mn mi:Nat}{nb bn:Int->Nat}{ck ci:Nat}{rs:List TKy}{suf:List Rdn}{last:Int}{l:List aC}{kd:Int->Int}(h:bY L iv mn mi nb bn ck ci rs suf last l l kd)(b:∀x∈l,kd x.id=(bE (d7 l) (NK x.nm):Nat)):bT L iv mn mi nb bn ck ci rs suf last l :=
 ⟨h.v,h.n,h.i,λx a=>by rw[h.nd x a];unfold dI nf;rw[b x a],h.keys,h.mem,h.bnd,h.blt⟩
theorem bY.app{L:List Blk}{iv mn mi:Nat}{nb bn:Int->Nat}{ck ci:Nat}{rs:List TKy}{suf:List Rdn}{last:Int}{l lk:List aC}{kd:Int->Int}(h:bY L iv mn mi nb bn ck ci rs suf last l lk kd)(X:List Blk):bY (L++X) iv mn mi nb bn ck ci rs suf last l lk kd:=by
 have key:∀{i:Nat}{b:Blk},L[i]?=some b->(L++X)[i]?=some b:=λ{i b} e=>by rw[ao4 (aoZ.1 e).1];exact e
 exact⟨key h.v,key h.n,key h.i,λx a=>key (h.nd x a),h.inj,h.keys,h.mem,h.bnd,h.blt⟩
section
variable {L:List Blk}{iv mn mi:Nat}{nb bn:Int->Nat}{ck ci:Nat}{rs:List TKy}{suf:List Rdn}{last:Int}{l lk:List aC}{kd:Int->Int}
def OfT(iv mn mi:Nat)(nb:Int->Nat)(l:List aC)(i:Nat):Prop:=i=iv\/i=mn\/i=mi\/∃x∈l,i=nb x.id
structure aZ(B:Nat->Prop)(L L':List Blk):Prop where
 len:L.length<=L'.length
 eq:∀i,i<L.length->¬B i->L'[i]?=L[i]?
theorem aZ.refl{B:Nat->Prop}(L:List Blk):aZ B L L:=⟨ao0 _,λ_ _ _=>rfl⟩
theorem aZ.app{B:Nat->Prop}(L X:List Blk):aZ B L (L++X):=⟨asp,λi a _=>ao4 a⟩
theorem aZ.trans{B:Nat->Prop}{L L1 L2:List Blk}(h:aZ B L L1)(g:aZ B L1 L2):aZ B L L2:=⟨apk h.len g.len,λi b a=>by rw[g.eq i (aqc b h.len) a,h.eq i b a]⟩
theorem aZ.set{B:Nat->Prop}(L:List Blk){j:Nat}(c:B j)(b:Blk):aZ B L (L.set j b):=⟨asp,λi d a=>api (λe=>a (by rw[<- e];exact c))⟩
theorem aZ.weak{B b:Nat->Prop}{L L':List Blk}(h:aZ B L L')(c:∀i,i<L.length->B i->b i):aZ b L L':=⟨h.len,λi a d=>h.eq i a λe=>d (c i a e)⟩
theorem aZ.trans2{B c:Nat->Prop}{L L1 L2:List Blk}(h:aZ B L L1)(g:aZ c L1 L2)(d:∀i,i<L.length->c i->B i):aZ B L L2:=⟨apk h.len g.len,λi a b=>by rw[g.eq i (aqc a h.len) (λe=>b (d i a e)),h.eq i a b]⟩
theorem aZ.get{B:Nat->Prop}{L L':List Blk}(h:aZ B L L'){i:Nat}{b:Blk}(a:L[i]?=some b)(c:¬B i):L'[i]?=some b:=by rw[h.eq i (aoZ.1 a).1 c];exact a
theorem bY.node(h:bY L iv mn mi nb bn ck ci rs suf last l lk kd)(id:Int):
  (o4 l id=none/\dG (.int .i64 id) (l.map (gM nb bn)) 0=some none)\/∃x n,o4 l id=some x/\x∈l/\x.id=id/\dG (.int .i64 id) (l.map (gM nb bn)) 0=some (some (n,.ptr (nb id) 0))/\L[nb id]?=some (.cells (dI kd x))/\l.getD n default=x:=by
 rw[Ee];unfold o4;rcases fR (f:=λx:aC=>decide (x.id=id)) (l:=l)with⟨b,e⟩|⟨n,b,e,a⟩;exact .inl ⟨e,by rw[b];rfl⟩;right;have c:=aqT a;have d:(l.getD n default).id=id:=by have:=aqU a;simpa using this
 refine⟨_,n,a,c,d,by rw[b];simp,?_,rfl⟩;have:=h.nd _ c;rwa[d]at this
theorem bY.look(h:bY L iv mn mi nb bn ck ci rs suf last l lk kd)(i:TOk suf last lk){d:List Rdn}(o:OkD d):
  (bA lk d=0/\atE lk d=none/\dG (.str (bj true d)) (rs.map kyA) 0=some none)\/∃j,dG (.str (bj true d)) (rs.map kyA) 0=some (some (j,.int .i64 (bA lk d)))/\j<rs.length/\(rs.getD j default).1=bj true d:=by
 rw[Eg];rcases fR (f:=λr:TKy=>decide (r.1=bj true d)) (l:=rs)with⟨p,m⟩|⟨n,p,u,m⟩;left;have c:atE lk d=none:=tO.2 λ_ x a e=>by obtain⟨b,v⟩:=(h.mem (bj true x.nm) x.id).2 ⟨x,a,rfl,rfl⟩;have:=aqB.1 m _ v;simp only[decide_eq_true_eq]at this;exact this ((kw (i.ok x a) o).2 e)
 exact⟨i.find0.2 c,c,by rw[p];rfl⟩;right;refine⟨n,?_⟩;obtain⟨⟨k,id,b⟩,g⟩:∃r,rs.getD n default=r:=⟨_,rfl⟩;have s:=aqT m;have q:k=bj true d:=by have:=aqU m;rw[g]at this;simpa using this
 rw[g]at s;obtain⟨x,a,t,w⟩:=(h.mem k id).1 ⟨b,s⟩;have:atE lk d=some x:=i.at a o ((kw o (i.ok x a)).1 (by rw[<- q,t]));rw[p];refine⟨by simp only[apl,g,ap9,bA,this,w],u,by rw[g];exact q⟩
theorem alJ{d:List Rdn}{cap:Option Nat}(r:dnB d)(p:TOk suf last lk)(b:bY L iv mn mi nb bn ck ci rs suf last l lk kd){K:aoY}(h:K (.int .i64 (bA lk d)) L):
  aoX 24 [.ptr iv 0,.sl (d.map am) d.length cap] L K:=by
 replace h:=hid h;obtain⟨⟨s,e⟩,a⟩:∃q,Sa d=q:=⟨_,rfl⟩;have kk1:Hid (Ctr Tryz.prog 58 [.sl (d.map am) d.length cap] (.tup [.str s,.int .i64 e])):=@hid _ (by intro L K q;exact Sb r.1 r.2 (by rw[a];exact q));have w:=b.v;have x:=b.i;by_cases t:e=0;subst t;have f:OkD d:=by by_cases c:OkD d;exact c;exact absurd (by rw[a]) (Vv c)
 have g:s=bj true d:=by have:=iO f;rw[a]at this;injection this
 rcases b.look p f with⟨n,_,k⟩|⟨j,k,_⟩;rw[<- g]at k;rw[n]at h;have m:bS .str (.str s)=true:=rfl;clear a b g;refine aoW dE ?_;exact aa h.o;rw[<- g]at k;have m:bS .str (.str s)=true:=rfl;obtain⟨z,u⟩:=aoT (bA lk d);rw[u]at h k;clear a b g u;refine aoW dE ?_;exact aa h.o;have n:bA lk d=0:=by refine p.find0.2 (tO.2 λc=>?_);have:=iO c;rw[a]at this;exact absurd (by injection this) t
 rw[n]at h;clear a b;refine aoW dE ?_;exact aa h.o
theorem bY.kid(h:bY L iv mn mi nb bn ck ci rs suf last l lk kd){x:aC}(g:x∈l)(c:Int):bY (L.set (nb x.id) (.cells [dnA x.nm,.sl (aD (pth x)) x.nm.length none,atR x.av,.int .i64 (kd x.id+c)])) iv mn mi nb bn ck ci rs suf last l lk (λi=>if i=x.id then kd i+c else kd i):=by
 have a:=h.nd x g;have m:=(aoZ.1 a).1;have o:nb x.id≠iv:=λe=>by rw[e,h.v]at a;simp[dI]at a
 have k:nb x.id≠mn:=λe=>by rw[e,h.n]at a;simp at a
 have n3:nb x.id≠mi:=λe=>by rw[e,h.i]at a;simp at a
 refine⟨by rw[api o];exact h.v,by rw[api k];exact h.n,by rw[api n3];exact h.i,λy f=>?_,h.inj,h.keys,h.mem,h.bnd,h.blt⟩;by_cases e:nb x.id=nb y.id;have j:=h.inj x g y f e;have b:dI kd x=dI kd y:=by have d:=h.nd y f;rw[<- e,a]at d;injection d with d;injection d
 rw[<- e];simp only[m,aqL,ao1,Blk.cells.injEq];unfold dI at b⊢;simp only[List.cons.injEq]at b;dsimp only;rw[if_pos j.symm,b.1,b.2.1,b.2.2.1,j];rw[api e,h.nd y f];unfold dI;dsimp only;rw[if_neg (λp=>e (by rw[p]))]
theorem aiY{it:Nat}{d:List Rdn}{cap:Option Nat}{b:Int}(J:dnB d)(p:d≠[])(E:TOk suf last lk)(f:∀x∈lk,∃y∈l,y.id=x.id)(V:L[it]?=some (.cells [.ptr iv 0]))(w:bY L iv mn mi nb bn ck ci rs suf last l lk kd)(hb : -1<=b/\b<=1)(t:∀i,-10000000<=kd i/\kd i<=10000000){K:aoY}(N:bA lk d.tail=0->K (.tup []) L)(M:∀x∈l,x.id=bA lk d.tail->K (.tup []) (L.set (nb x.id) (.cells [dnA x.nm,.sl (aD (pth x)) x.nm.length none,atR x.av,.int .i64 (kd x.id+b)]))):
  aoX 80 [.ptr it 0,.sl (d.map am) d.length cap,.int .i64 b] L K:=by
 obtain⟨r,a,rfl⟩:∃r a,d=r::a:=by
  cases d with
  |nil=>exact absurd rfl p
  |cons r a=>exact⟨r,a,rfl⟩
 simp only[List.tail_cons]at N M;have u:dnB a:=⟨by have:=J.1;simp at this;omega,λr U=>J.2 r (by simp[U])⟩;obtain⟨z,m⟩:=aoT (bA lk a);have kk1:Hid (∀{c:Option Nat}{K:aoY},K (.int .i64 z) L->aoX 24 [.ptr iv 0,.sl (List.take a.length (a.map am)) a.length c] L K):=@hid _ (by intro c K q;rw[apA asp];exact alJ u E w (by rw[m];exact q))
 have e:(((r::a).length:Nat):Int)=(a.length:Int)+1:=asp;have g1:(1:Int)<=((r::a).length:Int):=by rw[e];omega
 have T:(r::a).length-1=a.length:=asp;have g3:List.drop 1 ((r::a).map am)=a.map am:=asp;have Z:=w.v;have hn:=w.n;by_cases B:z=0;subst B;replace h:=hid (N m);obtain⟨D,H⟩:=aoT ((r::a).map am);obtain⟨n,g⟩:=aoT ((r::a).length);rw[H]at g3⊢;rw[g]at g1 T⊢;clear N M m w t f E J u p e H g;refine aoW mR ?_;exact bm ⟨.inl rfl,True,[],rfl,trivial,aa h.o⟩;obtain⟨y,R⟩:∃y,atE lk a=some y:=by
  cases I:atE lk a with
  |none=>exact absurd (E.find0.2 I) (by rw[m];exact B)
  |some y=>exact⟨y,rfl⟩
 have G:y.id=z:=by rw[<- m];unfold bA;rw[R]
 obtain⟨_,s,_⟩:=cP R;have P:=(E.ids y s).1;obtain⟨X,F,C⟩:=f y s;rcases w.node z with⟨Q,_⟩|⟨x,j,Q,S,k,e2,O,_⟩;exact absurd (aqB.1 Q X F) (by simp[C,G]);have h:=M x S (by rw[k,m]);rw[k]at h;replace h:=hid h;unfold dI at O;rw[k]at O;obtain⟨q,I⟩:=aoT (kd z);have A:=t z;rw[I]at h O A;have Y:IntKind.i64.wrap (q+b)=q+b:=ae aso aso;have W:bS .int (.int .i64 z)=true:=rfl;have g4:(0:Int)<z:=aso;have g5:z>0:=g4;obtain⟨D,H⟩:=aoT ((r::a).map am);obtain⟨n,g⟩:=aoT ((r::a).length);rw[H]at g3⊢;rw[g]at g1 T⊢;clear N M m w t f E J u p e H g R G s P C F Q S k I A;refine aoW mR ?_;exact⟨.inl rfl,True,[],rfl,trivial,aa h.o⟩
end
set_option maxHeartbeats 8000000
set_option maxRecDepth 100000
theorem af0{suf:List Rdn}{last:Int}{l:List aC}(D:TOk suf last l)(hn:l.length<=1000000){b:AV}{L:List Blk}(hL:L[rt]?=some (.cells [dnA suf,.sl (bD l) l.length c,b])){v:AV}(A:dnM dn)(a1:dnM tn){K:aoY}(h:K (.int .i64 (fY suf l k dn tn)) L):
  aoX 81 [.ptr rt 0,.agg [.int .i64 k,dnA dn,dnA tn,v]] L K:=by
 have bb:=D.sok.m;have a9:=(aoZ.1 hL).1;have ar:∀X:List Blk,(L++X)[rt]?=some (.cells [dnA suf,.sl (bD l) l.length c,b]):=λX=>by rw[ao4 a9];exact hL
 have a4:=Ek l;obtain⟨⟨ps,pe⟩,g⟩:∃q,prS dn=q:=⟨_,rfl⟩;have kk1:Hid (Ctr Tryz.prog 37 [dnA dn] (.tup [.str ps,.int .i64 pe])):=@hid _ (by intro L K q;exact rM A.1 A.2 (by rw[g];exact q));have kk2:Hid (Ctr Tryz.prog 129 [dnA dn,dnA suf] (.bool (kD dn suf))):=@hid _ (by intro L K q;exact agV A bb q);have p:OkD dn↔pe=0:=by unfold OkD;rw[g]
 have kk3:Hid (∀{X:List Blk}{K:aoY},K (.int .i64 (atI l dn)) (L++X)->aoX 82 [.ptr rt 0,dnA dn] (L++X) K):=@hid _ (by intro X K q;exact ac7 D.ok A aso (ar X) q)
 unfold fY at h;by_cases t:k<1\/4<k;rw[if_pos t]at h;replace h:=hid h;clear g p;by_cases d1:k<1;refine aoW az ?_;exact ac rfl h.o;have d2:4<k:=aso;have d3:k>4:=d2;refine aoW az ?_;exact ac rfl h.o;rw[if_neg t]at h;have d1:¬k<1:=aso;have d2:¬4<k:=aso;have d3:¬k>4:=d2;by_cases k1:k=1
 .subst k1;rw[if_pos rfl]at h;by_cases J:pe=0;rotate_left;rw[if_pos (λc=>J (p.1 c))]at h;replace h:=hid h;clear g p t;refine aoW az ?_;exact ac rfl h.o;have Y:=p.2 J;subst J;rw[if_neg (λc=>c Y)]at h;rcases Fp l dn with⟨q1,q2⟩|⟨n,C,q1,q2⟩
  rotate_left
  rw[if_pos (by rw[q2];simp)]at h;rw[q1]at kk3;have g0:(0:Int)<=(n:Int):=aso;have g1:(n:Int)≥0:=g0;replace h:=hid h;clear g p t;refine aoW az ?_;exact ac rfl h.o;rw[if_neg (λc=>c q2)]at h;rw[q1]at kk3;have b2:=Y.len;obtain⟨sm,a6⟩:=aoT (kD dn suf);rw[a6]at h kk2;have a:∀{h4:K (.int .i64 (if 4096<=l.length then 80 else 0)) L},(4096<=l.length/\K (.int .i64 80) L)\/(¬4096<=l.length/\K (.int .i64 0) L):=λ{h4}=>by by_cases c:4096<=l.length;rw[if_pos c]at h4;exact .inl ⟨c,h4⟩;rw[if_neg c]at h4;exact .inr ⟨c,h4⟩
  cases sm with
  | true =>
    rw[if_neg (λc=>by cases c.1)]at h;rcases a (h4:=h)with⟨c,h⟩|⟨c,h⟩
    .have c':(4096:Int)<=(l.length:Int):=aso;have a2:(l.length:Int)≥4096:=c';replace h:=hid h;clear a g p t;refine aoW az ?_;exact ac rfl h.o
    .have c':¬(4096:Int)<=(l.length:Int):=aso;have a2:¬(l.length:Int)≥4096:=c';replace h:=hid h;clear a g p t;refine aoW az ?_;exact ac rfl h.o
  | false =>
    by_cases c3:dn=[]
    .rw[if_pos ⟨rfl,.inl c3⟩]at h;subst c3;replace h:=hid h;clear a g p t;refine aoW az ?_;exact ac rfl h.o
    have a_:¬(dn.length:Int)=0:=λc=>c3 (apK.1 aso)
    have bi:(1:Int)<=(dn.length:Int):=aso;have N:dn.tail.length=dn.length-1:=aqK;have d:List.take (dn.length-1) (List.drop 1 (dn.map am))=dn.tail.map am:=(by rw[arH,List.map_tail,apA asp]);have kk4:Hid (∀{c:Option Nat}{X:List Blk}{K:aoY},K (.int .i64 (atI l dn.tail)) (L++X)->aoX 82 [.ptr rt 0,.sl (List.take (dn.length-1) (List.drop 1 (dn.map am))) (dn.length-1) c] (L++X) K):=@hid _ (by intro c X K q;rw[d,<- N];exact ac7 D.ok Y.tail.m aso (ar X) q)
    rcases Fp l dn.tail with⟨r1,r2⟩|⟨n,C,r1,r2⟩
    .rw[if_pos ⟨rfl,.inr r2⟩]at h;rw[r1]at kk4;replace h:=hid h;clear a g p t d;refine aoW az ?_;exact ac rfl h.o
    rw[if_neg (λc=>c.2.elim c3 λc=>by rw[r2]at c;cases c)]at h;rw[r1]at kk4;have g0:¬(n:Int)<0:=aso;rcases a (h4:=h)with⟨c,h⟩|⟨c,h⟩
    .have c':(4096:Int)<=(l.length:Int):=aso;have a2:(l.length:Int)≥4096:=c';replace h:=hid h;clear a g p t d;refine aoW az ?_;exact ac rfl h.o
    .have c':¬(4096:Int)<=(l.length:Int):=aso;have a2:¬(l.length:Int)≥4096:=c';replace h:=hid h;clear a g p t d;refine aoW az ?_;exact ac rfl h.o
 rw[if_neg k1]at h;have M:k=2\/k=3\/k=4:=aso;rcases Fp l dn with⟨q1,hx⟩|⟨n,C,q1,hx⟩;rw[hx]at h;rw[q1]at kk3;simp only at h;replace h:=hid h;clear g p t;refine aoW az ?_;exact ac rfl h.o;obtain⟨x,P⟩:=aoT (l.getD n default);rw[P]at hx;rw[hx]at h;rw[q1]at kk3;simp only at h;obtain⟨Y,a8,bx⟩:=cP hx;have g0:¬(n:Int)<0:=aso;have g1:(0:Int)<=(n:Int):=aso;have g2:(n:Int)<(l.length:Int):=aso;obtain⟨e5,_,_⟩:=El C;rw[P]at e5;have e4:n*3<(bD l).length:=by rw[a4];omega
 have kk4:Hid (∀{X:List Blk}{K:aoY},K (.int .i64 (bE (d7 l) (NK x.nm):Nat)) (L++X)->aoX 130 [.ptr rt 0,.int .i64 x.id] (L++X) K):=@hid _ (by intro X K q;refine alb D aso (ar X) ?_;rw[D.kidsE a8];exact q)
 obtain⟨kn,I⟩:=aoT (bE (d7 l) (NK x.nm));rw[I]at kk4 h;by_cases k2:k=2
 .subst k2;rw[if_pos rfl]at h;by_cases ck:kn=0
  .rw[if_neg (λe=>e ck)]at h;subst ck;replace h:=hid h;clear g p t M I;refine aoW az ?_
   all_goals exact ac rfl h.o
  rw[if_pos ck]at h;have J:(0:Int)<(kn:Int):=aso;have c2:(kn:Int)>0:=J;replace h:=hid h;clear g p t M I;refine aoW az ?_;exact ac rfl h.o
 rw[if_neg k2]at h;by_cases k3:k=3;subst k3;rw[if_pos rfl]at h;replace h:=hid h;clear g p t M I;refine aoW az ?_;exact ac rfl h.o;rw[if_neg k3]at h;have k4:k=4:=aso;subst k4;clear M t k1 k2 k3 kk4 I;unfold abZ at h;obtain⟨⟨ts,te⟩,s⟩:∃q,prS tn=q:=⟨_,rfl⟩;have kk1:Hid (Ctr Tryz.prog 37 [dnA tn] (.tup [.str ts,.int .i64 te])):=@hid _ (by intro L K q;exact rM a1.1 a1.2 (by rw[s];exact q));have Q:OkD tn↔te=0:=by unfold OkD;rw[s]
 by_cases J:kD dn suf=true;rw[if_pos J]at h;rw[J]at kk2;replace h:=hid h;clear g p s Q;refine aoW az ?_;exact ac rfl h.o;rw[if_neg J]at h;rw[ar7.2 J]at kk2;by_cases c2:te=0;rotate_left;rw[if_pos (.inl λc=>c2 (Q.1 c))]at h;replace h:=hid h;clear g p s Q;refine aoW az ?_;exact ac rfl h.o;have O:=Q.2 c2;have bl:=O.len;subst c2;by_cases c3:tn=[];rw[if_pos (.inr c3)]at h;replace h:=hid h;subst c3;clear g p s Q;refine aoW az ?_;exact ac rfl h.o;rw[if_neg (λc=>c.elim (λc=>c O) c3)]at h;have a_:¬(tn.length:Int)=0:=λc=>c3 (apK.1 aso)
 have bi:(1:Int)<=(tn.length:Int):=aso;have N:tn.tail.length=tn.length-1:=aqK;have d:List.take (tn.length-1) (List.drop 1 (tn.map am))=tn.tail.map am:=by rw[arH,List.map_tail,apA asp]
 have a5:=O.tail;have kk4:Hid (∀{c:Option Nat}{L:List Blk}{K:aoY},K (.bool (cA tn.tail dn)) L->aoX 38 [.sl (List.take (tn.length-1) (List.drop 1 (tn.map am))) (tn.length-1) c,dnA dn] L K):=@hid _ (by intro c L K q;rw[d,<- N];exact JS a5.m A q)
 have kk5:Hid (∀{c:Option Nat}{X:List Blk}{K:aoY},K (.int .i64 (atI l tn.tail)) (L++X)->aoX 82 [.ptr rt 0,.sl (List.take (tn.length-1) (List.drop 1 (tn.map am))) (tn.length-1) c] (L++X) K):=@hid _ (by intro c X K q;rw[d,<- N];exact ac7 D.ok a5.m aso (ar X) q)
 by_cases c4:cA tn.tail dn=true;rw[if_pos c4]at h;rw[c4]at kk4;replace h:=hid h;clear g p s Q d kk5;refine aoW az ?_;exact ac rfl h.o;rw[if_neg c4]at h;rw[ar7.2 c4]at kk4;rcases Fp l tn.tail with⟨r1,r2⟩|⟨n2,bn,r1,r2⟩;rw[if_pos r2]at h;rw[r1]at kk5;replace h:=hid h;clear g p s Q d;refine aoW az ?_;exact ac rfl h.o;rw[if_neg (by rw[r2];simp)]at h;rw[r1]at kk5;have g3:¬(n2:Int)<0:=aso;have kk6:Hid (∀{X:List Blk}{K:aoY},K (.int .i64 (atI l tn)) (L++X)->aoX 82 [.ptr rt 0,dnA tn] (L++X) K):=@hid _ (by intro X K q;exact ac7 D.ok O.m aso (ar X) q)
 have H:aeN l x.id tn=(decide (0<=atI l tn)&&decide (atI l tn≠(n:Int))):=by unfold aeN;rcases Fp l tn with⟨s1,s2⟩|⟨n3,z,s1,s2⟩;rw[s1,s2];rfl;rw[s1,s2];simp only;rw[decide_eq_true (by omega:(0:Int)<=(n3:Int)),apy];congr 1;apply propext;have bk:l.getD n3 default∈l:=(by simp[z]);constructor;intro e e2;have:n3=n:=aso;subst this;exact e (by rw[P]);intro e e2;have:=D.byI bk a8 e2;rw[<- P]at this;have a3:=D.nodup;rw[apo,apo,ao8 z,ao8 C]at this;simp only[apT]at this;rcases arj n3 n with q|q|q;exact aqb.1 a3 n3 n z C q this;exact e aso;exact aqb.1 a3 n n3 C z q this.symm
 rw[H]at h;obtain⟨w,hw⟩:=aoT (atI l tn);rw[hw]at kk6 h;by_cases c6:0<=w/\w≠(n:Int);obtain⟨c6,c7⟩:=c6;have bt:w≥0:=c6;rw[if_pos (by rw[decide_eq_true c6,decide_eq_true c7];rfl)]at h;replace h:=hid h;clear g p s Q d H hw;refine aoW az ?_;exact ac rfl h.o;rw[if_neg (by intro c;rw[ao3,decide_eq_true_eq,decide_eq_true_eq]at c;exact c6 c)]at h
 have c9:(¬0<=w/\¬w≥0)\/(0<=w/\w≥0/\w=(n:Int)):=aso;have kU:Hid (∀y∈l,∀{L:List Blk}{K:aoY},K (.bool (cA y.nm dn)) L->aoX 38 [dnA y.nm,dnA dn] L K):=@hid _ (by intro y hy L K q;exact JS (D.ok y hy).m A q);replace h:=hid h;replace D:=hid D;clear g p s Q d H hw c6;rcases c9 with⟨c9,a'⟩|⟨c9,a',rfl⟩
 all_goals
  refine aoW az ?_;clear kk1 kk2 kk3 kk4 kk5 kk6;refine ak (λm T' L'=>∃j:Nat,m=l.length-j/\j<=l.length/\Hid (∀i,i<j->(cA (l.getD i default).nm dn && !decide (OkD (iB (l.getD i default).nm dn.length tn)))=false)/\Hid (∃Z,L'=L++(.cells [.int .i64 4,dnA dn,dnA tn,v]::Z))/\T'=[(139,.int .i64 (j:Int)),(138,.int .i64 l.length),(137,.sl (bD l) l.length c),(3,.ptr L.length 0),(0,.ptr rt 0)]) ass ⟨0,rfl,ao2 _,hid (λi hi=>absurd hi (arc _)),hid ⟨[],rfl⟩,rfl⟩ ?_;rintro _ _ L1 ⟨j,rfl,hj,hI,hZ,rfl⟩;have b0:∀X:List Blk,(L1++X)[L.length]?=some (.cells [.int .i64 4,dnA dn,dnA tn,v]):=λX=>by obtain⟨Z,rfl⟩:=hZ.o;rw[apc,ape (ao0 _)];simp
  have b3:∀(b:Blk) (X:List Blk),(L1++b::X)[L1.length]?=some b:=λb X=>by rw[ape (ao0 _)];simp
  have bo:L.length+1<=L1.length:=(by obtain⟨Z,rfl⟩:=hZ.o;simp);have V:∀X,Hid (∃Z,L1++X=L++(.cells [.int .i64 4,dnA dn,dnA tn,v]::Z)):=λX=>by obtain⟨Z,rfl⟩:=hZ.o;exact hid ⟨Z++X,asp⟩
  by_cases W:j<l.length
  .have j1:(j:Int)<(l.length:Int):=aso;have j2:=aoV j aso;have e6:=En W;have e7:j*3+3<=(bD l).length:=(by rw[a4];omega);have U:l.getD j default∈l:=(by simp[W]);obtain⟨y,hy⟩:=aoT (l.getD j default);rw[hy]at e6 U;unfold VL atR at e6;have G:=D.o.ok y U;have kk1:=@hid _ (λ{L:List Blk}{K:aoY}=>kU.o y U (L:=L) (K:=K));obtain⟨u,hu⟩:=aoT (cA y.nm dn);rw[hu]at kk1;have f:(u && !decide (OkD (iB y.nm dn.length tn)))=false->Hid (∀i,i<j+1->(cA (l.getD i default).nm dn && !decide (OkD (iB (l.getD i default).nm dn.length tn)))=false):=λhb=>hid λi hi=>by by_cases e:i=j;subst e;rw[hy,hu];exact hb;exact hI.o i aso
   obtain⟨yi,al⟩:=aoT (y.id);obtain⟨ya,ai⟩:=aoT (aJ y.av);obtain⟨yk,ad⟩:=aoT (y.av.length);rw[al,ai,ad]at e6;cases u with
   | false =>
     have ap:=f rfl;clear f hI hZ al ai ad G hy kU;refine wk ?_;exact ast aso (CutL (b:=by simp;omega)) ⟨j+1,rfl,W,ap,V _,rfl⟩
   | true =>
     have E:dn.length<=y.nm.length:=by have:=(cC.1 hu).2.2.length_le;rwa[bC,bC]at this
     have bs:=G.len;obtain⟨Z,B⟩:=aoT (iB y.nm dn.length tn);have R:dnM Z:=by rw[<- B];unfold iB;refine⟨by simp;omega,λr hr=>?_⟩;rcases ao5.1 hr with hr|hr;exact G.m.2 r (arL hr);exact a1.2 r hr
     have kk2:Hid (Ctr Tryz.prog 83 [dnA y.nm,.int .i64 (dn.length:Int),dnA tn] (dnA Z)):=@hid _ (by intro L K q;exact abY aso aso E (by rw[B];exact q))
     obtain⟨⟨zs,ze⟩,T⟩:∃u,prS Z=u:=⟨_,rfl⟩;have kk3:Hid (Ctr Tryz.prog 37 [dnA Z] (.tup [.str zs,.int .i64 ze])):=@hid _ (by intro L K u;exact rM R.1 R.2 (by rw[T];exact u));have pz:OkD Z↔ze=0:=(by unfold OkD;rw[T]);by_cases a0:ze=0;have ap:=f (by rw[B,decide_eq_true (pz.2 a0)];rfl);subst a0;clear f hI hZ al ai ad G hy kU B R T pz E;refine wk ?_;exact ast aso (CutL (b:=by simp;omega)) ⟨j+1,rfl,W,ap,V _,rfl⟩;have an:aft l dn tn=true:=aqz.2 ⟨y,U,by rw[hu,B,decide_eq_false (λc=>a0 (pz.1 c))];rfl⟩;have S:=h.o;rw[if_pos an]at S;replace S:=hid S;have b1:=V;clear f hI al ai ad G hy kU B R T pz E an V;refine wk ?_;obtain⟨Z2,rfl⟩:=hZ.o;rw[apc];exact ac rfl S.o
  .have hje:j=l.length:=aso;subst hje;have j1:¬(l.length:Int)<(l.length:Int):=aso;have F:¬aft l dn tn=true:=λcc=>by obtain⟨y,hy,hb⟩:=aqz.1 cc;obtain⟨i,hi,rfl⟩:=apV.1 hy;have:=hI.o i hi;rw[show l.getD i default=l[i]by simp[hi]]at this;rw[this]at hb;cases hb
   have S:=h.o;rw[if_neg F]at S;replace S:=hid S;clear hI F kU;refine wk ?_;obtain⟨Z2,rfl⟩:=hZ.o;exact ac rfl S.o
theorem N3{L0 L:List Blk}{r:AV}{Q:AV->List Blk->Prop}(i:Nat){c:List AV}(g:L[i]?=some (.cells c))(h:Fin L0 r (L.set i (.cells (AV.frzL c))) Q):Fin L0 r L Q:=λw0 S0 E0 E w v e b a f d=>h w0 S0 E0 E w v e b a (f.frzB g) d
def doE(k:Int)(xid:Int)(dn tn:List Rdn)(v:List Atr)(y:aC):List aC :=
 let y':=if k=4/\cA y.nm dn=true then{y with nm:=iB y.nm dn.length tn}else y
 let y2:=if y.id=xid/\(k=3\/k=4)then{y' with av:=v}else y'
 if y.id=xid/\k=2 then[]else[y2]
theorem aoa(l:List aC)(a:Int)(dn tn:List Rdn)(v:List Atr):l.flatMap (doE 1 a dn tn v)=l:=by
 induction l with
 |nil=>rfl
 |cons y l ih=>rw[apD,ih];simp[doE]
theorem an9(l:List aC)(a:Int)(dn tn:List Rdn)(v:List Atr):l.flatMap (doE 2 a dn tn v)=VM l a:=by
 unfold VM;induction l with
 |nil=>rfl
 | cons y l ih =>
   rw[apD,ih];by_cases c:y.id=a<;>simp[doE,c]
theorem an8(l:List aC)(a:Int)(dn tn:List Rdn)(v:List Atr):l.flatMap (doE 3 a dn tn v)=rJ l a v:=by
 unfold rJ;induction l with
 |nil=>rfl
 | cons y l ih =>
   rw[apD,ih];by_cases c:y.id=a<;>simp[doE,c]
theorem an7(l:List aC)(a:Int)(dn tn:List Rdn)(v:List Atr):l.flatMap (doE 4 a dn tn v)=rJ (mX l dn tn) a v:=by
 unfold rJ mX;induction l with
 |nil=>rfl
 | cons y l ih =>
   rw[apD,ih];by_cases c:y.id=a<;>by_cases u:cA y.nm dn=true<;>simp[doE,c,u]
theorem Yx(l:List aC)(k a:Int)(dn tn:List Rdn)(v:List Atr):(l.flatMap (doE k a dn tn v)).length<=l.length:=by
 induction l with
 |nil=>simp
 | cons y l ih =>
   rw[apD,apd];have:(doE k a dn tn v y).length<=1:=(by unfold doE;dsimp only;split<;>simp);simp only[apb];omega
theorem amO{suf:List Rdn}{last:Int}{l:List aC}(ht:TOk suf last l)(hn:l.length<=900000)(cb:0<=last)(ca:last<=1000000){L:List Blk}(hL:L[rt]?=some (.cells [dnA suf,.sl (bD l) l.length c,.int .i64 last])){v:List Atr}(a3:dnM dn)(a_:dnM tn)(bo:v.length<=1100000)(bt:∀a∈v,a.2.length<=1100000)(T:fY suf l k dn tn=0){K:aoY}(h:∀L' c',L'[rt]?=some (.cells [dnA suf,.sl (bD (doT suf l last k dn tn v).1) (doT suf l last k dn tn v).1.length c',.int .i64 (doT suf l last k dn tn v).2])->aZ (λi=>i=rt) L L'->K (.int .i64 0) L'):
  aoX 35 [.ptr rt 0,.agg [.int .i64 k,dnA dn,dnA tn,atR v]] L K:=by
 have a2:=(aoZ.1 hL).1;have ar:∀X:List Blk,(L++X)[rt]?=some (.cells [dnA suf,.sl (bD l) l.length c,.int .i64 last]):=λX=>by rw[ao4 a2];exact hL
 have sr:∀(X:List Blk) b,(L++X).set rt b=L.set rt b++X:=λX b=>ap3 _ _ a2
 have an:∀(X:List Blk) b,(L.set rt b++X)[rt]?=some b:=λX b=>by rw[ao4 (by simpa using a2)];simp[a2]
 have a4:∀(X:List Blk) b N,(L.set rt b++X).set rt N=L.set rt N++X:=λX b N=>by rw[ap3 _ _ (by simpa using a2),arK]
 have b5:∀(X:List Blk) (b N:Blk),(L.set rt b++N::X)[L.length]?=some N:=λX b N=>by rw[ape asp];simp
 have a6:=Ek l;have kk1:Hid (∀{X:List Blk}{K:aoY},K (.int .i64 0) (L++X)->aoX 81 [.ptr rt 0,.agg [.int .i64 k,dnA dn,dnA tn,.sl (aJ v) v.length none]] (L++X) K):=@hid _ (by intro X K q;exact af0 ht aso (ar X) a3 a_ (by rw[T];exact q))
 have kk2:Hid (∀{X:List Blk}{K:aoY},K (.int .i64 (atI l dn)) (L++X)->aoX 82 [.ptr rt 0,dnA dn] (L++X) K):=@hid _ (by intro X K q;exact ac7 ht.ok a3 aso (ar X) q)
 have kk3:Hid (Ctr Tryz.prog 16 [.sl (aJ v) v.length none] (.sl (aJ v) v.length none)):=@hid _ (by intro L K q;exact ak4 bo bt q);have fv:=fi v;have b6:AV.frzL (dn.map am)=dn.map am:=bB _;unfold atR;unfold doT at h;rw[if_neg (λe=>e T)]at h;have al:=T;unfold fY at T;have ad:¬(k<1\/4<k):=λe=>by rw[if_pos e]at T;exact absurd T (by decide)
 rw[if_neg ad]at T;have kU:Hid (∀y∈l,∀{L:List Blk}{K:aoY},K (.bool (cA y.nm dn)) L->aoX 38 [dnA y.nm,dnA dn] L K):=@hid _ (by intro y hy L K q;exact JS (ht.ok y hy).m a3 q);have cc:=hid hL;have R:=hid ht.ok;have J:=hid ht.nodup;by_cases k1:k=1
 .subst k1;rw[if_pos rfl]at T h;have b4:atI l dn=-1:=by rcases Fp l dn with⟨q1,q2⟩|⟨n,Q,q1,q2⟩;exact q1;exfalso;by_cases o:OkD dn;rw[if_neg (λe=>e o),if_pos (by rw[q2];simp)]at T;exact absurd T (by decide);rw[if_pos o]at T;exact absurd T (by decide)
  rw[b4]at kk2;replace h:=hid h;clear T al hL ad;refine aoW fg ?_;refine bR (l:=[]) (n:=0) 7 3 rfl (aps 3).symm ?_;simp only[apd,apb,apJ,ap9,apc,apH,apx];refine ak (λm T' L'=>∃(j D:Nat) (C:List AV) (X:List Blk),m=l.length-j/\j<=l.length/\Hid (C=bD ((l.take j).flatMap (doE 1 0 dn tn v)))/\Hid (D=((l.take j).flatMap (doE 1 0 dn tn v)).length)/\T'=[(25,.int .i64 (j:Int)),(24,.int .i64 l.length),(23,.sl (bD l) l.length c),(7,.gsl C D (L.length+1) 3),(6,.int .i64 (-1)),(3,.ptr L.length 0),(0,.ptr rt 0)]/\L'=L++(.cells [.int .i64 1,dnA dn,dnA tn,.sl (aJ v) v.length none] :: .spare D 3::X)) ass ⟨0,0,[],[],rfl,ao2 _,hid rfl,hid rfl,rfl,asp⟩ ?_;rintro _ _ _ ⟨j,D,C,X,rfl,hj,V,d,rfl,rfl⟩;have a9:∀(a s b:Blk) (Y:List Blk),(L++a::s::(X++b::Y))[L.length+(X.length+1+1)]?=some b:=λa s b Y=>by rw[ape aso,show L.length+(X.length+1+1)-L.length=X.length+1+1 by omega,ap1,ap1,ape (ao0 _)];simp
  have bb:∀(a s b N:Blk) (Y:List Blk),(L++a::s::(X++b::Y)).set (L.length+(X.length+1+1)) N=L++a::s::(X++N::Y):=λa s b N Y=>by rw[apu _ _ aso,show L.length+(X.length+1+1)-L.length=X.length+1+1 by omega,aqr,aqr,apu _ _ (ao0 _)];simp
  have bi:D<=l.length:=by rw[d.o];exact apk (Yx _ _ _ _ _ _) (by simp;omega)
  by_cases p:j<l.length
  .have j1:(j:Int)<(l.length:Int):=aso;have j2:=aoV j aso;have e6:=En p;have e7:j*3+3<=(bD l).length:=(by rw[a6];omega);have E:l.getD j default∈l:=(by simp[p]);have P:(j:Int)≠-1:=aso;have F:l.take (j+1)=l.take j++[l.getD j default]:=(by rw[aph p];simp[p]);obtain⟨y,hy⟩:=aoT (l.getD j default);rw[hy]at e6 E F
   try rw[hy]at P
   unfold VL atR at e6;have M:=R.o y E;have kk4:=@hid _ (λ{L:List Blk}{K:aoY}=>kU.o y E (L:=L) (K:=K));obtain⟨u,hu⟩:=aoT (cA y.nm dn);rw[hu]at kk4;have f:∀{r:List aC},doE 1 0 dn tn v y=r->Hid (C++bD r=bD ((l.take (j+1)).flatMap (doE 1 0 dn tn v)))/\Hid (D+r.length=((l.take (j+1)).flatMap (doE 1 0 dn tn v)).length):=λ{r} e=>by rw[F,arr,apD,ar8,apG,e,Eo,apd,<- V.o,<- d.o];exact⟨hid rfl,hid rfl⟩
   have W:AV.frzL (y.nm.map am)=y.nm.map am:=bB _;have U:=fi y.av;obtain⟨yi,z⟩:=aoT (y.id);obtain⟨ya,t⟩:=aoT (aJ y.av);obtain⟨yk,A⟩:=aoT (y.av.length);obtain⟨yn,g⟩:=aoT (y.nm);rw[z,t,A,g]at e6;rw[t]at U;rw[g]at W kk4;have w:=f (r:=[y]) (by simp[doE]);have s3:bD [y]=[.int .i64 yi,dnA yn,.sl ya yk none]:=(by rw[<- z,<- t,<- A,<- g];rfl);have G:=w.1;have I:=w.2;rw[s3]at G;have G:=hid G.o;have I:=hid I.o;clear w s3 f V d hy E F M hu kU z t A g R J;refine wk ?_;exact ast aso asr ⟨j+1,_,_,_,rfl,p,G,I,rfl,rfl⟩
  have a1:j=l.length:=aso;subst a1;have j1:¬(l.length:Int)<(l.length:Int):=aso;rw[apg]at V d;have fs:AV.frzL (suf.map am)=suf.map am:=bB _;have j3:IntKind.i64.wrap (last+1)=last+1:=ae aso aso;have bk:=a3.b;have kk7:Hid (Ctr Tryz.prog 40 [dnA dn] (dnA dn)):=@hid _ (by intro L K q;exact afO bk.1 bk.2 q);clear J R kU kk1 kk2 ht;have ce:∀(X:List Blk) (b N b2:Blk),(L.set rt b++N::b2::X)[L.length+1]?=some b2:=λX b N b2=>by rw[ape asp];simp
  have cd:∀(X:List Blk) (b N b2 b3:Blk),(L.set rt b++N::b2::X).set (L.length+1) b3=L.set rt b++N::b3::X:=λX b N b2 b3=>by rw[apu _ _ asp];simp
  refine wk ?_;refine N3 rt (an _ _) ?_;rw[a4];refine aa ?_;have e1:=V.o;have S:=d.o;rw[aoa]at e1 S;refine h.o _ none ?_ ((aZ.set (B:=λi=>i=rt) L rfl _).trans (aZ.app _ _));rw[an];have e3:bD (tP l last dn v)=bD l++[.int .i64 (last+1),.sl (dn.map am) dn.length none,.sl (aJ v) v.length none]:=(by unfold tP;rw[Eo];rfl);have e4:AV.frzL (C++[.int .i64 (last+1),.sl (dn.map am) dn.length none,.sl (aJ v) v.length none])=bD (tP l last dn v):=by rw[e1,<- e3,Em]
  have e5:(tP l last dn v).length=D+1:=(by rw[S];simp[tP]);simp only[AV.frzL,AV.frz,dnA,fs,e4,e5]
 rw[if_neg k1]at T h;rcases Fp l dn with⟨q1,hx⟩|⟨n,Q,q1,hx⟩;rw[hx]at T;simp at T;obtain⟨x,a5⟩:=aoT (l.getD n default);rw[a5]at hx;obtain⟨a',bn,b1⟩:=cP hx;have bx:bA l dn=x.id:=by unfold bA;rw[hx]
 rw[bx]at h;rw[q1]at kk2;have bs:cA x.nm dn=true:=cC.2 ⟨ht.ok x bn,a',by rw[b1];exact aq9 _⟩;rw[hx]at T;dsimp only at T;by_cases k2:k=2
 .subst k2;rw[if_pos rfl]at h;replace h:=hid h;clear T al hL ad;refine aoW fg ?_;refine bR (l:=[]) (n:=0) 7 3 rfl (aps 3).symm ?_;simp only[apd,apb,apJ,ap9,apc,apH,apx];refine ak (λm T' L'=>∃(j D:Nat) (C:List AV) (X:List Blk),m=l.length-j/\j<=l.length/\Hid (C=bD ((l.take j).flatMap (doE 2 x.id dn tn v)))/\Hid (D=((l.take j).flatMap (doE 2 x.id dn tn v)).length)/\T'=[(25,.int .i64 (j:Int)),(24,.int .i64 l.length),(23,.sl (bD l) l.length c),(7,.gsl C D (L.length+1) 3),(6,.int .i64 (n:Int)),(3,.ptr L.length 0),(0,.ptr rt 0)]/\L'=L++(.cells [.int .i64 2,dnA dn,dnA tn,.sl (aJ v) v.length none] :: .spare D 3::X)) ass ⟨0,0,[],[],rfl,ao2 _,hid rfl,hid rfl,rfl,asp⟩ ?_;rintro _ _ _ ⟨j,D,C,X,rfl,hj,V,d,rfl,rfl⟩;have a9:∀(a s b:Blk) (Y:List Blk),(L++a::s::(X++b::Y))[L.length+(X.length+1+1)]?=some b:=λa s b Y=>by rw[ape aso,show L.length+(X.length+1+1)-L.length=X.length+1+1 by omega,ap1,ap1,ape (ao0 _)];simp
  have bb:∀(a s b N:Blk) (Y:List Blk),(L++a::s::(X++b::Y)).set (L.length+(X.length+1+1)) N=L++a::s::(X++N::Y):=λa s b N Y=>by rw[apu _ _ aso,show L.length+(X.length+1+1)-L.length=X.length+1+1 by omega,aqr,aqr,apu _ _ (ao0 _)];simp
  have bi:D<=l.length:=by rw[d.o];exact apk (Yx _ _ _ _ _ _) (by simp;omega)
  by_cases p:j<l.length
  .have j1:(j:Int)<(l.length:Int):=aso;have j2:=aoV j aso;have e6:=En p;have e7:j*3+3<=(bD l).length:=(by rw[a6];omega);have E:l.getD j default∈l:=(by simp[p]);have P:j=n↔(l.getD j default).id=x.id:=by rw[<- a5];constructor;intro e;rw[e];intro e;have S:=ht.byI E (by simp[Q]:l.getD n default∈l) e;rw[apo,apo,ao8 p,ao8 Q]at S;simp only[apT]at S;rcases arj j n with q|q|q;exact absurd S (aqb.1 J.o j n p Q q);exact q;exact absurd S.symm (aqb.1 J.o n j Q p q)
   have F:l.take (j+1)=l.take j++[l.getD j default]:=(by rw[aph p];simp[p]);obtain⟨y,hy⟩:=aoT (l.getD j default);rw[hy]at e6 E F
   try rw[hy]at P
   unfold VL atR at e6;have M:=R.o y E;have kk4:=@hid _ (λ{L:List Blk}{K:aoY}=>kU.o y E (L:=L) (K:=K));obtain⟨u,hu⟩:=aoT (cA y.nm dn);rw[hu]at kk4;have f:∀{r:List aC},doE 2 x.id dn tn v y=r->Hid (C++bD r=bD ((l.take (j+1)).flatMap (doE 2 x.id dn tn v)))/\Hid (D+r.length=((l.take (j+1)).flatMap (doE 2 x.id dn tn v)).length):=λ{r} e=>by rw[F,arr,apD,ar8,apG,e,Eo,apd,<- V.o,<- d.o];exact⟨hid rfl,hid rfl⟩
   have W:AV.frzL (y.nm.map am)=y.nm.map am:=bB _;have U:=fi y.av;by_cases H:j=n;have O:=P.1 H;subst H;have w:=f (r:=[]) (by simp[doE,O]);have G:=w.1.o;have I:=w.2.o;rw[show bD ([]:List aC)=[]from rfl,apG]at G;rw[apJ,aqe]at I;replace G:=hid G;replace I:=hid I;obtain⟨yi,z⟩:=aoT (y.id);obtain⟨ya,t⟩:=aoT (aJ y.av);obtain⟨yk,A⟩:=aoT (y.av.length);obtain⟨yn,g⟩:=aoT (y.nm);rw[z,t,A,g]at e6;rw[t]at U;rw[g]at W kk4;clear w f V d hy E F M hu kU z t A g R J P O;refine wk ?_;exact ast aso asr ⟨j+1,_,_,_,rfl,p,G,I,rfl,rfl⟩;have O:¬y.id=x.id:=λe=>H (P.2 e)
   have a8:¬(j:Int)=(n:Int):=aso;obtain⟨yi,z⟩:=aoT (y.id);obtain⟨ya,t⟩:=aoT (aJ y.av);obtain⟨yk,A⟩:=aoT (y.av.length);obtain⟨yn,g⟩:=aoT (y.nm);rw[z,t,A,g]at e6;rw[t]at U;rw[g]at W kk4;have w:=f (r:=[y]) (by simp[doE,O]);have s3:bD [y]=[.int .i64 yi,dnA yn,.sl ya yk none]:=(by rw[<- z,<- t,<- A,<- g];rfl);have G:=w.1;have I:=w.2;rw[s3]at G;have G:=hid G.o;have I:=hid I.o;clear w s3 f V d hy E F M hu kU z t A g R J;refine wk ?_;exact ast aso asr ⟨j+1,_,_,_,rfl,p,G,I,rfl,rfl⟩
  have a1:j=l.length:=aso;subst a1;have j1:¬(l.length:Int)<(l.length:Int):=aso;rw[apg]at V d;have fs:AV.frzL (suf.map am)=suf.map am:=bB _;refine wk ?_;refine N3 rt (an _ _) ?_;rw[a4];refine aa ?_;have e1:=V.o;have S:=d.o;rw[an9]at e1 S;refine h.o _ none ?_ ((aZ.set (B:=λi=>i=rt) L rfl _).trans (aZ.app _ _));rw[an];simp only[AV.frzL,AV.frz,dnA,fs,e1,S,Em]
 rw[if_neg k2]at h T;by_cases k3:k=3
 .subst k3;rw[if_pos rfl]at h;replace h:=hid h;clear T al hL ad;refine aoW fg ?_;refine bR (l:=[]) (n:=0) 7 3 rfl (aps 3).symm ?_;simp only[apd,apb,apJ,ap9,apc,apH,apx];refine ak (λm T' L'=>∃(j D:Nat) (C:List AV) (X:List Blk),m=l.length-j/\j<=l.length/\Hid (C=bD ((l.take j).flatMap (doE 3 x.id dn tn v)))/\Hid (D=((l.take j).flatMap (doE 3 x.id dn tn v)).length)/\T'=[(25,.int .i64 (j:Int)),(24,.int .i64 l.length),(23,.sl (bD l) l.length c),(7,.gsl C D (L.length+1) 3),(6,.int .i64 (n:Int)),(3,.ptr L.length 0),(0,.ptr rt 0)]/\L'=L++(.cells [.int .i64 3,dnA dn,dnA tn,.sl (aJ v) v.length none] :: .spare D 3::X)) ass ⟨0,0,[],[],rfl,ao2 _,hid rfl,hid rfl,rfl,asp⟩ ?_;rintro _ _ _ ⟨j,D,C,X,rfl,hj,V,d,rfl,rfl⟩;have a9:∀(a s b:Blk) (Y:List Blk),(L++a::s::(X++b::Y))[L.length+(X.length+1+1)]?=some b:=λa s b Y=>by rw[ape aso,show L.length+(X.length+1+1)-L.length=X.length+1+1 by omega,ap1,ap1,ape (ao0 _)];simp
  have bb:∀(a s b N:Blk) (Y:List Blk),(L++a::s::(X++b::Y)).set (L.length+(X.length+1+1)) N=L++a::s::(X++N::Y):=λa s b N Y=>by rw[apu _ _ aso,show L.length+(X.length+1+1)-L.length=X.length+1+1 by omega,aqr,aqr,apu _ _ (ao0 _)];simp
  have bi:D<=l.length:=by rw[d.o];exact apk (Yx _ _ _ _ _ _) (by simp;omega)
  by_cases p:j<l.length
  .have j1:(j:Int)<(l.length:Int):=aso;have j2:=aoV j aso;have e6:=En p;have e7:j*3+3<=(bD l).length:=(by rw[a6];omega);have E:l.getD j default∈l:=(by simp[p]);have P:j=n↔(l.getD j default).id=x.id:=by rw[<- a5];constructor;intro e;rw[e];intro e;have S:=ht.byI E (by simp[Q]:l.getD n default∈l) e;rw[apo,apo,ao8 p,ao8 Q]at S;simp only[apT]at S;rcases arj j n with q|q|q;exact absurd S (aqb.1 J.o j n p Q q);exact q;exact absurd S.symm (aqb.1 J.o n j Q p q)
   have F:l.take (j+1)=l.take j++[l.getD j default]:=(by rw[aph p];simp[p]);obtain⟨y,hy⟩:=aoT (l.getD j default);rw[hy]at e6 E F
   try rw[hy]at P
   unfold VL atR at e6;have M:=R.o y E;have kk4:=@hid _ (λ{L:List Blk}{K:aoY}=>kU.o y E (L:=L) (K:=K));obtain⟨u,hu⟩:=aoT (cA y.nm dn);rw[hu]at kk4;have f:∀{r:List aC},doE 3 x.id dn tn v y=r->Hid (C++bD r=bD ((l.take (j+1)).flatMap (doE 3 x.id dn tn v)))/\Hid (D+r.length=((l.take (j+1)).flatMap (doE 3 x.id dn tn v)).length):=λ{r} e=>by rw[F,arr,apD,ar8,apG,e,Eo,apd,<- V.o,<- d.o];exact⟨hid rfl,hid rfl⟩
   have W:AV.frzL (y.nm.map am)=y.nm.map am:=bB _;have U:=fi y.av;by_cases H:j=n;have O:=P.1 H;subst H;obtain⟨yi,z⟩:=aoT (y.id);obtain⟨ya,t⟩:=aoT (aJ y.av);obtain⟨yk,A⟩:=aoT (y.av.length);obtain⟨yn,g⟩:=aoT (y.nm);rw[z,t,A,g]at e6;rw[t]at U;rw[g]at W kk4;have w:=f (r:=[{y with av:=v}]) (by simp[doE,O]);have s3:bD [{y with av:=v}]=[.int .i64 yi,dnA yn,.sl (aJ v) v.length none]:=(by rw[<- z,<- g];rfl);have G:=w.1;have I:=w.2;rw[s3]at G;have G:=hid G.o;have I:=hid I.o;clear w s3 f V d hy E F M hu kU z t A g R J;refine wk ?_;exact ast aso asr ⟨j+1,_,_,_,rfl,p,G,I,rfl,rfl⟩;have O:¬y.id=x.id:=λe=>H (P.2 e)
   have a8:¬(j:Int)=(n:Int):=aso;obtain⟨yi,z⟩:=aoT (y.id);obtain⟨ya,t⟩:=aoT (aJ y.av);obtain⟨yk,A⟩:=aoT (y.av.length);obtain⟨yn,g⟩:=aoT (y.nm);rw[z,t,A,g]at e6;rw[t]at U;rw[g]at W kk4;have w:=f (r:=[y]) (by simp[doE,O]);have s3:bD [y]=[.int .i64 yi,dnA yn,.sl ya yk none]:=(by rw[<- z,<- t,<- A,<- g];rfl);have G:=w.1;have I:=w.2;rw[s3]at G;have G:=hid G.o;have I:=hid I.o;clear w s3 f V d hy E F M hu kU z t A g R J;refine wk ?_;exact ast aso asr ⟨j+1,_,_,_,rfl,p,G,I,rfl,rfl⟩
  have a1:j=l.length:=aso;subst a1;have j1:¬(l.length:Int)<(l.length:Int):=aso;rw[apg]at V d;have fs:AV.frzL (suf.map am)=suf.map am:=bB _;refine wk ?_;refine N3 rt (an _ _) ?_;rw[a4];refine aa ?_;have e1:=V.o;have S:=d.o;rw[an8]at e1 S;refine h.o _ none ?_ ((aZ.set (B:=λi=>i=rt) L rfl _).trans (aZ.app _ _));rw[an];simp only[AV.frzL,AV.frz,dnA,fs,e1,S,Em]
 rw[if_neg k3]at h T;by_cases k4:k=4
 .subst k4;have b_:tn.length<=32:=(ht.canM hx T).tok.len;replace h:=hid h;clear T al hL ad;refine aoW fg ?_;refine bR (l:=[]) (n:=0) 7 3 rfl (aps 3).symm ?_;simp only[apd,apb,apJ,ap9,apc,apH,apx];refine ak (λm T' L'=>∃(j D:Nat) (C:List AV) (X:List Blk),m=l.length-j/\j<=l.length/\Hid (C=bD ((l.take j).flatMap (doE 4 x.id dn tn v)))/\Hid (D=((l.take j).flatMap (doE 4 x.id dn tn v)).length)/\T'=[(25,.int .i64 (j:Int)),(24,.int .i64 l.length),(23,.sl (bD l) l.length c),(7,.gsl C D (L.length+1) 3),(6,.int .i64 (n:Int)),(3,.ptr L.length 0),(0,.ptr rt 0)]/\L'=L++(.cells [.int .i64 4,dnA dn,dnA tn,.sl (aJ v) v.length none] :: .spare D 3::X)) ass ⟨0,0,[],[],rfl,ao2 _,hid rfl,hid rfl,rfl,asp⟩ ?_;rintro _ _ _ ⟨j,D,C,X,rfl,hj,V,d,rfl,rfl⟩;have a9:∀(a s b:Blk) (Y:List Blk),(L++a::s::(X++b::Y))[L.length+(X.length+1+1)]?=some b:=λa s b Y=>by rw[ape aso,show L.length+(X.length+1+1)-L.length=X.length+1+1 by omega,ap1,ap1,ape (ao0 _)];simp
  have bb:∀(a s b N:Blk) (Y:List Blk),(L++a::s::(X++b::Y)).set (L.length+(X.length+1+1)) N=L++a::s::(X++N::Y):=λa s b N Y=>by rw[apu _ _ aso,show L.length+(X.length+1+1)-L.length=X.length+1+1 by omega,aqr,aqr,apu _ _ (ao0 _)];simp
  have bi:D<=l.length:=by rw[d.o];exact apk (Yx _ _ _ _ _ _) (by simp;omega)
  by_cases p:j<l.length
  .have j1:(j:Int)<(l.length:Int):=aso;have j2:=aoV j aso;have e6:=En p;have e7:j*3+3<=(bD l).length:=(by rw[a6];omega);have E:l.getD j default∈l:=(by simp[p]);have P:j=n↔(l.getD j default).id=x.id:=by rw[<- a5];constructor;intro e;rw[e];intro e;have S:=ht.byI E (by simp[Q]:l.getD n default∈l) e;rw[apo,apo,ao8 p,ao8 Q]at S;simp only[apT]at S;rcases arj j n with q|q|q;exact absurd S (aqb.1 J.o j n p Q q);exact q;exact absurd S.symm (aqb.1 J.o n j Q p q)
   have F:l.take (j+1)=l.take j++[l.getD j default]:=(by rw[aph p];simp[p]);obtain⟨y,hy⟩:=aoT (l.getD j default);rw[hy]at e6 E F
   try rw[hy]at P
   unfold VL atR at e6;have M:=R.o y E;have kk4:=@hid _ (λ{L:List Blk}{K:aoY}=>kU.o y E (L:=L) (K:=K));obtain⟨u,hu⟩:=aoT (cA y.nm dn);rw[hu]at kk4;have f:∀{r:List aC},doE 4 x.id dn tn v y=r->Hid (C++bD r=bD ((l.take (j+1)).flatMap (doE 4 x.id dn tn v)))/\Hid (D+r.length=((l.take (j+1)).flatMap (doE 4 x.id dn tn v)).length):=λ{r} e=>by rw[F,arr,apD,ar8,apG,e,Eo,apd,<- V.o,<- d.o];exact⟨hid rfl,hid rfl⟩
   have W:AV.frzL (y.nm.map am)=y.nm.map am:=bB _;have U:=fi y.av;by_cases H:j=n;have O:=P.1 H;subst H;cases u with
   | true =>
     have ap:dn.length<=y.nm.length:=by have:=(cC.1 hu).2.2.length_le;rwa[bC,bC]at this
     have bl:=M.len;have b0:=a'.len;obtain⟨Z,ai⟩:=aoT (iB y.nm dn.length tn);have a0:Z.length<=1100000/\∀r∈Z,r.length<=1100000:=by
      rw[<- ai];unfold iB;refine⟨by simp;omega,λr hr=>?_⟩;rcases ao5.1 hr with hr|hr
      .exact(M.m.b.2 r (arL hr))
      .exact a_.b.2 r hr
     have kk5:Hid (Ctr Tryz.prog 83 [dnA y.nm,.int .i64 (dn.length:Int),dnA tn] (dnA Z)):=@hid _ (by intro L K q;exact abY aso aso ap (by rw[ai];exact q))
     have kk6:Hid (Ctr Tryz.prog 40 [dnA Z] (dnA Z)):=@hid _ (by intro L K q;exact afO a0.1 a0.2 q);have fZ:AV.frzL (Z.map am)=Z.map am:=bB _;obtain⟨yi,z⟩:=aoT (y.id);obtain⟨ya,t⟩:=aoT (aJ y.av);obtain⟨yk,A⟩:=aoT (y.av.length);obtain⟨yn,g⟩:=aoT (y.nm);rw[z,t,A,g]at e6;rw[t]at U;rw[g]at W kk4 kk5;have w:=f (r:=[{y with nm:=Z,av:=v}]) (by simp[doE,O,hu,ai]);have s3:bD [{y with nm:=Z,av:=v}]=[.int .i64 yi,dnA Z,.sl (aJ v) v.length none]:=(by rw[<- z];rfl);have G:=w.1;have I:=w.2;rw[s3]at G;have G:=hid G.o;have I:=hid I.o;clear ai a0 ap w s3 f V d hy E F M hu kU z t A g R J;refine wk ?_;exact ast aso asr ⟨j+1,_,_,_,rfl,p,G,I,rfl,rfl⟩
   | false =>
     have:=ht.byI E bn O;subst this;rw[bs]at hu;cases hu
   have O:¬y.id=x.id:=λe=>H (P.2 e)
   have a8:¬(j:Int)=(n:Int):=aso;cases u with
   | true =>
     have ap:dn.length<=y.nm.length:=by have:=(cC.1 hu).2.2.length_le;rwa[bC,bC]at this
     have bl:=M.len;have b0:=a'.len;obtain⟨Z,ai⟩:=aoT (iB y.nm dn.length tn);have a0:Z.length<=1100000/\∀r∈Z,r.length<=1100000:=by
      rw[<- ai];unfold iB;refine⟨by simp;omega,λr hr=>?_⟩;rcases ao5.1 hr with hr|hr
      .exact(M.m.b.2 r (arL hr))
      .exact a_.b.2 r hr
     have kk5:Hid (Ctr Tryz.prog 83 [dnA y.nm,.int .i64 (dn.length:Int),dnA tn] (dnA Z)):=@hid _ (by intro L K q;exact abY aso aso ap (by rw[ai];exact q))
     have kk6:Hid (Ctr Tryz.prog 40 [dnA Z] (dnA Z)):=@hid _ (by intro L K q;exact afO a0.1 a0.2 q);have fZ:AV.frzL (Z.map am)=Z.map am:=bB _;obtain⟨yi,z⟩:=aoT (y.id);obtain⟨ya,t⟩:=aoT (aJ y.av);obtain⟨yk,A⟩:=aoT (y.av.length);obtain⟨yn,g⟩:=aoT (y.nm);rw[z,t,A,g]at e6;rw[t]at U;rw[g]at W kk4 kk5;have w:=f (r:=[{y with nm:=Z}]) (by simp[doE,O,hu,ai]);have s3:bD [{y with nm:=Z}]=[.int .i64 yi,dnA Z,.sl ya yk none]:=(by rw[<- z,<- t,<- A];rfl);have G:=w.1;have I:=w.2;rw[s3]at G;have G:=hid G.o;have I:=hid I.o;clear ai a0 ap w s3 f V d hy E F M hu kU z t A g R J;refine wk ?_;exact ast aso asr ⟨j+1,_,_,_,rfl,p,G,I,rfl,rfl⟩
   | false =>
     obtain⟨yi,z⟩:=aoT (y.id);obtain⟨ya,t⟩:=aoT (aJ y.av);obtain⟨yk,A⟩:=aoT (y.av.length);obtain⟨yn,g⟩:=aoT (y.nm);rw[z,t,A,g]at e6;rw[t]at U;rw[g]at W kk4;have w:=f (r:=[y]) (by simp[doE,O,hu]);have s3:bD [y]=[.int .i64 yi,dnA yn,.sl ya yk none]:=(by rw[<- z,<- t,<- A,<- g];rfl);have G:=w.1;have I:=w.2;rw[s3]at G;have G:=hid G.o;have I:=hid I.o;clear w s3 f V d hy E F M hu kU z t A g R J;refine wk ?_;exact ast aso asr ⟨j+1,_,_,_,rfl,p,G,I,rfl,rfl⟩
  have a1:j=l.length:=aso;subst a1;have j1:¬(l.length:Int)<(l.length:Int):=aso;rw[apg]at V d;have fs:AV.frzL (suf.map am)=suf.map am:=bB _;refine wk ?_;refine N3 rt (an _ _) ?_;rw[a4];refine aa ?_;have e1:=V.o;have S:=d.o;rw[an7]at e1 S;refine h.o _ none ?_ ((aZ.set (B:=λi=>i=rt) L rfl _).trans (aZ.app _ _));rw[an];simp only[AV.frzL,AV.frz,dnA,fs,e1,S,Em]
 exact absurd (by omega:k<1\/4<k) ad
theorem anQ{suf:List Rdn}{last:Int}{l:List aC}(j:TOk suf last l)(u:l.length<=900000)(r:0<=last)(g:last<=1000000){L:List Blk}(f:L[rt]?=some (.cells [dnA suf,.sl (bD l) l.length c,.int .i64 last])){v:List Atr}(e:dnM dn)(d:dnM tn)(p:v.length<=1100000)(m:∀a∈v,a.2.length<=1100000){K:aoY}(h:∀L' c',L'[rt]?=some (.cells [dnA suf,.sl (bD (doT suf l last k dn tn v).1) (doT suf l last k dn tn v).1.length c',.int .i64 (doT suf l last k dn tn v).2])->aZ (λi=>i=rt) L L'->K (.int .i64 (fY suf l k dn tn)) L'):
  aoX 35 [.ptr rt 0,.agg [.int .i64 k,dnA dn,dnA tn,atR v]] L K:=by
 by_cases b:fY suf l k dn tn=0;exact amO j u r g f e d p m b (by rw[b]at h;exact h);have n:=(aoZ.1 f).1;have s:∀X:List Blk,(L++X)[rt]?=some (.cells [dnA suf,.sl (bD l) l.length c,.int .i64 last]):=λX=>by rw[ao4 n];exact f
 have kk1:Hid (∀{X:List Blk}{K:aoY},K (.int .i64 (fY suf l k dn tn)) (L++X)->aoX 81 [.ptr rt 0,.agg [.int .i64 k,dnA dn,dnA tn,.sl (aJ v) v.length none]] (L++X) K):=@hid _ (by intro X K q;exact af0 j aso (s X) e d q)
 unfold doT at h;rw[if_pos b]at h;obtain⟨z,t⟩:=aoT (fY suf l k dn tn);rw[t]at kk1 h b;have x:¬z=0:=b;have w:Hid (K (.int .i64 z) (L++[.cells [.int .i64 k,dnA dn,dnA tn,.sl (aJ v) v.length none]])):=hid (h _ c (s _) (aZ.app _ _));clear h j f t;unfold atR;refine aoW fg ?_;exact aa w.o
theorem ala(r:Rul):AV.frzL (rlC r)=rlC r:=by simp only[rlC,XP,apH,apx,AV.frzL,AV.frz,bB]
theorem adS(a b:List AV):AV.frzL (a++b)=AV.frzL a++AV.frzL b:=by
 induction a with
 |nil=>rfl
 |cons x a ih=>simp[AV.frzL,ih]
theorem ac2:∀l:List Rul,AV.frzL (jt l)=jt l
 |[]=>rfl
 |r::l=>by rw[show jt (r::l)=rlC r++jt l from rfl,adS,ala,ac2 l]
theorem ann{ts:List Typ}{I:Option Nat}{c2:List AV}{n2:Nat}{H:Option Nat}(v:ts.length<=1100000/\∀t∈ts,bI t.1){adm:List Rdn}{ca:Option Nat}(ha:dnB adm){rs:List Rul}{cr:Option Nat}(hn:rs.length<=1000000)(G:∀r∈rs,bI r.at_){L:List Blk}{K:aoY}(A:∀e,e≠0->(¬OkD adm\/SI ts rs≠0)->K (.tup [.nilptr,.int .i64 e]) L)(h1:OkD adm->SI ts rs=0->∀ib X c,(L++X)[ib]?=some (.cells [dnA adm,.sl (jt rs) rs.length c])->K (.tup [.ptr ib 0,.int .i64 0]) (L++X)):
  aoX 33 [.agg [.sl (cU ts) ts.length I,.sl c2 n2 H],.sl (adm.map am) adm.length ca,.sl (gr rs) rs.length cr] L K:=by
 have kk1:Hid (Ctr Tryz.prog 36 [.sl (adm.map am) adm.length ca] (kB (prS adm))):=@hid _ (λ{L K} q=>lI ha.1 ha.2 q);have kk2:Hid (∀{c:Option Nat}{L:List Blk}{K:aoY},K (dnA adm) L->aoX 59 [.sl (adm.map am) adm.length ca,.sl [] 0 c] L K):=@hid _ (by intro c L K q;exact ab9 ha.1 ha.2 q);obtain⟨⟨p1,e1⟩,E⟩:∃q,prS adm=q:=⟨_,rfl⟩;have o1:OkD adm↔e1=0:=by unfold OkD;rw[E]
 rw[E]at kk1;simp only[kB]at kk1;obtain⟨TS,D⟩:=aoT (AV.sl (cU ts) ts.length I);obtain⟨CS,F⟩:=aoT (AV.sl c2 n2 H);by_cases he:e1=0;rotate_left;replace A:=hid (A e1 he (.inl λc=>he (o1.1 c)));clear h1 E o1 G v;rw[D,F];refine aoW VY ?_;exact ac rfl A.o;subst he;have W:=o1.2 rfl;replace A:=hid A;replace h1:=hid (h1 W);replace G:=hid G;have ai:=hid v;have N:Hid (∀{n:List UInt8},bI n->∀{L:List Blk}{K:aoY},K (tB (gX ts n)) L->aoX 45 [.agg [TS,CS],.str n] L K):=@hid _ (λ{n} hn {L K} q=>by rw[<- D,<- F];exact acm v.1 v.2 hn q);rw[D,F];clear E o1 v D F W;refine aoW VY ?_;refine aas (L.length+1) 1 8 (c:=[dnA adm,.sl [] 0 (some 0)]) (l:=[]) (n:=0) asp rfl (aps 8).symm ?_;refine ak (λm T' L'=>∃(k:Nat) (C:List AV) (X:List Blk),m=rs.length-k/\k<=rs.length/\Hid (C=jt (rs.take k))/\Hid ((∀r∈rs.take k,bkE ts r=0)/\SI ts (rs.drop k)=SI ts rs)/\T'=[(32,.int .i64 (k:Int)),(31,.int .i64 rs.length),(30,.sl (gr rs) rs.length cr),(10,.ptr (L.length+1) 0),(3,.ptr L.length 0)]/\L'=L++([.cells [TS,CS],.cells [dnA adm,.gsl C k (L.length+2) 8],.spare k 8]++X)) ass ⟨0,[],[],rfl,ao2 _,hid rfl,hid ⟨asp,rfl⟩,rfl,by simp[dnA]⟩ ?_;clear kk1 kk2;rintro _ _ _ ⟨k,C,X,rfl,hk,hC,hI,rfl,rfl⟩;by_cases h:k<rs.length
 .have g1:(k:Int)<(rs.length:Int):=aso;have g2:=aoV k aso;have e3:=aiD h;have e4:k*6+6<=(gr rs).length:=(by rw[agU];omega);obtain⟨r,u⟩:=aoT (rs.getD k default);have hm:r∈rs:=(by rw[<- u];simp[h]);have Z:rs.drop k=r::rs.drop (k+1):=(by rw[apw h,<- u];simp[h]);have M:rs.take (k+1)=rs.take k++[r]:=(by rw[aph h,<- u];simp[h]);have g:=hI.o;rw[Z,SI]at g;have J:=G.o r hm;rw[u]at e3;have z:=hid (show C++rlC r=jt (rs.take (k+1))by rw[hC.o,M,aiH];simp[jt]);have s:=hid (λV:bkE ts r=0=>(show(∀r∈rs.take (k+1),bkE ts r=0)/\SI ts (rs.drop (k+1))=SI ts rs from⟨λy O=>by rw[M]at O;rcases ao5.1 O with O|O;exact g.1 y O;rw[apr.1 O];exact V,by have:=g.2;rwa[if_neg (by simpa using V)]at this⟩));have f:=hid (λV:bkE ts r≠0=>(show SI ts rs≠0 by rw[<- g.2,if_pos V];exact V));have kk3:Hid (Ctr Tryz.prog 45 [.agg [TS,CS],.str r.at_] (tB (gX ts r.at_))):=@hid _ (λ{L K} q=>N.o J q);clear hI g Z M u hm hC J;have U:bkE ts r=bkE ts r:=rfl;unfold bkE at U;obtain⟨w,d,wh,at_,rg,al⟩:=r;obtain⟨⟨P,S⟩,hP⟩:∃q,dV d=q:=⟨_,rfl⟩;obtain⟨⟨Q,R⟩,hQ⟩:∃q,dV wh=q:=⟨_,rfl⟩;have kk1:Hid (Ctr Tryz.prog 77 [.str d] (aaw (P,S))):=@hid _ (λ{L K} q=>abT (by rw[hP];exact q));have kk2:Hid (Ctr Tryz.prog 77 [.str wh] (aaw (Q,R))):=@hid _ (λ{L K} q=>abT (by rw[hQ];exact q));have b:bkE ts ⟨w,d,wh,at_,rg,al⟩=if w<0\/4<w then 24 else if S≠0 then S else if w<3/\P≠[]then 2 else if R≠0 then R else if at_≠[]/\gX ts at_=none then 20 else if rg<1\/15<rg then 23 else 0:=by unfold bkE;simp only[hP,hQ]
  have Y:rlC ⟨w,d,wh,at_,rg,al⟩=[.int .i64 w,.str d,.str wh,.str at_,.int .i64 rg,.bool al,.sl (P.map am) P.length none,.sl (Q.map am) Q.length none]:=(by simp only[rlC,XP,hP,hQ];rfl);rw[Y]at z;simp only[XP,aaw,tB]at e3 kk1 kk2 kk3;clear hP hQ Y U;obtain⟨o,ho⟩:=aoT (gX ts at_);rw[ho]at kk3 b;obtain⟨⟨t1,t2,t3,t4⟩,ad⟩:∃t,o.getD Ef=t:=⟨_,rfl⟩;rw[ad]at kk3;simp only[tyC]at kk3;replace b:=hid b;by_cases j:w<0\/4<w;have q1:=decide_eq_true j;have i:=hid (show bkE ts ⟨w,d,wh,at_,rg,al⟩=24 by rw[b.o,if_pos j]);clear j;refine wk ?_;exact ac rfl (A.o 24 (by decide) (.inr (f.o (by rw[i.o];decide))));have q1:=decide_eq_false j;replace j:=hid j;by_cases hB:S=0;rotate_left;have i:=hid (show bkE ts ⟨w,d,wh,at_,rg,al⟩=S by rw[b.o,if_neg j.o,if_pos hB]);refine wk ?_;exact ac rfl (A.o S hB (.inr (f.o (by rw[i.o];exact hB))));subst hB;by_cases a:w<3/\P≠[];have q2:decide (w<3/\(0:Int)<(P.length:Int))=true:=decide_eq_true ⟨a.1,by have:=apQ.2 a.2;omega⟩;have i:=hid (show bkE ts ⟨w,d,wh,at_,rg,al⟩=2 by rw[b.o,if_neg j.o,if_neg asp,if_pos a]);clear a;refine wk ?_;exact ac rfl (A.o 2 (by decide) (.inr (f.o (by rw[i.o];decide))));have q2:decide (w<3/\(0:Int)<(P.length:Int))=false:=decide_eq_false λc=>a ⟨c.1,λe=>by rw[e]at c;simp at c⟩
  replace a:=hid a;by_cases hD:R=0;rotate_left;have i:=hid (show bkE ts ⟨w,d,wh,at_,rg,al⟩=R by rw[b.o,if_neg j.o,if_neg asp,if_neg a.o,if_pos hD]);refine wk ?_;exact ac rfl (A.o R hD (.inr (f.o (by rw[i.o];exact hD))));subst hD;by_cases B:at_≠[]/\o=none;have i:=hid (show bkE ts ⟨w,d,wh,at_,rg,al⟩=20 by rw[b.o,if_neg j.o,if_neg asp,if_neg a.o,if_neg asp,if_pos B]);have q3:decide (at_=[])=false:=decide_eq_false B.1;have q4:o.isSome=false:=(by rw[B.2];rfl);clear B ho;refine wk ?_;exact ac rfl (A.o 20 (by decide) (.inr (f.o (by rw[i.o];decide))));have q3:(!decide (at_=[]) && !o.isSome)=false:=by
   cases o with
   |some x=>simp
   | none => have : at_ = [] := Decidable.byContradiction fun e => B ⟨e, rfl⟩
             simp[this]
  replace B:=hid B;by_cases T:rg<1\/15<rg;have i:=hid (show bkE ts ⟨w,d,wh,at_,rg,al⟩=23 by rw[b.o,if_neg j.o,if_neg asp,if_neg a.o,if_neg asp,if_neg B.o,if_pos T]);have q5:=decide_eq_true T;clear T ho;refine wk ?_;exact ac rfl (A.o 23 (by decide) (.inr (f.o (by rw[i.o];decide))));have q5:=decide_eq_false T;have i:=s.o (show bkE ts ⟨w,d,wh,at_,rg,al⟩=0 by rw[b.o,if_neg j.o,if_neg asp,if_neg a.o,if_neg asp,if_neg B.o,if_neg T]);replace i:=hid i;have fP:AV.frzL (P.map am)=P.map am:=bB P;have fQ:AV.frzL (Q.map am)=Q.map am:=bB Q;clear T ho b s f;refine wk ?_;exact ast aso asr ⟨k+1,_,_,rfl,h,z,i,rfl,by simp;rfl⟩
 have g1:¬(k:Int)<(rs.length:Int):=aso;have p:k=rs.length:=aso;have g:=hI.o;have z:=hC.o;rw[p,apg,apM]at g;rw[p,apg]at z;subst z;replace g:=hid g;replace p:=hid p;clear hI hC h;refine wk ?_;refine N3 (L.length+1) (c:=[dnA adm,.gsl (jt rs) k (L.length+2) 8]) asp ?_;have e:AV.frzL [dnA adm,.gsl (jt rs) k (L.length+2) 8]=[dnA adm,.sl (jt rs) rs.length none]:=by simp only[AV.frzL,AV.frz,dnA,bB,ac2,p.o]
 rw[e];simp;exact aa (h1.o (by rw[<- g.o.2];rfl) _ _ none asp)
end Go.Proofs.YtdnfjhflkkpokaaGreatDoor.Av
set_option maxRecDepth 100000
namespace Go.Proofs.YtdnfjhflkkpokaaGreatDoor.Av
open Go
def DI:LSO:=[Ak 0]
def DH:LSO:=[o1 1 (.build [(.str []),(.str [])] [(0,(1,(.av (.str [100,99])))),(1,(1,(.av (.str [122]))))]),B9 2 1,Bl 3 2,Aa 0 3]
def tL:aK:=⟨4,(ash DI [] (ash DH C7 .ret)),[(.tmp 0)]⟩
attribute [push_cast] DI DH
theorem VU:asm 31=asn tL:=asq
def mF:LSO:=[Ay 1 0,Cz 2,Af 3]
def mE:LSO:=[AY 14 15,C0 4,Ap 2 4 14]
def mD:LSO:=[AY 16 31,Aj 17 30 16,Aa 15 17,Ao 18 15,Aq 19 15,Aa 5 18,Aa 6 19]
def mC:LSO:=[AY 21 31,Aj 22 32 21,Aa 20 22,Ao 23 20,Aq 24 20,Aa 7 23,Aa 8 24]
def mB:LSO:=[Aa 25 6,AB 26 25 0,Aa 27 26,.grp none 27 false
 [Ag 28 27 5,BV 29 27 28]
 30 (tm 29),Aa 31 30,.grp none 31 false
 [A8 32 31 0 1,A6 33 31 1 32,AS 34 31 33,AC 35 31 34 30]
 36 (tm 35),Aa 37 36,.grp none 37 false
 [A8 38 37 2 1,A6 39 37 1 38,AS 40 37 39,AC 41 37 40 20]
 42 (tm 41),Aa 43 42,.grp none 43 false
 [A8 44 43 1 1,A6 45 43 1 44,og 46 43 false (.build [(.int .i64 0),(.sl [] 0 (some 0)),(.sl [] 0 (some 0)),(.sl [] 0 (some 0))] [(1,(1,(tm 45)))]),AM 47 43 8 46,AZ 48 43 47]
 49 (tm 48)]
def mA:LSO:=[C2 50,Ap 5 2 50,Af 3]
def mz:LSO:=[As 52 2 4,Ad 53 1 1,Ab 54 1 53,Ad 55 2 1,Ab 56 1 55,AF 57 33 52 54 56,Aa 51 57,Ao 58 51,Aq 59 51,Aa 9 58,Aa 6 59]
def mw:LSO:=[Aa 60 6,AB 61 60 0,Aa 62 61,.grp none 62 false
 [Ag 63 62 9,BV 64 62 63]
 65 (tm 64)]
def mu:LSO:=[C2 66,Ap 5 2 66,Af 3]
def mt:LSO:=[Ad 67 0 1,Ab 68 1 67,Ah 69 68,Ac 70 0]
def lp:LSO:=[Al 71 70 69]
def ln:LSO:=[Am 72 4 68 70,As 73 4 72,o1 11 (.alloc [(.int .i64 0),(.sl [] 0 (some 0)),(.sl [] 0 (some 0)),(.sl [] 0 (some 0))]),Ap 4 11 73]
def lm:LSO:=[As 74 4 11,Aj 75 8 74,A3 76 75]
def ll:LSO:=[C2 77,Ap 5 2 77,Af 3]
def lh:LSO:=[As 79 2 4,Ad 80 3 11,Ab 81 1 80,Ar 82 14 79 81,Aa 78 82,Ao 83 78,Aq 84 78,Aa 12 83,Aa 13 84]
def k9:LSO:=[Aa 85 13,AB 86 85 0]
def k8:LSO:=[Aa 87 12,Ad 88 3 11,Ap 1 88 87]
def k7:LSO:=[Aa 89 5,As 90 4 11,Ar 91 34 89 90]
def kZ:LSO:=[Aa 92 7,As 93 4 11,Ar 94 35 92 93]
def kY:LSO:=[Ai 95 70 1,Aa 70 95]
def kX:LSO:=[Aa 96 5,Aa 97 9,Aa 98 7,Ad 99 1 1,Ab 100 1 99,Ad 101 2 1,Ab 102 1 101,
 o1 103 (.build [(.sl [] 0 (some 0)),(.sl [] 0 (some 0))] [(0,(1,(tm 100))),(1,(1,(tm 102)))]),
 o1 104 (.build [.nilptr,.nilptr,.nilptr,(.sl [] 0 (some 0)),(.sl [] 0 (some 0))] [(0,(1,(tm 96))),(1,(1,(tm 97))),(2,(1,(tm 98))),(3,(2,(tm 103)))]),Ap 5 2 104,A5 3]
def jo:aK:=⟨105,(ash mF [] (ash mE C4 (ash mD CH (ash mC Db (.seq (ash mB CG (asj 49 (.sreg mA C4))) (ash mz Dn (.seq (ash mw C7 (asj 65 (.sreg mu C4))) (.seq (ash mt CJ (ask 0 (ash lp [] (.seq (asl 71 0) (.seq (.block 1 (ash ln C6 (.seq (ash lm C6 (asj 76 (.sreg ll C4))) (ash lh CR (.seq (ash k9 C4 (asi 86 (.exit 1) .skip)) (ash k8 CZ (ash k7 Dd (.sreg kZ Dd)))))))) (.sreg kY C4)))))) (ash kX CG .ret))))))))),[(.cell true 5 2),(.tmp 3)]⟩
attribute [push_cast] mF mE mD mC mB mA mz mw mu mt lp ln lm ll lh k9 k8 k7 kZ kY kX
theorem Fk:asm 7=asn jo:=asq
def IU:LSO:=[Af 0]
def IT:LSO:=[o1 11 (.build [(.int .i64 0),(.str []),(.str []),(.str []),(.int .i64 0),(.bool false)] [(4,(1,(iv 7))),(5,(1,(.av (.bool true))))]),
 o1 12 (.bslice false 6 1 [(.int .i64 0),(.str []),(.str []),(.str []),(.int .i64 0),(.bool false)] [(0,(6,(tm 11)))]),AY 13 31,
 o1 14 (.build [(.int .i64 0),(.sl [] 0 (some 0)),(.sl [] 0 (some 0)),(.sl [] 0 (some 0))] [(0,(1,(iv 1))),(1,(1,(tm 13)))]),
 o1 15 (.build [(.str []),(.str [])] [(0,(1,(.av (.str [99,110])))),(1,(1,(.av (.str [97]))))]),B9 16 15,Bl 17 16,AY 18 31,Bh 19 17 18,
 o1 20 (.bslice false 1 1 [(.str [])] [(0,(1,(.av (.str [97]))))]),o1 21 (.build [(.str []),(.sl [] 0 (some 0))] [(0,(1,(.av (.str [99,110])))),(1,(1,(tm 20)))]),BG 22 21,
 o1 23 (.build [(.int .i64 0),(.sl [] 0 (some 0)),(.sl [] 0 (some 0)),(.sl [] 0 (some 0))] [(0,(1,(iv 1))),(1,(1,(tm 19))),(3,(1,(tm 22)))]),
 o1 24 (.bslice false 4 2 [(.int .i64 0),(.sl [] 0 (some 0)),(.sl [] 0 (some 0)),(.sl [] 0 (some 0)),(.int .i64 0),(.sl [] 0 (some 0)),(.sl [] 0 (some 0)),(.sl [] 0 (some 0))] [(0,(4,(tm 14))),(4,(4,(tm 23)))]),
 o1 25 (.build [(.sl [] 0 (some 0)),(.sl [] 0 (some 0)),(.sl [] 0 (some 0))] [(2,(1,(tm 12))),(0,(1,(tm 24)))]),
 o1 1 (.alloc [(.sl [] 0 (some 0)),(.sl [] 0 (some 0)),(.sl [] 0 (some 0))]),Ap 3 1 25]
def IS:LSO:=[As 27 3 1,Aj 28 7 27,Aa 26 28,Ao 29 26,Aq 30 26,Cz 2,Ap 5 2 29,Aa 3 30]
def IR:LSO:=[Aa 31 3,A3 32 31]
def IQ:LSO:=[Af 0]
def IP:LSO:=[o1 33 (.build [(.int .i64 0),(.str []),(.str []),(.sl [] 0 (some 0)),(.sl [] 0 (some 0))] [(0,(1,(iv 0)))]),BU 4,Ap 5 4 33]
def IN:LSO:=[Ad 35 0 2,Ab 36 1 35,Au 37 36,Ad 38 0 37,Ab 39 1 38,AY 40 15,Ad 41 1 2,Ab 42 1 41,AY 43 31,As 44 5 4,
 o1 45 (.build [(.sl [] 0 (some 0)),(.sl [] 0 (some 0)),(.int .i64 0),(.int .i64 0),(.str []),(.str []),(.sl [] 0 (some 0)),(.sl [] 0 (some 0)),(.sl [] 0 (some 0)),(.bool false),(.int .i64 0),(.int .i64 0)] [(1,(1,(tm 43))),(2,(1,(iv 2))),(3,(5,(tm 44))),(10,(1,(iv 1)))]),
 C3 46 21 39 40 42 45,Aa 34 46,Ao 47 34,Aq 48 34,Be 49 34,Aa 5 47,Aa 6 48,Aa 7 49]
def IM:LSO:=[Ad 51 0 2,Ab 52 1 51,Au 53 52,Ad 54 0 53,Ab 55 1 54,AY 56 15,Ad 57 1 2,Ab 58 1 57,AY 59 31,As 60 5 4,
 o1 61 (.build [(.sl [] 0 (some 0)),(.sl [] 0 (some 0)),(.int .i64 0),(.int .i64 0),(.str []),(.str []),(.sl [] 0 (some 0)),(.sl [] 0 (some 0)),(.sl [] 0 (some 0)),(.bool false),(.int .i64 0),(.int .i64 0)] [(1,(1,(tm 59))),(2,(1,(iv 1))),(3,(5,(tm 60)))]),
 C3 62 21 55 56 58 61,Aa 50 62,Ao 63 50,Aq 64 50,Be 65 50,Aa 8 63,Aa 9 64,Aa 10 65]
def IL:LSO:=[Aa 66 5,Ah 67 66,An 68 67 1,Aa 69 68,.grp none 69 true
 [Ae 70 69 6,AO 71 69 70 4]
 72 (tm 71),Aa 73 72,.grp none 73 true
 [Ae 74 73 8,AE 75 73 74,AO 76 73 75 1]
 77 (tm 76),Aa 78 77,.grp none 78 true
 [Ae 79 78 9,AO 80 78 79 0]
 81 (tm 80),Aa 82 81,.grp none 82 true
 [Ae 83 82 8,og 84 82 true (.iaddr 2 (tm 83) (iv 0)),Az 85 82 1 84,A0 86 82 1 85,AE 87 82 86,AO 88 82 87 1]
 89 (tm 88),Aa 0 89]
def wM:aK:=⟨90,(ash IU [] (ash IT [true,false,false,false,false,false,false,false,false,false,false,false,false,false,false,false] (ash IS CH (.seq (ash IR C4 (asj 32 (.sreg IQ []))) (ash IP C4 (.seq (.sdreg IN [.pure,(.read 0 0),(.read 0 0),.pure,(.read 0 0),(.read 0 0),.pure,(.read 0 0),(.read 0 0),(.read 0 0),.pure,(.read 0 0),.pure,.pure,.pure,.pure,.pure,.pure] Dq) (.seq (.sdreg IM [.pure,(.read 0 0),(.read 0 0),.pure,(.read 0 0),(.read 0 0),.pure,(.read 0 0),(.read 0 0),(.read 0 0),.pure,(.read 0 0),.pure,.pure,.pure,.pure,.pure,.pure] Dq) (ash IL CK .ret)))))))),[(.tmp 0)]⟩
attribute [push_cast] IU IT IS IR IQ IP IN IM IL
theorem WE:asm 9=asn wM:=asq
attribute [push_cast] tL jo wM
set_option maxHeartbeats 8000000
set_option maxRecDepth 100000
abbrev PAt:=Nat×Atr
abbrev pC(q:PAt):List AV:=[.str q.2.1,.lsl q.1 0 q.2.2.length none 1]
def psC(ps:List PAt):List AV:=ps.flatMap pC
abbrev noP:PAt:=(0,[],[])
def aen(L:List Blk)(b p:Nat)(s1 s2:AV)(ps:List PAt):Prop :=
 b<=p/\(ps.map (·.1)).Nodup/\(∀q∈ps,b<=q.1/\q.1≠p/\∃rest,L[q.1]?=some (.cells (q.2.2.map AV.str++rest))) /\
 ((L[p]?=some (.cells [s1,s2,.sl [] 0 (some 0)])/\ps=[])\/∃r rest,L[p]?=some (.cells [s1,s2,.lsl r 0 ps.length none 2])/\L[r]?=some (.cells (psC ps++rest))/\b<=r/\r≠p/\∀q∈ps,q.1≠r)
theorem aen.row{L:List Blk}{b p:Nat}{c e:AV}{ps:List PAt}(h:aen L b p c e ps):∃row,L[p]?=some (.cells [c,e,row])/\ahR L (psC ps) ps.length 2 row/\(row=.sl [] 0 (some 0)/\ps=[]\/∃r rest,row=.lsl r 0 ps.length none 2/\L[r]?=some (.cells (psC ps++rest))/\b<=r/\r≠p/\∀q∈ps,q.1≠r):=by obtain⟨_,_,_,h4⟩:=h;rcases h4 with⟨a,rfl⟩|⟨r,rest,a,d,f⟩;exact⟨_,a,.inl ⟨some 0,rfl⟩,.inl ⟨rfl,rfl⟩⟩;exact⟨_,a,.inr ⟨r,none,rest,rfl,d⟩,.inr ⟨r,rest,rfl,d,f⟩⟩
def Kpt(b:Nat)(L L':List Blk):Prop:=b<=L'.length/\∀k,k<b->L'[k]?=L[k]?
theorem Kpt.trans{b:Nat}{L L1 L2:List Blk}(h:Kpt b L L1)(k:Kpt b L1 L2):Kpt b L L2:=⟨k.1,λi a=>(k.2 i a).trans (h.2 i a)⟩
theorem Kpt.app{b:Nat}{L:List Blk}(h:b<=L.length)(X:List Blk):Kpt b L (L++X):=⟨by simp;omega,λk a=>by rw[ao4 aso]⟩
theorem Kpt.eq{b:Nat}{L L':List Blk}(h:Kpt b L L')(a:b=L.length):∃X,L'=L++X:=by refine⟨L'.drop L.length,?_⟩;apply aqZ;intro i;rw[aqn];split;rename_i c;rw[h.2 i aso];rw[apY];congr 1;omega
theorem afL{l:List Atr}{n:List UInt8}(a:mS gO l):gp l n=if acj gO l (aj n)=true then(l.getD (je gO l (aj n)) ([],[])).2 else[]:=by
 rw[abH n l a,ZC a (d:=([],[]))]
 grind
theorem ahP{syn:Int}{a:Bool}{l:List (List UInt8)}{v:List UInt8}{vs:List (List UInt8)}(h:dl syn v=none):ig syn a l (v::vs)=([],21):=by rw[ig,h]
theorem ahO{syn:Int}{a:Bool}{l:List (List UInt8)}{v n:List UInt8}{vs:List (List UInt8)}(h:dl syn v=some n):ig syn a l (v::vs)=if inM syn l n=true then([],20)else ig syn a (ju syn v false l) vs:=by rw[ig,h]
theorem aen.frame{L L':List Blk}{b p:Nat}{a c:AV}{ps:List PAt}(h:aen L b p a c ps)(i:∀k,k<L.length->L'[k]?=L[k]?):aen L' b p a c ps:=by
 obtain⟨e,d,g,h4⟩:=h;refine⟨e,d,λq f=>?_,?_⟩
 grind
 grind
theorem ads{α:Type}{l:List α}{c:Nat}{x q:α}(h:q∈l.set c x):q=x\/∃i,i≠c/\l[i]?=some q:=by
 obtain⟨i,a⟩:=aqN.1 h
 grind
theorem alA{ps:List PAt}(h:(ps.map (·.1)).Nodup){i c:Nat}{q a:PAt}(f:ps[i]?=some q)(d:ps[c]?=some a)(b:i≠c):q.1≠a.1:=λe=>by
 rw[List.nodup_iff_pairwise_ne,aqb]at h
 grind
theorem aen.vals{L L' L2:List Blk}{b p:Nat}{m n:AV}{ps:List PAt}{c j:Nat}{u:List (List UInt8)}{rest:List AV}(h:aen L b p m n ps)(C:c<ps.length){l0 d:Nat}(A:L.length<=l0)(t:d=(ps.getD c noP).1)(v:∀k,k<l0->k≠d->L'[k]?=L[k]?\/L.length<=k)(G:j=d\/l0<=j)(D:L'[j]?=some (.cells (u.map AV.str++rest))){r:Nat}{a:List AV}(z:L[p]?=some (.cells [m,n,.lsl r 0 ps.length none 2]))(w:L[r]?=some (.cells (psC ps++a)))(l:b<=r)(f:r≠p)(x:∀q∈ps,q.1≠r)(F:L2=L'.set r (.cells (psC (ps.set c (j,(ps.getD c noP).2.1,u))++a))):aen L2 b p m n (ps.set c (j,(ps.getD c noP).2.1,u)):=by
 obtain⟨g1,E,g3,g4⟩:=h;have g:ps[c]?=some (ps.getD c noP):=by simp[C]
 have s:r<L'.length:=by grind
 refine⟨g1,?_,λq o=>?_,.inr ⟨r,a,?_,?_,l,f,λq o=>?_⟩⟩;rw[List.map_set]
 grind
 rcases ads o with rfl|⟨i,y,e⟩
 grind
 have B:=alA E e g y
 grind
 grind
 simp[*]
 grind
def aki(ts:List Typ):Prop:=ts.length<=1100000/\(∀ty∈ts,bI ty.1)/\∀ty∈ts,gX ts ty.1=some ty
theorem YM{n:List UInt8}{vs:List (List UInt8)}{a:Atr}:∀{d:Bool}{l:List Atr},a∈rV n vs d l->a=(n,vs)\/a∈l
 |d,[],h=>by rw[rV]at h;simp_all
 | d,x::t,h=>by
   rw[rV,ao5,ao5]at h;rcases h with(h|h)|h
   .simp_all
   .simp_all
   .rcases YM h with e|e
    .simp[*]
    simp[*]
theorem abL{n:List UInt8}{vs:List (List UInt8)}:∀{d:Bool}{l:List Atr},(rV n vs d l).length<=l.length+(if d=true then 0 else 1)
 |d,[]=>by rw[rV];split<;>simp
 | d,x::t=>by
   have a:=@abL n vs (d || !decide (aj x.1<aj n)) t;rw[rV]
   grind
theorem ajw{ts:List Typ}{l:List Atr}{a:Atr}{ty:Typ}(h:InA ts l)(b:a∈l)(d:gX ts ty.1=some ty)(e:aj a.1=aj ty.1):a.1=ty.1/\InV ty.2.1 a.2:=by obtain⟨c,f,i,g,h4,j⟩:=h.2 a b;rw[V4 e,d]at f;simp_all
theorem Og{ts:List Typ}{l:List Atr}{a:Atr}(b:aki ts)(h:InA ts l)(c:a∈l):bI a.1/\a.2≠[]:=by obtain⟨d,g,f,e,_⟩:=h.2 a c;exact⟨by rw[<- f];exact b.2.1 _ (Oa g).1,e⟩
theorem aev{l:List Atr}{n:List UInt8}{m:Nat}(h:∀a∈l,a.2.length<=m):(gp l n).length<=m:=by
 induction l with
 |nil=>simp[gp]
 | cons a l ih =>
   rw[gp]
   grind
variable {L:List Blk}{K:aoY}
theorem aea(l:List Atr):aoE l (aJ l):=by exact⟨iH l,λh a=>⟨Ta (l.getD h ([],[])).2,.inl ⟨_,_,_,rfl⟩,jD a⟩⟩
theorem anb{l:List Atr}{cap:Option Nat}{n:List UInt8}(A:l.length<=1100000)(m:mS gO l)(w:∀a∈l,bI a.1/\a.2.length<=1100000)(z:bI n)(h:K (Ta (gp l n)) L):
  aoX 67 [.sl (aJ l) l.length cap,.str n] L K:=by
 obtain⟨c,j⟩:=aoT (je gO l (aj n));obtain⟨u,b⟩:=aoT (acj gO l (aj n));have p:=afL (n:=n) m;rw[b,j]at p;rw[p]at h;have e:∀{K:aoY},K (.tup [.int .i64 c,.bool u]) L->aoX 103 [.sl (aJ l) l.length cap,.str n] L K:=λ{K} q =>
  af4 A (aea l) (.inl ⟨cap,rfl⟩) m z (λa x=>(w a x).1) (by rw[j,b];exact q)
 have kk1:=@hid _ @e;clear e;rcases u with _|_;rw[if_neg asp]at h;replace h:=hid h;refine aoW tN ?_;exact aY (aa h.o);rw[if_pos rfl]at h;have r:=ZC (key:=gO) (k:=aj n) m (d:=([],[]));rw[b,j]at r;have v:c<l.length:=by simpa using((ao3 _ _).mp r.symm).1
 have y:=ad9 v;have s:l.getD c ([],[])∈l:=by simp[v]
 have f:=(w _ s).2;obtain⟨vs,g⟩:=aoT ((l.getD c ([],[])).2);rw[g]at h y f;have D:(c:Int)<(l.length:Int):=aso;have C:c*2+1<(aJ l).length:=by rw[iH];omega
 replace h:=hid h;clear r s g p b j;by_cases t:vs.length=0;obtain rfl:vs=[]:=by simpa using t
 refine ab tN (by simp[i6]) ?_;simp only[i6,ag];have kk2:=@asv _ _ _ _ (ahH (cap:=none));refine wk ?_;exact aY (aa h.o);refine ab tN (by simp[i6]) ?_;simp only[i6,ag];have kk2:=@hid _ (λL K=>aj3 (cap:=none) (L:=L) (K:=K) t f);refine wk ?_;refine EC (i:=L.length) (l:=vs.map AV.str) (by rw[ape (ao0 _),aqq];rfl) ?_;have B:((vs.map AV.str).drop 0).take (vs.length*1)=vs.map AV.str:=by rw[aq4,Nat.mul_one,apA asp]
 simp only[AV.snap,if_true,B];rw[apu _ _ (ao0 _)];refine ac ?_ h.o;simp only[AV.refs,i8]
def ajx(ts:List Typ)(l:List Atr)(n v:List UInt8):Bool:=match gX ts n with
 |none=>false
 | some ty=>match dl ty.2.1 v with
   |none=>false
   |some m=>inM ty.2.1 (gp l n) m
theorem ana{ts:List Typ}{j:Option Nat}{c2:List AV}{F:Nat}{p:Option Nat}{l:List Atr}{cap:Option Nat}{n v:List UInt8}(i:aki ts)(r:InA ts l)(I:l.length<=1100000)(H:∀a∈l,a.2.length<=1100000)(C:bI n)(h:K (.bool (ajx ts l n v)) L):
  aoX 70 [.agg [.sl (cU ts) ts.length j,.sl c2 F p],.sl (aJ l) l.length cap,.str n,.str v] L K:=by
 have z:=r.1;obtain⟨c,s⟩:=aoT (je gO l (aj n));obtain⟨E,g⟩:=aoT (acj gO l (aj n));have u:=afL (n:=n) z;rw[g,s]at u;unfold ajx at h;rw[u]at h;have f:∀(X:List Blk){K:aoY},K (.tup [.int .i64 c,.bool E]) (L++X)->aoX 103 [.sl (aJ l) l.length cap,.str n] (L++X) K:=λX {K} q =>
  af4 I (aea l) (.inl ⟨cap,rfl⟩) z C (λa J=>(Og i r J).1) (by rw[s,g];exact q)
 have e:∀(X:List Blk){K:aoY},K (tB (gX ts n)) (L++X)->aoX 45 [.agg [.sl (cU ts) ts.length j,.sl c2 F p],.str n] (L++X) K:=λX {K} q=>acm i.1 i.2.1 C q
 replace f:=@hid _ @f;replace e:=@hid _ @e;refine aoW Z6 ?_;refine e.o _ ?_;unfold tB;rcases hty:gX ts n with _|ty;rw[hty]at h;replace h:=hid h;simp only[arf,arO,tyC];clear hty u s g;refine asw ?_;refine f.o _ ?_;refine asw ?_;exact ac rfl h.o;rw[hty]at h;simp only at h;simp only[apT,arU,tyC];rcases E with _|_;have A:K (.bool false) L:=by rcases hno:dl ty.2.1 v with _|m;rw[hno]at h;exact h;rw[hno]at h;simpa[inM]using h
 replace A:=hid A;clear u h s g;refine asw ?_;refine f.o _ ?_;refine asw ?_;exact ac rfl A.o;rw[if_pos rfl]at h;have y:=ZC (key:=gO) (k:=aj n) z (d:=([],[]));rw[g,s]at y;have G:c<l.length:=by simpa using((ao3 _ _).mp y.symm).1
 have D:=of_decide_eq_true ((ao3 _ _).mp y.symm).2;have M:=ad9 G;have B:l.getD c ([],[])∈l:=by simp[G]
 have w:=H _ B;have t:InV ty.2.1 (l.getD c ([],[])).2:=by have:=Oa hty;exact(ajw r B (i.2.2 ty this.1) (D.trans this.2.symm)).2
 obtain⟨vs,x⟩:=aoT ((l.getD c ([],[])).2);rw[x]at h M w t;have O:(c:Int)<(l.length:Int):=aso;have N:c*2+1<(aJ l).length:=by rw[iH];omega
 have b:∀(X:List Blk){K:aoY},K (akI ty.2.1 vs v) (L++X)->aoX 111 [.agg [.str ty.1,.int .i64 ty.2.1,.bool ty.2.2.1,.bool ty.2.2.2],Ta vs,.str v] (L++X) K:=λX {K} q=>ajW w (.inl ⟨none,rfl⟩) t.1 q
 replace b:=@hid _ @b;clear y B x u g s D hty;unfold akI at b;rcases hno:dl ty.2.1 v with _|m;rw[hno]at h b;replace h:=hid h;refine asw ?_;refine f.o _ ?_;refine asw ?_;refine aM (b.o _ ⟨rfl,rfl⟩) ?_;refine asw ?_;exact ac rfl h.o;rw[hno]at h b;replace h:=hid h;refine asw ?_;refine f.o _ ?_;refine asw ?_;refine aM (b.o _ ⟨rfl,rfl⟩) ?_;refine asw ?_;exact ac rfl h.o
end Go.Proofs.YtdnfjhflkkpokaaGreatDoor.Av
