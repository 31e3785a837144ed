/- Joined texts of the walk, made small by a program. -/
import Derived.Test.YtdnfjhflkkpokaaGreatDoorFk11
import Derived.Test.YtdnfjhflkkpokaaGreatDoorFk10
import Derived.Test.YtdnfjhflkkpokaaGreatDoorFk4
import Derived.Test.YtdnfjhflkkpokaaGreatDoorRows
import Derived.KernelRfl
set_option linter.unusedSimpArgs false
set_option linter.unusedVariables false
namespace Go.Proofs.YtdnfjhflkkpokaaGreatDoor.Av
open Go
variable {x:aC}{seen:List Nat}{ps:List aC}{cap c:Option Nat}{j rt:Nat}{p:Pth}{dn tn:List Rdn}{k:Int}
set_option maxHeartbeats 8000000
set_option maxRecDepth 100000
theorem agC{nb bn:Int->Nat}:∀{l:List aC}{x:aC},(l.map λx=>bn x.id).Nodup->x∈l->(l.map (gL nb bn)).find? (λe=>Nat.beq e.2.2 (bn x.id))=some (gL nb bn x)
 |[],x,_,h=>by cases h
 | y::l,x,hn,h=>by
   rw[apX,aqI]at hn;rcases apP.1 h with h|h
   .subst h;simp[gL]
   .have hne:bn y.id≠bn x.id:=λe=>hn.1 (apz.2 ⟨x,h,e.symm⟩)
    have a:Nat.beq (bn y.id) (bn x.id)=false:=by
     cases hh:Nat.beq (bn y.id) (bn x.id)with
     |false=>rfl
     |true=>exact absurd (Nat.eq_of_beq_eq_true hh) hne
    simp only[apX,ars];rw[show Nat.beq (gL nb bn y).2.2 (bn x.id)=false from a];exact agC hn.2 h
theorem apf{nb bn:Int->Nat}{l:List aC}{ck:Nat}(a:(l.map λx=>bn x.id).Nodup)(b:x∈l):mat (l.map (gL nb bn)) ck (seen++[bn x.id]) ck=some (gL nb bn x):=by simp only[mat,List.getLast?_append,List.getLast?_singleton,Option.some_or,if_true];exact agC a b
theorem ajv{β:Type}:∀(ps l:List β),ps.Nodup->(∀x∈ps,x∈l)->ps.length<=l.length
 |[],l,_,_=>apv _
 | x::ps,l,hn,hs=>by
   obtain⟨e,c⟩:=aqI.1 hn;obtain⟨a,b,rfl⟩:=List.append_of_mem (hs x asQ);have:=ajv ps (a++b) c λy d=>by
    have:=hs y (by simp[d]);rcases apy.1 this with h|h
    .exact aqH _ h
    .rcases apP.1 h with h|h
     .rw[h]at d;exact absurd d e
     .exact arh _ h
   simp only[apB,apC]at this⊢;omega
structure aaU(bn:Int->Nat)(l:List aC)(ps:List aC)(seen:List Nat):Prop where
 sub:∀x∈ps,x∈l
 nd:ps.Nodup
 eq:seen=ps.map λx=>bn x.id
theorem aaU.nil{bn:Int->Nat}{l:List aC}:aaU bn l [] []:=⟨λ_ h=>absurd h aqq,List.nodup_nil,rfl⟩
theorem aaU.next{bn:Int->Nat}{l:List aC}(h:aaU bn l ps seen)(i:x∈l)(d:seen.contains (bn x.id)=false):aaU bn l (ps++[x]) (seen++[bn x.id]):=by
 refine⟨λy c=>?_,?_,by rw[h.eq];simp⟩;rcases apy.1 c with c|c;exact h.sub y c;rw[apT.1 c];exact i;rw[arR];refine⟨h.nd,asQ,λa g b f e=>?_⟩;rw[apT.1 f]at e;have:bn x.id∈seen:=by rw[h.eq,<- e];exact apz.2 ⟨a,g,rfl⟩
 rw[aqv]at d;simp[this]at d
theorem aaU.all{bn:Int->Nat}{l:List aC}(h:aaU bn l ps seen)(d:l.Nodup)(c:(l.map λx=>bn x.id).Nodup)(f:∀x∈l,seen.contains (bn x.id)=true):ps.Perm l:=by
 refine(List.perm_ext_iff_of_nodup h.nd d).2 λx=>⟨h.sub x,λa=>?_⟩
 have:=f x a;rw[aqv,decide_eq_true_eq,h.eq]at this;obtain⟨y,b,e⟩:=apz.1 this;rw[<- f9 c (h.sub y b) a e];exact b
theorem aaU.len{bn:Int->Nat}{l:List aC}(h:aaU bn l ps seen):ps.length<=l.length:=ajv ps l h.nd h.sub
theorem ao9{bn:Int->Nat}{l:List aC}(a:x∈l)(b:seen.contains (bn x.id)=false):(l.filter λr => !(seen++[bn x.id]).contains (bn r.id)).length<(l.filter λr => !seen.contains (bn r.id)).length:=by
 have e:(l.filter λr => !(seen++[bn x.id]).contains (bn r.id))=(l.filter λr => !seen.contains (bn r.id)).filter (λr=>decide (bn r.id≠bn x.id)):=by
  rw[List.filter_filter];refine List.filter_congr λr _=>?_
  by_cases h:bn r.id=bn x.id<;>simp[h]
 rw[e];refine List.length_filter_lt_length_iff_exists.2 ⟨x,ap8.2 ⟨a,by rw[b];rfl⟩,asQ⟩
theorem TOk.nodup{suf:List Rdn}{last:Int}{l:List aC}(h:TOk suf last l):l.Nodup:=by have a:=h.inv.ids;unfold d8 at a;rw[apS]at a;exact EL a
theorem adD(q:Nat->Bool):∀l:List aC,AV.refsL q (pj l)=true
 |[]=>rfl
 |x::l=>by show(AV.refs q _&&AV.refsL q _)=true;rw[adD q l];rfl
theorem Y9{suf:List Rdn}{last:Int}{l:List aC}(ht:TOk suf last l)(bt:l.length<=1100000){L:List Blk}{iv mn mi:Nat}{nb bn:Int->Nat}{ck ci:Nat}{rs:List TKy}(H:b9 L iv mn mi nb bn ck ci rs suf last l){id s:Int}{K:apr}(h:K (.sl ((scT l id s).map (AV.int .i64)) (scT l id s).length none) L):
  apq 23 [.ptr iv 0,.int .i64 id,.int .i64 s] L K:=by
 have w:=H.v;have hn:=H.n;have bb:iv<L.length:=(aps.1 w).1;have a_:mn<L.length:=(aps.1 hn).1;have av:∀X:List Blk,(L++X)[iv]?=some (.cells [dnA suf,.lmap mn,.lmap mi,.int .i64 last]):=λX=>by rw[apx bb];exact w
 have an:∀X:List Blk,(L++X)[mn]?=some (.map (l.map (gL nb bn)) ck):=λX=>by rw[apx a_];exact hn
 have b5:bT .int (.int .i64 id)=true:=rfl;unfold scT at h;rcases H.node id with⟨e1,e2⟩|⟨a,j,e1,ha,b2,e2,e3⟩;rw[e1]at h;replace h:=hid h;clear H e1 w hn;refine apo fT ?_;refine aY ?_;rw[show(AV.sl [] 0 (some 0)).frz=.sl (([]:List Int).map (AV.int .i64)) ([]:List Int).length none from rfl];exact ac rfl h.o
 .rw[e1]at h;simp only at h;have b0:nb id<L.length:=(aps.1 e3).1;unfold nC at e3;have ad:∀X:List Blk,(L++X)[nb id]?=some (.cells [dnA a.nm,.sl (aG (pth a)) a.nm.length none,atR a.av,.int .i64 (bF (d8 l) (NK a.nm):Nat)]):=λX=>by rw[apx b0];exact e3
  by_cases hs:s<0\/2<s;rw[if_pos hs]at h;replace h:=hid h;clear H e1 w hn e3;by_cases c1:s<0;refine apo fT ?_;refine aY ?_;rw[show(AV.sl [] 0 (some 0)).frz=.sl (([]:List Int).map (AV.int .i64)) ([]:List Int).length none from rfl];exact ac rfl h.o;have c2:2<s:=asP;have c3:s>2:=c2;refine apo fT ?_;refine aY ?_;rw[show(AV.sl [] 0 (some 0)).frz=.sl (([]:List Int).map (AV.int .i64)) ([]:List Int).length none from rfl];exact ac rfl h.o
  .rw[if_neg hs]at h;have c1:¬s<0:=asP;have c2:¬2<s:=asP;have c3:¬s>2:=c2;replace h:=hid h;replace H:=hid H;replace ht:=hid ht;clear w hn e3 hs;refine apo fT ?_;refine aj (λn T' L'=>∃(seen:List Nat) (ps:List aC) (v:AV) (Z:List Blk),n=(l.filter λr => !seen.contains (bn r.id)).length/\Hid (aaU bn l ps seen)/\Hid ((ps.filter (iE a s)=[]/\v=.sl [] 0 (some 0))\/∃m,ps.filter (iE a s)≠[]/\v=.lsl (L.length+2+m) 0 (ps.filter (iE a s)).length none 1/\Z[m]?=some (.cells (pj (ps.filter (iE a s)))))/\T'=[(44,.ptr (L.length+1) 0),(8,v),(7,.sl (aG (pth a)) a.nm.length none),(3,.ptr L.length 0),(0,.ptr iv 0),(1,.int .i64 id),(2,.int .i64 s)]/\L'=L++([.cells [.ptr iv 0],.miter (some mn) ck seen ck]++Z)) asT ⟨[],[],_,[],rfl,hid aaU.nil,hid (.inl ⟨rfl,rfl⟩),rfl,rfl⟩ ?_;rintro _ _ _ ⟨seen,ps,v,Z,rfl,E,w,rfl,rfl⟩;have i1:∀(a b:Blk) (Z:List Blk),(L++([a,b]++Z))[L.length+1]?=some b:=λa b Z=>by rw[apH asP];simp
   have i3:∀(a b c:Blk) (Z:List Blk),(L++([a,b]++Z)).set (L.length+1) c=L++([a,c]++Z):=λa b c Z=>by rw[apW _ _ asP,show L.length+1-L.length=1 by omega];rfl
   refine bG ?_;refine amC (i:=L.length+1) (j:=mn) (es:=l.map (gL nb bn)) asR rfl (i1 _ _ _) (an _) (λe he=>?_) (apt _) (λap=>?_) (λe he hs=>?_);obtain⟨p,hp,rfl⟩:=apz.1 he;exact H.o.blt p hp;have P:=E.o.all ht.o.nodup H.o.bnd λx I=>ap (gL nb bn x) (apz.2 ⟨x,I,rfl⟩)
   have N:=ht.o.srt a s (P.filter (iE a s));have y:=apR (aqL (iE a s) ps) E.o.len;have G:∀x∈ps.filter (iE a s),x∈l:=λx I=>E.o.sub x (ap8.1 I).1
   obtain⟨z,A⟩:=apl (ps.filter (iE a s));have bi:=w.o;rw[A]at bi N y G;rw[<- N]at h;replace G:=hid G;replace y:=hid y;clear ap P N E w A;refine sk ?_;rcases bi with⟨rfl,rfl⟩|⟨m,T,rfl,Q⟩;have kk1:Hid (∀{cap:Option Nat}{fv:AV}{L:List Blk}{K:apr},K (.tup []) L->apq 55 [.sl [] 0 cap,fv] L K):=@hid _ (by intro cap fv L K q;exact aiU q);clear G y;refine wk ?_;refine aY ?_;have h':=h.o;rw[List.mergeSort_nil]at h';exact ac rfl h';have al:∀(b c:Blk),(L++b::c::Z)[L.length+2+m]?=some (.cells (pj z)):=λb c=>by rw[apH asP,show L.length+2+m-L.length=m+1+1 by omega];simpa using Q
   have a7:∀(b c d:Blk),(L++b::c::Z).set (L.length+2+m) d=L++b::c::Z.set m d:=λb c d=>by rw[apW _ _ asP,show L.length+2+m-L.length=m+1+1 by omega];rfl
   have hm:m<Z.length:=(aps.1 Q).1;obtain⟨S,ai⟩:=apl (z.mergeSort leE);have bx:S.length=z.length:=(by rw[<- ai,asw]);have kk1:Hid (∀{K:apr},K (.tup []) (L ++ .cells [.ptr iv 0] :: .miter (some mn) ck seen ck::Z.set m (.cells (pj S)))->apq 55 [.lsl (L.length+2+m) 0 z.length none 1,.func 56 [.ptr L.length 0]] (L ++ .cells [.ptr iv 0] :: .miter (some mn) ck seen ck::Z) K):=@hid _ (by intro K q;refine alf ht.o G.o T (apR y.o bt) (H.o.app _) (al _ _) (by rw[apH (apt _)];simp) ?_;rw[a7,ai];exact q)
   rw[ai]at h;have e4:(S.map λx=>x.id).map (AV.int .i64)=pj S:=(by rw[apS];rfl);rw[e4,apQ]at h;clear G y T ai a7 al Q;refine wk ?_;refine EE (i:=L.length+2+m) (l:=pj S) ?_ ?_;rw[apH asP,show L.length+2+m-L.length=m+1+1 by omega];simp[hm];rw[show(AV.lsl (L.length+2+m) 0 z.length none 1).snap (L.length+2+m) (pj S)=.sl (pj S) S.length none from by simp[AV.snap,<- bx,ap2],apW _ _ asP];refine ac ?_ h.o;simp only[AV.refs];exact adD _ S
   .obtain⟨x,I,rfl⟩:=apz.1 he;clear he;have a0:seen.contains (bn x.id)=false:=hs;have B:=hid (ao9 I a0);have t:=hid (E.o.next I a0);have a':=apf (nb:=nb) (ck:=ck) (seen:=seen) H.o.bnd I;have U:=H.o.nd x I;have bs:nb x.id<L.length:=(aps.1 U).1;unfold nC at U;have ar:∀X:List Blk,(L++X)[nb x.id]?=some (.cells [dnA x.nm,.sl (aG (pth x)) x.nm.length none,atR x.av,.int .i64 (bF (d8 l) (NK x.nm):Nat)]):=λX=>by rw[apx bs];exact U
    have f:=ajT ht.o ha I s;have O:(pth x).length=x.nm.length:=(by simp[pth,bD]);have a6:(pth a).length=a.nm.length:=(by simp[pth,bD]);have M:(ps++[x]).filter (iE a s)=ps.filter (iE a s)++(if iE a s x=true then[x]else[]):=by rw[asv];congr 1;by_cases c:iE a s x=true<;>simp[c]
    have a9:=(ht.o.ok x I).len;have a8:=(ht.o.ok a ha).len;have y:=apR (aqL (iE a s) ps) E.o.len;rw[O,a6]at f;simp only[gL]at *;clear hs a0 E;simp only[i3];have w1:IntKind.i64.wrap ((x.nm.length:Int)-(a.nm.length:Int))=(x.nm.length:Int)-(a.nm.length:Int):=ae asP asP;have kE:Hid (∀{ca cb:Option Nat}{L:List Blk}{K:apr},a.nm.length<=x.nm.length->K (.bool (decide (List.take a.nm.length (pth x)=pth a))) L->apq 54 [.sl (List.take a.nm.length (aG (pth x))) a.nm.length ca,.sl (aG (pth a)) a.nm.length cb] L K):=@hid _ (by intro ca cb L K b4 q;rw[<- asb];exact aow (a:=(pth x).take a.nm.length) (b:=pth a) (by rw[aqK,O];omega) a6.symm (by rw[aqK,O];omega) q)
    obtain⟨u,hu⟩:=apl (decide (List.take a.nm.length (pth x)=pth a));rw[hu]at kE f;obtain⟨xi,J⟩:=apl (x.id);have D:iE a s x=true->(ps++[x]).filter (iE a s)=ps.filter (iE a s)++[x]:=λe=>by rw[M,if_pos e]
    have a2:iE a s x=false->(ps++[x]).filter (iE a s)=ps.filter (iE a s):=λe=>by rw[M,if_neg (by rw[e];decide)];simp
    obtain⟨z,A⟩:=apl (ps.filter (iE a s));rw[A]at w D a2 y;obtain⟨nx,W⟩:=apl (x.nm.length);obtain⟨na,R⟩:=apl (a.nm.length);rw[J]at a' ar;rw[W,R]at kE f w1;rw[W]at ar a9;rw[R]at ad a8;obtain⟨xp,a1⟩:=apl (aG (pth x));rw[a1]at kE ar;have b3:xp.length=nx:=(by rw[<- a1,apQ,O,W]);have out:iE a s x=false->Hid ((z=[]/\v=.sl [] 0 (some 0))\/∃m,z≠[]/\v=.lsl (L.length+2+m) 0 z.length none 1/\Z[m]?=some (.cells (pj z)))->Hid (((ps++[x]).filter (iE a s)=[]/\v=.sl [] 0 (some 0))\/∃m,(ps++[x]).filter (iE a s)≠[]/\v=.lsl (L.length+2+m) 0 ((ps++[x]).filter (iE a s)).length none 1/\Z[m]?=some (.cells (pj ((ps++[x]).filter (iE a s))))):=λe w=>by rw[a2 e];exact w
    rw[R,J];rw[J]at B t;have g:=λ(e:iE a s x=false)=>out e w
    clear out;replace g:=hid g;replace f:=hid f;have F:=hid (show pj [x]=[.int .i64 xi]from by rw[<- J];rfl);clear M U I a2 O a6 J W R hu a1 A ha b2 e1;by_cases d1:na<=nx;rotate_left;have g1:¬(0:Int)<=(nx:Int)-(na:Int):=asP;have g2:¬(nx:Int)-(na:Int)≥0:=g1;have out:=g.o (by rw[f.o,decide_eq_false g1];rfl);clear kE f g w D;refine asX ?_;refine asU B.o asT ⟨_,ps++[x],_,_,rfl,hid t.o,out.o,rfl,rfl⟩;have kk1:=@hid _ (λ{ca cb:Option Nat}{L:List Blk}{K:apr}=>kE.o (ca:=ca) (cb:=cb) (L:=L) (K:=K) d1);have g1:(0:Int)<=(nx:Int)-(na:Int):=asP;have g2:(nx:Int)-(na:Int)≥0:=g1;have g3:(na:Int)<=(nx:Int):=asP;have f:=f.o;rw[decide_eq_true g1,ap0]at f;replace f:=hid f;clear kE;cases u with
    | false =>
      have out:=g.o (by rw[f.o];rfl);clear f g w D;refine asX ?_;refine asU B.o asT ⟨_,ps++[x],_,_,rfl,hid t.o,out.o,rfl,rfl⟩
    | true =>
      have f:=f.o;rw[ap0]at f;replace f:=hid f;by_cases d2:s=2
      .subst d2;have k:=hid (D (by rw[f.o];rfl));clear f g D;rcases w.o with⟨A,rfl⟩|⟨m,T,rfl,Q⟩
       .subst A;clear w;refine asX ?_;refine asU B.o asT ⟨_,ps++[x],_,Z++[.cells [.int .i64 xi]],rfl,hid t.o,hid (.inr ⟨Z.length,by rw[k.o];simp,?_,by rw[k.o,apZ,F.o];simp⟩),rfl,asQ⟩;rw[k.o,show L.length+(Z.length+1+1)=L.length+2+Z.length by omega];rfl
       .have hm:m<Z.length:=(aps.1 Q).1;have a5:∀(a b:Blk),(L++a::b::Z)[L.length+2+m]?=some (.cells (pj z)):=λa b=>by rw[apH asP,show L.length+2+m-L.length=m+1+1 by omega];simpa using Q
        have bl:∀(a b:Blk),(L++a::b::Z).set (L.length+2+m) .dead=L++a::b::Z.set m .dead:=λa b=>by rw[apW _ _ asP,show L.length+2+m-L.length=m+1+1 by omega];rfl
        obtain⟨C,Y⟩:=apl (pj z);obtain⟨d,V⟩:=apl (z.length);have bk:C.length=d:=(by rw[<- Y,apQ,V]);have bo:List.take d C=C:=ap2 asP;have b1:d<=1100000:=asP;rw[Y]at a5;rw[V];have a4:=hid Y;have a3:=hid V;clear w Q Y V y;refine asX ?_;refine asU B.o asT ⟨_,ps++[x],_,Z.set m .dead++[.cells (C++[.int .i64 xi])],rfl,hid t.o,hid (.inr ⟨Z.length,by rw[k.o];simp,?_,by rw[k.o,show pj (z++[x])=pj z++pj [x]from ap1,a4.o,F.o,apH asQ];simp⟩),rfl,asQ⟩;rw[k.o,show L.length+(Z.length+1+1)=L.length+2+Z.length by omega,apB,a3.o];rfl
      .by_cases d3:(nx:Int)-(na:Int)=s
       .have k:=hid (D (by rw[f.o];rw[decide_eq_true d3,ar1]));subst d3;clear f g D;rcases w.o with⟨A,rfl⟩|⟨m,T,rfl,Q⟩
        .subst A;clear w;refine asX ?_;refine asU B.o asT ⟨_,ps++[x],_,Z++[.cells [.int .i64 xi]],rfl,hid t.o,hid (.inr ⟨Z.length,by rw[k.o];simp,?_,by rw[k.o,apZ,F.o];simp⟩),rfl,asQ⟩;rw[k.o,show L.length+(Z.length+1+1)=L.length+2+Z.length by omega];rfl
        .have hm:m<Z.length:=(aps.1 Q).1;have a5:∀(a b:Blk),(L++a::b::Z)[L.length+2+m]?=some (.cells (pj z)):=λa b=>by rw[apH asP,show L.length+2+m-L.length=m+1+1 by omega];simpa using Q
         have bl:∀(a b:Blk),(L++a::b::Z).set (L.length+2+m) .dead=L++a::b::Z.set m .dead:=λa b=>by rw[apW _ _ asP,show L.length+2+m-L.length=m+1+1 by omega];rfl
         obtain⟨C,Y⟩:=apl (pj z);obtain⟨d,V⟩:=apl (z.length);have bk:C.length=d:=(by rw[<- Y,apQ,V]);have bo:List.take d C=C:=ap2 asP;have b1:d<=1100000:=asP;rw[Y]at a5;rw[V];have a4:=hid Y;have a3:=hid V;clear w Q Y V y;refine asX ?_;refine asU B.o asT ⟨_,ps++[x],_,Z.set m .dead++[.cells (C++[.int .i64 xi])],rfl,hid t.o,hid (.inr ⟨Z.length,by rw[k.o];simp,?_,by rw[k.o,show pj (z++[x])=pj z++pj [x]from ap1,a4.o,F.o,apH asQ];simp⟩),rfl,asQ⟩;rw[k.o,show L.length+(Z.length+1+1)=L.length+2+Z.length by omega,apB,a3.o];rfl
       .have out:=g.o (by rw[f.o,decide_eq_false d2,decide_eq_false d3];rfl);clear f g w D;refine asX ?_;refine asU B.o asT ⟨_,ps++[x],_,_,rfl,hid t.o,out.o,rfl,rfl⟩
variable {L:List Blk}{K:apr}
theorem aoK{rows:List AV}{i:Nat}(P:rows.length<=1100000){Inv:Nat->List Blk->List Blk->Prop}{L:List Blk}{K:apr}(t:∀k A Z,Inv k A Z->A.length=L.length/\A[j]?=some (.cells [.sl rows rows.length cap]))(C:Inv rows.length L [])(M:∀k A Z X (Q:AV->List Blk->Prop),k<rows.length->X.length=3->Inv (k+1) A Z->(∀v B,Inv k v B->Q (.bool true) (v++(X++B)))->abi Tryz.prog i [rows.getD k .undef] (A++(X++Z)) Q)(H:∀A Z,Inv 0 A Z->∀X,X.length=3->Fin L (.tup []) (A++(X++Z)) K):
  apq 184 [.yld i,.ptr j 0] L K:=by
 have E:=(t _ _ _ C).2;have F:j<L.length:=(aps.1 E).1;have I:∀x:Blk,(L++[x])[j]?=some (.cells [.sl rows rows.length cap]):=λx=>by rw[apx F];exact E
 have kk1:Hid (∀{L:List Blk}{K:apr},K (.func 209 [.ptr L.length 0]) (L++[.cells [.sl rows rows.length cap]])->apq 185 [.sl rows rows.length cap] L K):=@hid _ (by intro L K q;exact aoN q);replace t:=hid t;replace C:=hid C;replace M:=hid M;replace H:=hid H;refine apo Oi ?_;refine Xp (f:=209) (caps:=[.ptr (L.length+1) 0]) (λargs w=>rfl) rfl (λfn ca cb u p r s n=>?_);have D:∀(A:List Blk) (d:A.length=L.length) (a b c x y:Blk) (Z:List Blk),(A++([a,b,c]++Z))[(L++[x,y]).length]?=some c:=λA d a b c x y Z=>by rw[apH (by simp[d])];simp[d]
 have m:∀(A:List Blk) (d:A.length=L.length) (a b c c' x y:Blk) (Z:List Blk),(A++([a,b,c]++Z)).set (L++[x,y]).length c'=A++([a,b,c']++Z):=λA d a b c c' x y Z=>by rw[apW _ _ (by simp[d]),show(L++[x,y]).length-A.length=2 by simp[d]];rfl
 refine amm (rows:=rows) (cap:=cap) P (Inv:=λk L'=>∃A Z,L'=A++([.cells [.yld i],.cells [.sl rows rows.length cap],.lrec [(6,.func 209 [.ptr (L.length+1) 0]),(2,.ptr L.length 0),(0,.yld i),(1,.ptr j 0)] 13 fn [7,8] ca cb false]++Z)/\Inv k A Z) ?_ ?_ ?_ ?_;rintro k L' ⟨A,Z,rfl,h⟩;have d:=(t.o _ _ _ h).1;refine⟨?_,by simp[d]⟩;rw[apH asP,d];simp;exact⟨L,[],asQ,C.o⟩;rintro k L' Q N ⟨A,Z,rfl,h⟩ J;have d:=(t.o _ _ _ h).1;refine adc (D A d _ _ _ _ _ _) u p r s rfl n ?_;simp only[Ss];replace J:=hid J;replace h:=hid h;have e:∀(A:List Blk) (d:A.length=L.length) (a b c c':Blk) (Z:List Blk),(A++a::b::c::Z).set (L.length+2) c'=A++a::b::c'::Z:=λA d a b c c' Z=>by rw[apW _ _ asP,show L.length+2-A.length=2 by omega];rfl
 have g:∀(A:List Blk) (d:A.length=L.length) (a b c:Blk) (Z:List Blk),(A++a::b::c::Z)[L.length+2]?=some c:=λA d a b c Z=>by rw[apH asP,show L.length+2-A.length=2 by omega];rfl
 have G:∀(a:Blk) (Z:List Blk),(A++a::Z)[L.length]?=some a:=λa Z=>by rw[apH asP,show L.length-A.length=0 by omega];rfl
 replace e:=hid e;replace g:=hid g;clear u p r s n kk1 D m E I;refine wk ?_;refine⟨g.o _ d _ _ _ _,?_⟩;rw[e.o _ d];refine wk ?_;rw[aaV];refine M.o k A Z [.cells [.yld i],.cells [.sl rows rows.length cap],.lrec [(6,.func 209 [.ptr (L.length+1) 0]),(2,.ptr L.length 0),(0,.yld i),(1,.ptr j 0)] 13 fn [7,8] ca cb true] _ N rfl h.o λv B l=>?_
 have z:=(t.o _ _ _ l).1;have O:∀(a:Blk) (Z:List Blk),(v++a::Z)[L.length]?=some a:=λa Z=>by rw[apH asP,show L.length-v.length=0 by omega];rfl
 replace l:=hid l;clear G h d;refine asX ?_;refine⟨rfl,g.o _ z _ _ _ _,?_⟩;rw[e.o _ z];exact J.o _ ⟨v,B,rfl,l.o⟩;rintro L' ⟨A,Z,rfl,h⟩;have d:=(t.o _ _ _ h).1;refine aa ⟨D A d _ _ _ _ _ _,?_⟩;rw[m A d];clear D m u p r s n kk1;exact⟨.inl rfl,True,[],rfl,trivial,H.o A Z h _ rfl⟩
theorem adB{k:Nat}(a:k<p.length):p.reverse.take (p.length-k)=p.reverse.take (p.length-(k+1))++[p.getD k []]:=by rw[show p.length-k=p.length-(k+1)+1 by omega,apK (by rw[aqM];omega)];congr 2;rw[List.getElem_reverse];simp only[apO];rw[apD a];simp only[aql];congr 1;omega
theorem aoT(hn:p.length<=1000){L:List Blk}(J:L[j]?=some (.cells [.sl (aG p) p.length cap])){K:apr}(h:K (.sl (aG p.reverse) p.length none) L):
  apq 183 [.sl [] 0 (some 0),.func 184 [.ptr j 0]] L K:=by
 replace h:=hid h;have P:j<L.length:=(aps.1 J).1;refine apo jA ?_;refine Xp (f:=184) (caps:=[.ptr j 0]) (λargs w=>rfl) rfl (λfn ca cb D y z B r=>?_);have M:∀(a c x:Blk) (Z:List Blk),(L++[a,c]++Z)[(L++[x]).length]?=some c:=λa c x Z=>by rw[apG,apH asQ];simp
 refine aoK (rows:=aG p) (cap:=cap) (by simp;omega) (Inv:=λk A Z=>∃v:AV,A=L++[.cells [v],.lrec [(6,.func 184 [.ptr j 0]),(4,.sl [] 0 (some 0)),(2,.ptr L.length 0),(0,.sl [] 0 (some 0)),(1,.func 184 [.ptr j 0])] 13 fn [7] ca cb false]/\((k=p.length/\v=.sl [] 0 (some 0))\/∃m,v=.lsl (L.length+5+m) 0 (p.length-k) none 1/\Z[m]?=some (.cells (aG (p.reverse.take (p.length-k)))))) ?_ ?_ ?_ ?_;rintro k A Z ⟨v,rfl,_⟩;refine⟨asQ,?_⟩;rw[apx P];simpa using J;exact⟨_,asQ,.inl ⟨asQ,rfl⟩⟩;rintro k A Z X Q O I ⟨v,rfl,R⟩ N;rw[apQ]at O;obtain⟨Y,x1,x2,rfl⟩:∃a b c,X=[a,b,c]:=by
  match X,I with
  |[a,b,c],_=>exact⟨a,b,c,rfl⟩
 obtain⟨s,S⟩:=apl (p.getD k []);have T:(aG p).getD k .undef=.str s:=by rw[<- S];simp[O]
 have q:=adB O;rw[S]at q;rw[T];refine adc (M _ _ _ _) D y z B rfl r ?_;simp only[Ss];replace N:=hid N;replace q:=hid q;clear S T D y z B r M h J;have g:∀(a c c':Blk) (Z:List Blk),(L++a::c::Z).set (L.length+1) c'=L++([a,c']++Z):=λa c c' Z=>by rw[apW _ _ asP,show L.length+1-L.length=1 by omega];rfl
 have n:∀(a c:Blk) (Z:List Blk),(L++a::c::Z)[L.length+1]?=some c:=λa c Z=>by rw[apH asP,show L.length+1-L.length=1 by omega];rfl
 replace g:=hid g;replace n:=hid n;rcases R with⟨ai,rfl⟩|⟨m,rfl,u⟩;refine wk ?_;refine⟨rfl,n.o _ _ _,?_⟩;rw[g.o];have:=N.o _ (Z++[.cells [.str s]]) ⟨_,rfl,.inr ⟨Z.length,rfl,by rw[q.o,show p.length-(k+1)=0 by omega];simp⟩⟩;rw[show L.length+(Z.length+1+1+1+1+1)=L.length+5+Z.length by omega];rw[show p.length-k=1 by omega]at this;rw[apG]at this;exact this;obtain⟨d,hd⟩:=apl (p.length-(k+1));obtain⟨C,t⟩:=apl (aG (p.reverse.take (p.length-(k+1))));have F:C.length=d:=by rw[<- t,apQ,aqK,aqM];omega
 have W:List.take d C=C:=ap2 asP;rw[t]at u;rw[hd];have hm:m<Z.length:=(aps.1 u).1;have G:∀(a b c e f:Blk),(L++a::b::c::e::f::Z)[L.length+5+m]?=some (.cells C):=λa b c e f=>by rw[apH asP,show L.length+5+m-L.length=m+1+1+1+1+1 by omega];simpa using u
 have ad:d<=1000:=asP;have V:∀(a b c e f:Blk),(L++a::b::c::e::f::Z).set (L.length+5+m) .dead=L++a::b::c::e::f::Z.set m .dead:=λa b c e f=>by rw[apW _ _ asP,show L.length+5+m-L.length=m+1+1+1+1+1 by omega];rfl
 refine wk ?_;refine⟨rfl,n.o _ _ _,?_⟩;rw[g.o];have:=N.o _ (Z.set m .dead++[.cells (C++[.str s])]) ⟨_,rfl,.inr ⟨Z.length,rfl,by rw[q.o,<- t,apH asQ];simp⟩⟩;rw[show L.length+(Z.length+1+1+1+1+1)=L.length+5+Z.length by omega];rw[show p.length-k=d+1 by omega]at this;rw[apG]at this;exact this;rintro A Z ⟨v,rfl,R⟩ X I;obtain⟨Y,x1,x2,rfl⟩:∃a b c,X=[a,b,c]:=by
  match X,I with
  |[a,b,c],_=>exact⟨a,b,c,rfl⟩
 have E:∀(a c c' x:Blk) (Z:List Blk),(L++[a,c]++Z).set (L++[x]).length c'=L++a::c'::Z:=λa c c' x Z=>by rw[apG,apW _ _ asQ,show(L++[x]).length-L.length=1 by simp];rfl
 refine aa ⟨M _ _ _ _,?_⟩;rw[E];clear E M D y z B r I J;rcases R with⟨U,rfl⟩|⟨m,rfl,u⟩;have H:p=[]:=aqc.1 U.symm;subst H;clear U hn;refine wk ?_;refine aY ?_;rw[show(AV.sl [] 0 (some 0)).frz=.sl (aG ([]:Pth).reverse) ([]:Pth).length none from rfl];exact ac rfl h.o;rw[aru,ap2 (by rw[aqM];omega)]at u;rw[aru];obtain⟨C,t⟩:=apl (aG p.reverse);have F:C.length=p.length:=by rw[<- t,apQ,aqM]
 rw[t]at u h;have G:∀(a b c e f:Blk),(L++a::b::c::e::f::Z)[L.length+5+m]?=some (.cells C):=λa b c e f=>by rw[apH asP,show L.length+5+m-L.length=m+1+1+1+1+1 by omega];simpa using u
 refine wk ?_;refine EE (i:=L.length+5+m) (l:=C) (G _ _ _ _ _) ?_;rw[show(AV.lsl (L.length+5+m) 0 p.length none 1).snap (L.length+5+m) C=.sl C p.length none from by simp[AV.snap,<- F],apW _ _ asP];exact ac (by rw[<- t];simp only[AV.refs];exact jb _ _) h.o
theorem anK(a:p.length<=1000){L:List Blk}(b:L[j]?=some (.cells [.sl (aG p) p.length cap])){K:apr}(h:K (.sl (aG p.reverse) p.length none) L):
  apq 127 [.func 184 [.ptr j 0]] L K:=by
 have kk1:Hid (∀{K:apr},K (.sl (aG p.reverse) p.length none) L->apq 183 [.sl [] 0 (some 0),.func 184 [.ptr j 0]] L K):=@hid _ (by intro K q;exact aoT a b q);replace h:=hid h;refine apo tz ?_;exact aa h.o
theorem aoJ{rows:List AV}{n:Nat}(h:K (.func 184 [.ptr L.length 0]) (L++[.cells [.sl rows n cap]])):
  apq 128 [.sl rows n cap] L K:=by
 replace h:=hid h;refine apo SX ?_;exact aa h.o
theorem alV{d:List Rdn}(j:OkD d)(h:K (.str (bp true d)) L):
  apq 126 [.sl (aG (NK d)) d.length cap,.str [44]] L K:=by
 obtain⟨k,g⟩:=Zw j;have c:∀r∈d,(dy true r).length<=200000:=λr i=>TF (g r i).1 (λa f=>((g r i).2 a f).1) (λa f=>((g r i).2 a f).2)
 have b:=Tz asP c;have e:bp true d=Lib.join (NK d) [44]:=rfl;rw[e]at h b;rw[show d.length=(NK d).length from(bD d).symm];exact V4 (by rw[bD];omega) asP h
theorem aiI{L:List Blk}{it iv mn mi nb:Nat}{s lst a0 a2 a3:AV}{es:List (AV×AV×Nat)}{rs:List TKy}{ck ci U:Nat}{l1:List AV}{R:Option Nat}{id:Int}{d:List Rdn}(v:OkD d)(g:L[it]?=some (.cells [.ptr iv 0]))(f:L[iv]?=some (.cells [s,.lmap mn,.lmap mi,lst]))(l:L[mn]?=some (.map es ck))(W:dH (.int .i64 id) es 0=some (some (j,.ptr nb 0)))(a:L[nb]?=some (.cells [a0,.sl l1 U R,a2,a3]))(i:L[mi]?=some (.map (rs.map kyA) ci))(I:dH (.str (bp true d)) (rs.map kyA) 0=some none){K:apr}(h:K (.tup []) ((L.set nb (.cells [dnA d,.sl (aG (NK d).reverse) d.length none,a2,a3])).set mi (.map ((rs++[(bp true d,id,ci)]).map kyA) (ci+1))++[.cells [.sl (aG (NK d).reverse) d.length none]])):
  apq 79 [.ptr it 0,.int .i64 id,.sl (d.map aq) d.length cap] L K:=by
 have J:bT .int (.int .i64 id)=true:=rfl;have F:=v.len;have C:nb≠iv:=λe=>by rw[e,f]at a;simp at a
 have x:nb≠it:=λe=>by rw[e,g]at a;simp at a
 have S:nb≠mn:=λe=>by rw[e,l]at a;simp at a
 have w:nb≠mi:=λe=>by rw[e,i]at a;simp at a
 have D:nb<L.length:=(aps.1 a).1;have B:∀b,(L.set nb b)[it]?=some (.cells [.ptr iv 0]):=λb=>by rw[apM x];exact g
 have y:∀b,(L.set nb b)[iv]?=some (.cells [s,.lmap mn,.lmap mi,lst]):=λb=>by rw[apM C];exact f
 have E:∀b,(L.set nb b)[mi]?=some (.map (rs.map kyA) ci):=λb=>by rw[apM w];exact i
 have V:∀b,(L.set nb b)[nb]?=some b:=λb=>by simp[D]
 have T:∀b c,(L.set nb b).set nb c=L.set nb c:=λb c=>List.set_set ..
 have kk1:Hid (∀{L:List Blk}{c:Option Nat}{K:apr},K (dnA d) L->apq 59 [.sl (d.map aq) d.length cap,.sl [] 0 c] L K):=@hid _ (by intro L c K q;exact acF v.m.b.1 v.m.b.2 q);have kk2:Hid (Ctr Tryz.prog 125 [.sl (d.map aq) d.length cap] (.sl (aG (NK d).reverse) d.length none)):=@hid _ (by intro L K q;exact ank v q);replace h:=hid h;refine apo SY ?_;have A:iv<L.length:=(aps.1 f).1;have z:it<L.length:=(aps.1 g).1;have u:mi<L.length:=(aps.1 i).1;have O:∀b X,(L.set nb b++[X])[it]?=some (.cells [.ptr iv 0]):=λb X=>by rw[apx (by simpa using z)];exact B b
 have N:∀b X,(L.set nb b++[X])[iv]?=some (.cells [s,.lmap mn,.lmap mi,lst]):=λb X=>by rw[apx (by simpa using A)];exact y b
 have Q:∀b X,(L.set nb b++[X])[mi]?=some (.map (rs.map kyA) ci):=λb X=>by rw[apx (by simpa using u)];exact E b
 have P:∀b X Y,(L.set nb b++[X]).set mi Y=(L.set nb b).set mi Y++[X]:=λb X Y=>by rw[aqB _ _ (by simpa using u)]
 have kk3:Hid (∀{K:apr},K (.sl (aG (NK d)) d.length none) ((L.set nb (.cells [dnA d,.sl (aG (NK d).reverse) d.length none,a2,a3]))++[.cells [.sl (aG (NK d).reverse) d.length none]])->apq 127 [.func 184 [.ptr (L.set nb (.cells [dnA d,.sl (aG (NK d).reverse) d.length none,a2,a3])).length 0]] ((L.set nb (.cells [dnA d,.sl (aG (NK d).reverse) d.length none,a2,a3]))++[.cells [.sl (aG (NK d).reverse) d.length none]]) K):=@hid _ (by intro K q;have H:(NK d).reverse.length=d.length:=(by rw[aqM,bD]);have:=anK (p:=(NK d).reverse) (cap:=none) (j:=(L.set nb (.cells [dnA d,.sl (aG (NK d).reverse) d.length none,a2,a3])).length) (L:=(L.set nb (.cells [dnA d,.sl (aG (NK d).reverse) d.length none,a2,a3]))++[.cells [.sl (aG (NK d).reverse) d.length none]]) asP (by rw[apH (apt _),H];simp) (K:=K);rw[List.reverse_reverse,H]at this;exact this q)
 have kk4:Hid (Ctr Tryz.prog 126 [.sl (aG (NK d)) d.length none,.str [44]] (.str (bp true d))):=@hid _ (by intro L K q;exact alV v q);have n:bT .str (.str (bp true d))=true:=rfl;obtain⟨G,r⟩:=apl (bp true d);rw[r]at kk4 I n h;obtain⟨M,t⟩:=apl (aG (NK d).reverse);rw[t]at kk3 h⊢;have k:(rs++[(G,id,ci)]).map kyA=rs.map kyA++[(.str G,.int .i64 id,ci)]:=by rw[ap1];rfl
 rw[k]at h;clear kk1 kk2 g f l W a i r t k;refine⟨_,_,(show apq 128 [.sl M d.length none] _ _ from aoJ ⟨rfl,rfl⟩),?_⟩;refine asX ?_;exact⟨.inl rfl,True,[],rfl,trivial,aa h.o⟩
def dJ(kd:Int->Int)(x:aC):List AV:=[dnA x.nm,.sl (aG (pth x)) x.nm.length none,atR x.av,.int .i64 (kd x.id)]
structure bY(L:List Blk)(iv mn mi:Nat)(nb bn:Int->Nat)(ck ci:Nat)(rs:List TKy)(suf:List Rdn)(last:Int)(l lk:List aC)(kd:Int->Int):Prop where
 v:L[iv]?=some (.cells [dnA suf,.lmap mn,.lmap mi,.int .i64 last])
 n:L[mn]?=some (.map (l.map (gL nb bn)) ck)
 i:L[mi]?=some (.map (rs.map kyA) ci)
 nd:∀x∈l,L[nb x.id]?=some (.cells (dJ kd x))
 inj:∀x∈l,∀y∈l,nb x.id=nb y.id->x.id=y.id
 keys:(rs.map (·.1)).Nodup
 mem:∀k id,(∃b,(k,id,b)∈rs)↔∃x∈lk,bp true x.nm=k/\x.id=id
 bnd:(l.map λx=>bn x.id).Nodup
 blt:∀x∈l,bn x.id<ck
theorem TOk.kidsE{suf:List Rdn}{last:Int}{l:List aC}(h:TOk suf last l)(a:x∈l):iQ l x.id=bF (d8 l) (NK x.nm):=by unfold iQ;rw[h.ent a]
theorem b9.toK{L:List Blk}{iv mn mi:Nat}{nb bn:Int->Nat}{ck ci:Nat}{rs:List TKy}{suf:List Rdn}{last:Int}{l:List aC}(h:b9 L iv mn mi nb bn ck ci rs suf last l)(k:TOk suf last l):bY L iv mn mi nb bn ck ci rs suf last l l (λid=>(iQ l id:Nat)):=by
 have nd:∀x∈l,L[nb x.id]?=some (.cells (dJ (λid=>(iQ l id:Nat)) x)):=λx c=>by rw[h.nd x c];unfold nC dJ;dsimp only;rw[k.kidsE c]
 refine⟨h.v,h.n,h.i,nd,λx c y j e=>?_,h.keys,h.mem,h.bnd,h.blt⟩;have d:=h.nd x c;have m:=h.nd y j;rw[e,m]at d;have f:nC l y=nC l x:=by injection d with d;injection d
 unfold nC at f;simp only[List.cons.injEq,AV.sl.injEq]at f;have h4:aG (pth y)=aG (pth x):=f.2.1.1;have o:pth y=pth x:=(List.map_inj_right λa b g=>by injection g).1 h4;rw[k.byN j c (acq o)]
theorem bY.toT{L:List Blk}{iv mn mi:Nat}{nb bn:Int->Nat}{ck ci:Nat}{rs:List TKy}{suf:List Rdn}{last:Int}{l:List aC}{kd:Int->Int}(h:bY L iv mn mi nb bn ck ci rs suf last l l kd)(b:∀x∈l,kd x.id=(bF (d8 l) (NK x.nm):Nat)):b9 L iv mn mi nb bn ck ci rs suf last l :=
 ⟨h.v,h.n,h.i,λx a=>by rw[h.nd x a];unfold dJ nC;rw[b x a],h.keys,h.mem,h.bnd,h.blt⟩
theorem bY.app{L:List Blk}{iv mn mi:Nat}{nb bn:Int->Nat}{ck ci:Nat}{rs:List TKy}{suf:List Rdn}{last:Int}{l lk:List aC}{kd:Int->Int}(h:bY L iv mn mi nb bn ck ci rs suf last l lk kd)(X:List Blk):bY (L++X) iv mn mi nb bn ck ci rs suf last l lk kd:=by
 have key:∀{i:Nat}{b:Blk},L[i]?=some b->(L++X)[i]?=some b:=λ{i b} e=>by rw[apx (aps.1 e).1];exact e
 exact⟨key h.v,key h.n,key h.i,λx a=>key (h.nd x a),h.inj,h.keys,h.mem,h.bnd,h.blt⟩
section
variable {L:List Blk}{iv mn mi:Nat}{nb bn:Int->Nat}{ck ci:Nat}{rs:List TKy}{suf:List Rdn}{last:Int}{l lk:List aC}{kd:Int->Int}
def OfT(iv mn mi:Nat)(nb:Int->Nat)(l:List aC)(i:Nat):Prop:=i=iv\/i=mn\/i=mi\/∃x∈l,i=nb x.id
structure aZ(B:Nat->Prop)(L L':List Blk):Prop where
 len:L.length<=L'.length
 eq:∀i,i<L.length->¬B i->L'[i]?=L[i]?
theorem aZ.refl{B:Nat->Prop}(L:List Blk):aZ B L L:=⟨apt _,λ_ _ _=>rfl⟩
theorem aZ.app{B:Nat->Prop}(L X:List Blk):aZ B L (L++X):=⟨asQ,λi a _=>apx a⟩
theorem aZ.trans{B:Nat->Prop}{L L1 L2:List Blk}(h:aZ B L L1)(g:aZ B L1 L2):aZ B L L2:=⟨apR h.len g.len,λi b a=>by rw[g.eq i (aqD b h.len) a,h.eq i b a]⟩
theorem aZ.set{B:Nat->Prop}(L:List Blk){j:Nat}(c:B j)(b:Blk):aZ B L (L.set j b):=⟨asQ,λi d a=>apM (λe=>a (by rw[<- e];exact c))⟩
theorem aZ.weak{B a:Nat->Prop}{L L':List Blk}(h:aZ B L L')(c:∀i,i<L.length->B i->a i):aZ a L L':=⟨h.len,λi b d=>h.eq i b λe=>d (c i b e)⟩
theorem aZ.trans2{B b:Nat->Prop}{L L1 L2:List Blk}(h:aZ B L L1)(g:aZ b L1 L2)(d:∀i,i<L.length->b i->B i):aZ B L L2:=⟨apR h.len g.len,λi a c=>by rw[g.eq i (aqD a h.len) (λe=>c (d i a e)),h.eq i a c]⟩
theorem aZ.get{B:Nat->Prop}{L L':List Blk}(h:aZ B L L'){i:Nat}{b:Blk}(a:L[i]?=some b)(c:¬B i):L'[i]?=some b:=by rw[h.eq i (aps.1 a).1 c];exact a
theorem bY.node(h:bY L iv mn mi nb bn ck ci rs suf last l lk kd)(id:Int):
  (o7 l id=none/\dH (.int .i64 id) (l.map (gL nb bn)) 0=some none)\/∃x n,o7 l id=some x/\x∈l/\x.id=id/\dH (.int .i64 id) (l.map (gL nb bn)) 0=some (some (n,.ptr (nb id) 0))/\L[nb id]?=some (.cells (dJ kd x))/\l.getD n default=x:=by
 rw[Ef];unfold o7;rcases fR (f:=λx:aC=>decide (x.id=id)) (l:=l)with⟨b,e⟩|⟨n,b,e,a⟩;exact .inl ⟨e,by rw[b];rfl⟩;right;have d:=arl a;have c:(l.getD n default).id=id:=by have:=arm a;simpa using this
 refine⟨_,n,a,d,c,by rw[b];simp,?_,rfl⟩;have:=h.nd _ d;rwa[c]at this
theorem bY.look(h:bY L iv mn mi nb bn ck ci rs suf last l lk kd)(i:TOk suf last lk){d:List Rdn}(p:OkD d):
  (bC lk d=0/\atE lk d=none/\dH (.str (bp true d)) (rs.map kyA) 0=some none)\/∃j,dH (.str (bp true d)) (rs.map kyA) 0=some (some (j,.int .i64 (bC lk d)))/\j<rs.length/\(rs.getD j default).1=bp true d:=by
 rw[Eh];rcases fR (f:=λr:TKy=>decide (r.1=bp true d)) (l:=rs)with⟨o,g⟩|⟨n,o,t,g⟩;left;have a:atE lk d=none:=tJ.2 λ_ x c e=>by obtain⟨b,u⟩:=(h.mem (bp true x.nm) x.id).2 ⟨x,c,rfl,rfl⟩;have:=aq2.1 g _ u;simp only[decide_eq_true_eq]at this;exact this ((kD (i.ok x c) p).2 e)
 exact⟨i.find0.2 a,a,by rw[o];rfl⟩;right;refine⟨n,?_⟩;obtain⟨⟨k,id,b⟩,m⟩:∃r,rs.getD n default=r:=⟨_,rfl⟩;have s:=arl g;have q:k=bp true d:=by have:=arm g;rw[m]at this;simpa using this
 rw[m]at s;obtain⟨x,c,v,w⟩:=(h.mem k id).1 ⟨b,s⟩;have:atE lk d=some x:=i.at c p ((kD p (i.ok x c)).1 (by rw[<- q,v]));rw[o];refine⟨by simp only[apN,m,aqA,bC,this,w],t,by rw[m];exact q⟩
theorem al6{d:List Rdn}{cap:Option Nat}(r:dnB d)(u:TOk suf last lk)(b:bY L iv mn mi nb bn ck ci rs suf last l lk kd){K:apr}(h:K (.int .i64 (bC lk d)) L):
  apq 24 [.ptr iv 0,.sl (d.map aq) d.length cap] L K:=by
 replace h:=hid h;obtain⟨⟨s,e⟩,a⟩:∃q,SF d=q:=⟨_,rfl⟩;have kk1:Hid (Ctr Tryz.prog 58 [.sl (d.map aq) d.length cap] (.tup [.str s,.int .i64 e])):=@hid _ (by intro L K q;exact SG r.1 r.2 (by rw[a];exact q));have x:=b.v;have w:=b.i;by_cases p:e=0;subst p;have f:OkD d:=by by_cases c:OkD d;exact c;exact absurd (by rw[a]) (VY c)
 have k:s=bp true d:=by have:=iP f;rw[a]at this;injection this
 rcases b.look u f with⟨n,_,g⟩|⟨j,g,_⟩;rw[<- k]at g;rw[n]at h;have m:bT .str (.str s)=true:=rfl;clear a b k;refine apo dF ?_;exact aa h.o;rw[<- k]at g;have m:bT .str (.str s)=true:=rfl;obtain⟨z,t⟩:=apl (bC lk d);rw[t]at h g;clear a b k t;refine apo dF ?_;exact aa h.o;have n:bC lk d=0:=by refine u.find0.2 (tJ.2 λc=>?_);have:=iP c;rw[a]at this;exact absurd (by injection this) p
 rw[n]at h;clear a b;refine apo dF ?_;exact aa h.o
theorem bY.kid(h:bY L iv mn mi nb bn ck ci rs suf last l lk kd){x:aC}(j:x∈l)(c:Int):bY (L.set (nb x.id) (.cells [dnA x.nm,.sl (aG (pth x)) x.nm.length none,atR x.av,.int .i64 (kd x.id+c)])) iv mn mi nb bn ck ci rs suf last l lk (λi=>if i=x.id then kd i+c else kd i):=by
 have a:=h.nd x j;have k:=(aps.1 a).1;have m:nb x.id≠iv:=λe=>by rw[e,h.v]at a;simp[dJ]at a
 have o:nb x.id≠mn:=λe=>by rw[e,h.n]at a;simp at a
 have n3:nb x.id≠mi:=λe=>by rw[e,h.i]at a;simp at a
 refine⟨by rw[apM m];exact h.v,by rw[apM o];exact h.n,by rw[apM n3];exact h.i,λy f=>?_,h.inj,h.keys,h.mem,h.bnd,h.blt⟩;by_cases e:nb x.id=nb y.id;have g:=h.inj x j y f e;have b:dJ kd x=dJ kd y:=by have d:=h.nd y f;rw[<- e,a]at d;injection d with d;injection d
 rw[<- e];simp only[k,arF,apu,Blk.cells.injEq];unfold dJ at b⊢;simp only[List.cons.injEq]at b;dsimp only;rw[if_pos g.symm,b.1,b.2.1,b.2.2.1,g];rw[apM e,h.nd y f];unfold dJ;dsimp only;rw[if_neg (λp=>e (by rw[p]))]
theorem ajm{it:Nat}{d:List Rdn}{cap:Option Nat}{b:Int}(M:dnB d)(u:d≠[])(G:TOk suf last lk)(e:∀x∈lk,∃y∈l,y.id=x.id)(W:L[it]?=some (.cells [.ptr iv 0]))(w:bY L iv mn mi nb bn ck ci rs suf last l lk kd)(Y : -1<=b/\b<=1)(p:∀i,-10000000<=kd i/\kd i<=10000000){K:apr}(J:bC lk d.tail=0->K (.tup []) L)(I:∀x∈l,x.id=bC lk d.tail->K (.tup []) (L.set (nb x.id) (.cells [dnA x.nm,.sl (aG (pth x)) x.nm.length none,atR x.av,.int .i64 (kd x.id+b)]))):
  apq 80 [.ptr it 0,.sl (d.map aq) d.length cap,.int .i64 b] L K:=by
 obtain⟨r,a,rfl⟩:∃r a,d=r::a:=by
  cases d with
  |nil=>exact absurd rfl u
  |cons r a=>exact⟨r,a,rfl⟩
 simp only[List.tail_cons]at J I;have m:dnB a:=⟨by have:=M.1;simp at this;omega,λr V=>M.2 r (by simp[V])⟩;obtain⟨z,s⟩:=apl (bC lk a);have kk1:Hid (∀{c:Option Nat}{K:apr},K (.int .i64 z) L->apq 24 [.ptr iv 0,.sl (List.take a.length (a.map aq)) a.length c] L K):=@hid _ (by intro c K q;rw[ap2 asQ];exact al6 m G w (by rw[s];exact q))
 have g:(((r::a).length:Nat):Int)=(a.length:Int)+1:=asQ;have g1:(1:Int)<=((r::a).length:Int):=by rw[g];omega
 have T:(r::a).length-1=a.length:=asQ;have g3:List.drop 1 ((r::a).map aq)=a.map aq:=asQ;have Z:=w.v;have hn:=w.n;by_cases H:z=0;subst H;replace h:=hid (J s);obtain⟨D,F⟩:=apl ((r::a).map aq);obtain⟨n,f⟩:=apl ((r::a).length);rw[F]at g3⊢;rw[f]at g1 T⊢;clear J I s w p e G M m u g F f;refine apo ni ?_;exact bm ⟨.inl rfl,True,[],rfl,trivial,aa h.o⟩;obtain⟨y,P⟩:∃y,atE lk a=some y:=by
  cases N:atE lk a with
  |none=>exact absurd (G.find0.2 N) (by rw[s];exact H)
  |some y=>exact⟨y,rfl⟩
 have A:y.id=z:=by rw[<- s];unfold bC;rw[P]
 obtain⟨_,t,_⟩:=cQ P;have R:=(G.ids y t).1;obtain⟨X,E,B⟩:=e y t;rcases w.node z with⟨O,_⟩|⟨x,j,O,S,k,e2,Q,_⟩;exact absurd (aq2.1 O X E) (by simp[B,A]);have h:=I x S (by rw[k,s]);rw[k]at h;replace h:=hid h;unfold dJ at Q;rw[k]at Q;obtain⟨q,N⟩:=apl (kd z);have C:=p z;rw[N]at h Q C;have w1:IntKind.i64.wrap (q+b)=q+b:=ae asP asP;have U:bT .int (.int .i64 z)=true:=rfl;have g4:(0:Int)<z:=asP;have g5:z>0:=g4;obtain⟨D,F⟩:=apl ((r::a).map aq);obtain⟨n,f⟩:=apl ((r::a).length);rw[F]at g3⊢;rw[f]at g1 T⊢;clear J I s w p e G M m u g F f P A t R B E O S k N C;refine apo ni ?_;exact⟨.inl rfl,True,[],rfl,trivial,aa h.o⟩
end
set_option maxHeartbeats 8000000
set_option maxRecDepth 100000
theorem ags{suf:List Rdn}{last:Int}{l:List aC}(C:TOk suf last l)(hn:l.length<=1000000){b:AV}{L:List Blk}(hL:L[rt]?=some (.cells [dnA suf,.sl (bE l) l.length c,b])){v:AV}(D:dnM dn)(ap:dnM tn){K:apr}(h:K (.int .i64 (fY suf l k dn tn)) L):
  apq 81 [.ptr rt 0,.agg [.int .i64 k,dnA dn,dnA tn,v]] L K:=by
 have a8:=C.sok.m;have bb:=(aps.1 hL).1;have ar:∀X:List Blk,(L++X)[rt]?=some (.cells [dnA suf,.sl (bE l) l.length c,b]):=λX=>by rw[apx bb];exact hL
 have a7:=Em l;obtain⟨⟨ps,pe⟩,g⟩:∃q,prS dn=q:=⟨_,rfl⟩;have kk1:Hid (Ctr Tryz.prog 37 [dnA dn] (.tup [.str ps,.int .i64 pe])):=@hid _ (by intro L K q;exact rG D.1 D.2 (by rw[g];exact q));have kk2:Hid (Ctr Tryz.prog 129 [dnA dn,dnA suf] (.bool (kH dn suf))):=@hid _ (by intro L K q;exact ahm D a8 q);have p:OkD dn↔pe=0:=by unfold OkD;rw[g]
 have kk3:Hid (∀{X:List Blk}{K:apr},K (.int .i64 (atI l dn)) (L++X)->apq 82 [.ptr rt 0,dnA dn] (L++X) K):=@hid _ (by intro X K q;exact adF C.ok D asP (ar X) q)
 unfold fY at h;by_cases t:k<1\/4<k;rw[if_pos t]at h;replace h:=hid h;clear g p;by_cases d1:k<1;refine apo az ?_;exact ac rfl h.o;have d2:4<k:=asP;have d3:k>4:=d2;refine apo az ?_;exact ac rfl h.o;rw[if_neg t]at h;have d1:¬k<1:=asP;have d2:¬4<k:=asP;have d3:¬k>4:=d2;by_cases k1:k=1
 .subst k1;rw[if_pos rfl]at h;by_cases J:pe=0;rotate_left;rw[if_pos (λc=>J (p.1 c))]at h;replace h:=hid h;clear g p t;refine apo az ?_;exact ac rfl h.o;have S:=p.2 J;subst J;rw[if_neg (λc=>c S)]at h;rcases Ft l dn with⟨q1,q2⟩|⟨n,B,q1,q2⟩
  rotate_left
  rw[if_pos (by rw[q2];simp)]at h;rw[q1]at kk3;have g0:(0:Int)<=(n:Int):=asP;have g1:(n:Int)≥0:=g0;replace h:=hid h;clear g p t;refine apo az ?_;exact ac rfl h.o;rw[if_neg (λc=>c q2)]at h;rw[q1]at kk3;have b1:=S.len;obtain⟨sm,a5⟩:=apl (kH dn suf);rw[a5]at h kk2;have a:∀{h4:K (.int .i64 (if 4096<=l.length then 80 else 0)) L},(4096<=l.length/\K (.int .i64 80) L)\/(¬4096<=l.length/\K (.int .i64 0) L):=λ{h4}=>by by_cases c:4096<=l.length;rw[if_pos c]at h4;exact .inl ⟨c,h4⟩;rw[if_neg c]at h4;exact .inr ⟨c,h4⟩
  cases sm with
  | true =>
    rw[if_neg (λc=>by cases c.1)]at h;rcases a (h4:=h)with⟨c,h⟩|⟨c,h⟩
    .have c':(4096:Int)<=(l.length:Int):=asP;have a1:(l.length:Int)≥4096:=c';replace h:=hid h;clear a g p t;refine apo az ?_;exact ac rfl h.o
    .have c':¬(4096:Int)<=(l.length:Int):=asP;have a1:¬(l.length:Int)≥4096:=c';replace h:=hid h;clear a g p t;refine apo az ?_;exact ac rfl h.o
  | false =>
    by_cases c3:dn=[]
    .rw[if_pos ⟨rfl,.inl c3⟩]at h;subst c3;replace h:=hid h;clear a g p t;refine apo az ?_;exact ac rfl h.o
    have bi:¬(dn.length:Int)=0:=λc=>c3 (aqc.1 asP)
    have a9:(1:Int)<=(dn.length:Int):=asP;have ai:dn.tail.length=dn.length-1:=arc;have f:List.take (dn.length-1) (List.drop 1 (dn.map aq))=dn.tail.map aq:=(by rw[asa,List.map_tail,ap2 asQ]);have kk4:Hid (∀{c:Option Nat}{X:List Blk}{K:apr},K (.int .i64 (atI l dn.tail)) (L++X)->apq 82 [.ptr rt 0,.sl (List.take (dn.length-1) (List.drop 1 (dn.map aq))) (dn.length-1) c] (L++X) K):=@hid _ (by intro c X K q;rw[f,<- ai];exact adF C.ok S.tail.m asP (ar X) q)
    rcases Ft l dn.tail with⟨r1,r2⟩|⟨n,B,r1,r2⟩
    .rw[if_pos ⟨rfl,.inr r2⟩]at h;rw[r1]at kk4;replace h:=hid h;clear a g p t f;refine apo az ?_;exact ac rfl h.o
    rw[if_neg (λc=>c.2.elim c3 λc=>by rw[r2]at c;cases c)]at h;rw[r1]at kk4;have g0:¬(n:Int)<0:=asP;rcases a (h4:=h)with⟨c,h⟩|⟨c,h⟩
    .have c':(4096:Int)<=(l.length:Int):=asP;have a1:(l.length:Int)≥4096:=c';replace h:=hid h;clear a g p t f;refine apo az ?_;exact ac rfl h.o
    .have c':¬(4096:Int)<=(l.length:Int):=asP;have a1:¬(l.length:Int)≥4096:=c';replace h:=hid h;clear a g p t f;refine apo az ?_;exact ac rfl h.o
 rw[if_neg k1]at h;have U:k=2\/k=3\/k=4:=asP;rcases Ft l dn with⟨q1,hx⟩|⟨n,B,q1,hx⟩;rw[hx]at h;rw[q1]at kk3;simp only at h;replace h:=hid h;clear g p t;refine apo az ?_;exact ac rfl h.o;obtain⟨x,al⟩:=apl (l.getD n default);rw[al]at hx;rw[hx]at h;rw[q1]at kk3;simp only at h;obtain⟨S,a3,bx⟩:=cQ hx;have g0:¬(n:Int)<0:=asP;have g1:(0:Int)<=(n:Int):=asP;have g2:(n:Int)<(l.length:Int):=asP;obtain⟨e5,_,_⟩:=En B;rw[al]at e5;have e4:n*3<(bE l).length:=by rw[a7];omega
 have kk4:Hid (∀{X:List Blk}{K:apr},K (.int .i64 (bF (d8 l) (NK x.nm):Nat)) (L++X)->apq 130 [.ptr rt 0,.int .i64 x.id] (L++X) K):=@hid _ (by intro X K q;refine alB C asP (ar X) ?_;rw[C.kidsE a3];exact q)
 obtain⟨kn,F⟩:=apl (bF (d8 l) (NK x.nm));rw[F]at kk4 h;by_cases k2:k=2
 .subst k2;rw[if_pos rfl]at h;by_cases ck:kn=0
  .rw[if_neg (λe=>e ck)]at h;subst ck;replace h:=hid h;clear g p t U F;refine apo az ?_
   all_goals exact ac rfl h.o
  rw[if_pos ck]at h;have J:(0:Int)<(kn:Int):=asP;have c2:(kn:Int)>0:=J;replace h:=hid h;clear g p t U F;refine apo az ?_;exact ac rfl h.o
 rw[if_neg k2]at h;by_cases k3:k=3;subst k3;rw[if_pos rfl]at h;replace h:=hid h;clear g p t U F;refine apo az ?_;exact ac rfl h.o;rw[if_neg k3]at h;have k4:k=4:=asP;subst k4;clear U t k1 k2 k3 kk4 F;unfold acz at h;obtain⟨⟨ts,te⟩,s⟩:∃q,prS tn=q:=⟨_,rfl⟩;have kk1:Hid (Ctr Tryz.prog 37 [dnA tn] (.tup [.str ts,.int .i64 te])):=@hid _ (by intro L K q;exact rG ap.1 ap.2 (by rw[s];exact q));have pt:OkD tn↔te=0:=by unfold OkD;rw[s]
 by_cases J:kH dn suf=true;rw[if_pos J]at h;rw[J]at kk2;replace h:=hid h;clear g p s pt;refine apo az ?_;exact ac rfl h.o;rw[if_neg J]at h;rw[asx.2 J]at kk2;by_cases c2:te=0;rotate_left;rw[if_pos (.inl λc=>c2 (pt.1 c))]at h;replace h:=hid h;clear g p s pt;refine apo az ?_;exact ac rfl h.o;have P:=pt.2 c2;have bl:=P.len;subst c2;by_cases c3:tn=[];rw[if_pos (.inr c3)]at h;replace h:=hid h;subst c3;clear g p s pt;refine apo az ?_;exact ac rfl h.o;rw[if_neg (λc=>c.elim (λc=>c P) c3)]at h;have bi:¬(tn.length:Int)=0:=λc=>c3 (aqc.1 asP)
 have a9:(1:Int)<=(tn.length:Int):=asP;have ai:tn.tail.length=tn.length-1:=arc;have f:List.take (tn.length-1) (List.drop 1 (tn.map aq))=tn.tail.map aq:=by rw[asa,List.map_tail,ap2 asQ]
 have a4:=P.tail;have kk4:Hid (∀{c:Option Nat}{L:List Blk}{K:apr},K (.bool (cC tn.tail dn)) L->apq 38 [.sl (List.take (tn.length-1) (List.drop 1 (tn.map aq))) (tn.length-1) c,dnA dn] L K):=@hid _ (by intro c L K q;rw[f,<- ai];exact Kf a4.m D q)
 have kk5:Hid (∀{c:Option Nat}{X:List Blk}{K:apr},K (.int .i64 (atI l tn.tail)) (L++X)->apq 82 [.ptr rt 0,.sl (List.take (tn.length-1) (List.drop 1 (tn.map aq))) (tn.length-1) c] (L++X) K):=@hid _ (by intro c X K q;rw[f,<- ai];exact adF C.ok a4.m asP (ar X) q)
 by_cases c4:cC tn.tail dn=true;rw[if_pos c4]at h;rw[c4]at kk4;replace h:=hid h;clear g p s pt f kk5;refine apo az ?_;exact ac rfl h.o;rw[if_neg c4]at h;rw[asx.2 c4]at kk4;rcases Ft l tn.tail with⟨r1,r2⟩|⟨n2,bo,r1,r2⟩;rw[if_pos r2]at h;rw[r1]at kk5;replace h:=hid h;clear g p s pt f;refine apo az ?_;exact ac rfl h.o;rw[if_neg (by rw[r2];simp)]at h;rw[r1]at kk5;have g3:¬(n2:Int)<0:=asP;have kk6:Hid (∀{X:List Blk}{K:apr},K (.int .i64 (atI l tn)) (L++X)->apq 82 [.ptr rt 0,dnA tn] (L++X) K):=@hid _ (by intro X K q;exact adF C.ok P.m asP (ar X) q)
 have H:afg l x.id tn=(decide (0<=atI l tn)&&decide (atI l tn≠(n:Int))):=by unfold afg;rcases Ft l tn with⟨s1,s2⟩|⟨n3,z,s1,s2⟩;rw[s1,s2];rfl;rw[s1,s2];simp only;rw[decide_eq_true (by omega:(0:Int)<=(n3:Int)),ap0];congr 1;apply propext;have a_:l.getD n3 default∈l:=(by simp[z]);constructor;intro e e2;have:n3=n:=asP;subst this;exact e (by rw[al]);intro e e2;have:=C.byI a_ a3 e2;rw[<- al]at this;have a6:=C.nodup;rw[apO,apO,apD z,apD B]at this;simp only[aql]at this;rcases arL n3 n with q|q|q;exact aqC.1 a6 n3 n z B q this;exact e asP;exact aqC.1 a6 n n3 B z q this.symm
 rw[H]at h;obtain⟨w,hw⟩:=apl (atI l tn);rw[hw]at kk6 h;by_cases c6:0<=w/\w≠(n:Int);obtain⟨c6,c7⟩:=c6;have bs:w≥0:=c6;rw[if_pos (by rw[decide_eq_true c6,decide_eq_true c7];rfl)]at h;replace h:=hid h;clear g p s pt f H hw;refine apo az ?_;exact ac rfl h.o;rw[if_neg (by intro c;rw[apw,decide_eq_true_eq,decide_eq_true_eq]at c;exact c6 c)]at h
 have c9:(¬0<=w/\¬w≥0)\/(0<=w/\w≥0/\w=(n:Int)):=asP;have kU:Hid (∀y∈l,∀{L:List Blk}{K:apr},K (.bool (cC y.nm dn)) L->apq 38 [dnA y.nm,dnA dn] L K):=@hid _ (by intro y N L K q;exact Kf (C.ok y N).m D q);replace h:=hid h;replace C:=hid C;clear g p s pt f H hw c6;rcases c9 with⟨c9,a'⟩|⟨c9,a',rfl⟩
 all_goals
  refine apo az ?_;clear kk1 kk2 kk3 kk4 kk5 kk6;refine aj (λm T' L'=>∃j:Nat,m=l.length-j/\j<=l.length/\Hid (∀i,i<j->(cC (l.getD i default).nm dn && !decide (OkD (iB (l.getD i default).nm dn.length tn)))=false)/\Hid (∃Z,L'=L++(.cells [.int .i64 4,dnA dn,dnA tn,v]::Z))/\T'=[(139,.int .i64 (j:Int)),(138,.int .i64 l.length),(137,.sl (bE l) l.length c),(3,.ptr L.length 0),(0,.ptr rt 0)]) asT ⟨0,rfl,apv _,hid (λi hi=>absurd hi (arE _)),hid ⟨[],rfl⟩,rfl⟩ ?_;rintro _ _ L1 ⟨j,rfl,hj,hI,hZ,rfl⟩;have bt:∀X:List Blk,(L1++X)[L.length]?=some (.cells [.int .i64 4,dnA dn,dnA tn,v]):=λX=>by obtain⟨Z,rfl⟩:=hZ.o;rw[apG,apH (apt _)];simp
  have b2:∀(b:Blk) (X:List Blk),(L1++b::X)[L1.length]?=some b:=λb X=>by rw[apH (apt _)];simp
  have bk:L.length+1<=L1.length:=(by obtain⟨Z,rfl⟩:=hZ.o;simp);have O:∀X,Hid (∃Z,L1++X=L++(.cells [.int .i64 4,dnA dn,dnA tn,v]::Z)):=λX=>by obtain⟨Z,rfl⟩:=hZ.o;exact hid ⟨Z++X,asQ⟩
  by_cases M:j<l.length
  .have j1:(j:Int)<(l.length:Int):=asP;have j2:=apn j asP;have e6:=Ep M;have e7:j*3+3<=(bE l).length:=(by rw[a7];omega);have T:l.getD j default∈l:=(by simp[M]);obtain⟨y,N⟩:=apl (l.getD j default);rw[N]at e6 T;unfold We atR at e6;have I:=C.o.ok y T;have kk1:=@hid _ (λ{L:List Blk}{K:apr}=>kU.o y T (L:=L) (K:=K));obtain⟨u,hu⟩:=apl (cC y.nm dn);rw[hu]at kk1;have d:(u && !decide (OkD (iB y.nm dn.length tn)))=false->Hid (∀i,i<j+1->(cC (l.getD i default).nm dn && !decide (OkD (iB (l.getD i default).nm dn.length tn)))=false):=λhb=>hid λi hi=>by by_cases e:i=j;subst e;rw[N,hu];exact hb;exact hI.o i asP
   obtain⟨yi,Q⟩:=apl (y.id);obtain⟨ya,V⟩:=apl (aJ y.av);obtain⟨yk,ad⟩:=apl (y.av.length);rw[Q,V,ad]at e6;cases u with
   | false =>
     have a0:=d rfl;clear d hI hZ Q V ad I N kU;refine wk ?_;exact asU asP (CutL (b:=by simp;omega)) ⟨j+1,rfl,M,a0,O _,rfl⟩
   | true =>
     have E:dn.length<=y.nm.length:=by have:=(cD.1 hu).2.2.length_le;rwa[bD,bD]at this
     have bn:=I.len;obtain⟨Z,A⟩:=apl (iB y.nm dn.length tn);have Y:dnM Z:=by rw[<- A];unfold iB;refine⟨by simp;omega,λr hr=>?_⟩;rcases apy.1 hr with hr|hr;exact I.m.2 r (asd hr);exact ap.2 r hr
     have kk2:Hid (Ctr Tryz.prog 83 [dnA y.nm,.int .i64 (dn.length:Int),dnA tn] (dnA Z)):=@hid _ (by intro L K q;exact acy asP asP E (by rw[A];exact q))
     obtain⟨⟨zs,ze⟩,W⟩:∃u,prS Z=u:=⟨_,rfl⟩;have kk3:Hid (Ctr Tryz.prog 37 [dnA Z] (.tup [.str zs,.int .i64 ze])):=@hid _ (by intro L K u;exact rG Y.1 Y.2 (by rw[W];exact u));have pz:OkD Z↔ze=0:=(by unfold OkD;rw[W]);by_cases a2:ze=0;have a0:=d (by rw[A,decide_eq_true (pz.2 a2)];rfl);subst a2;clear d hI hZ Q V ad I N kU A Y W pz E;refine wk ?_;exact asU asP (CutL (b:=by simp;omega)) ⟨j+1,rfl,M,a0,O _,rfl⟩;have an:afW l dn tn=true:=aqZ.2 ⟨y,T,by rw[hu,A,decide_eq_false (λc=>a2 (pz.1 c))];rfl⟩;have R:=h.o;rw[if_pos an]at R;replace R:=hid R;have b0:=O;clear d hI Q V ad I N kU A Y W pz E an O;refine wk ?_;obtain⟨Z2,rfl⟩:=hZ.o;rw[apG];exact ac rfl R.o
  .have hje:j=l.length:=asP;subst hje;have j1:¬(l.length:Int)<(l.length:Int):=asP;have G:¬afW l dn tn=true:=λcc=>by obtain⟨y,N,hb⟩:=aqZ.1 cc;obtain⟨i,hi,rfl⟩:=aqn.1 N;have:=hI.o i hi;rw[show l.getD i default=l[i]by simp[hi]]at this;rw[this]at hb;cases hb
   have R:=h.o;rw[if_neg G]at R;replace R:=hid R;clear hI G kU;refine wk ?_;obtain⟨Z2,rfl⟩:=hZ.o;exact ac rfl R.o
theorem OB{L0 L:List Blk}{r:AV}{Q:AV->List Blk->Prop}(i:Nat){c:List AV}(e:L[i]?=some (.cells c))(h:Fin L0 r (L.set i (.cells (AV.frzL c))) Q):Fin L0 r L Q:=λw0 S0 E0 E w v f a b d g=>h w0 S0 E0 E w v f a b (d.frzB e) g
def doE(k:Int)(xid:Int)(dn tn:List Rdn)(v:List Atr)(y:aC):List aC :=
 let y':=if k=4/\cC y.nm dn=true then{y with nm:=iB y.nm dn.length tn}else y
 let y2:=if y.id=xid/\(k=3\/k=4)then{y' with av:=v}else y'
 if y.id=xid/\k=2 then[]else[y2]
theorem aoD(l:List aC)(a:Int)(dn tn:List Rdn)(v:List Atr):l.flatMap (doE 1 a dn tn v)=l:=by
 induction l with
 |nil=>rfl
 |cons y l ih=>rw[ap5,ih];simp[doE]
theorem aoC(l:List aC)(a:Int)(dn tn:List Rdn)(v:List Atr):l.flatMap (doE 2 a dn tn v)=Wf l a:=by
 unfold Wf;induction l with
 |nil=>rfl
 | cons y l ih =>
   rw[ap5,ih];by_cases c:y.id=a<;>simp[doE,c]
theorem aoB(l:List aC)(a:Int)(dn tn:List Rdn)(v:List Atr):l.flatMap (doE 3 a dn tn v)=rD l a v:=by
 unfold rD;induction l with
 |nil=>rfl
 | cons y l ih =>
   rw[ap5,ih];by_cases c:y.id=a<;>simp[doE,c]
theorem aoA(l:List aC)(a:Int)(dn tn:List Rdn)(v:List Atr):l.flatMap (doE 4 a dn tn v)=rD (nu l dn tn) a v:=by
 unfold rD nu;induction l with
 |nil=>rfl
 | cons y l ih =>
   rw[ap5,ih];by_cases c:y.id=a<;>by_cases u:cC y.nm dn=true<;>simp[doE,c,u]
theorem YZ(l:List aC)(k a:Int)(dn tn:List Rdn)(v:List Atr):(l.flatMap (doE k a dn tn v)).length<=l.length:=by
 induction l with
 |nil=>simp
 | cons y l ih =>
   rw[ap5,apB];have:(doE k a dn tn v y).length<=1:=(by unfold doE;dsimp only;split<;>simp);simp only[apC];omega
theorem anh{suf:List Rdn}{last:Int}{l:List aC}(ht:TOk suf last l)(hn:l.length<=900000)(cc:0<=last)(ca:last<=1000000){L:List Blk}(hL:L[rt]?=some (.cells [dnA suf,.sl (bE l) l.length c,.int .i64 last])){v:List Atr}(a5:dnM dn)(a8:dnM tn)(b1:v.length<=1100000)(bx:∀a∈v,a.2.length<=1100000)(T:fY suf l k dn tn=0){K:apr}(h:∀L' c',L'[rt]?=some (.cells [dnA suf,.sl (bE (doT suf l last k dn tn v).1) (doT suf l last k dn tn v).1.length c',.int .i64 (doT suf l last k dn tn v).2])->aZ (λi=>i=rt) L L'->K (.int .i64 0) L'):
  apq 35 [.ptr rt 0,.agg [.int .i64 k,dnA dn,dnA tn,atR v]] L K:=by
 have a2:=(aps.1 hL).1;have ar:∀X:List Blk,(L++X)[rt]?=some (.cells [dnA suf,.sl (bE l) l.length c,.int .i64 last]):=λX=>by rw[apx a2];exact hL
 have sr:∀(X:List Blk) b,(L++X).set rt b=L.set rt b++X:=λX b=>aqB _ _ a2
 have an:∀(X:List Blk) b,(L.set rt b++X)[rt]?=some b:=λX b=>by rw[apx (by simpa using a2)];simp[a2]
 have a3:∀(X:List Blk) b N,(L.set rt b++X).set rt N=L.set rt N++X:=λX b N=>by rw[aqB _ _ (by simpa using a2),List.set_set]
 have b4:∀(X:List Blk) (b N:Blk),(L.set rt b++N::X)[L.length]?=some N:=λX b N=>by rw[apH asQ];simp
 have a4:=Em l;have kk1:Hid (∀{X:List Blk}{K:apr},K (.int .i64 0) (L++X)->apq 81 [.ptr rt 0,.agg [.int .i64 k,dnA dn,dnA tn,.sl (aJ v) v.length none]] (L++X) K):=@hid _ (by intro X K q;exact ags ht asP (ar X) a5 a8 (by rw[T];exact q))
 have kk2:Hid (∀{X:List Blk}{K:apr},K (.int .i64 (atI l dn)) (L++X)->apq 82 [.ptr rt 0,dnA dn] (L++X) K):=@hid _ (by intro X K q;exact adF ht.ok a5 asP (ar X) q)
 have kk3:Hid (Ctr Tryz.prog 16 [.sl (aJ v) v.length none] (.sl (aJ v) v.length none)):=@hid _ (by intro L K q;exact alu b1 bx q);have fv:=fi v;have b_:AV.frzL (dn.map aq)=dn.map aq:=bB _;unfold atR;unfold doT at h;rw[if_neg (λe=>e T)]at h;have ai:=T;unfold fY at T;have ad:¬(k<1\/4<k):=λe=>by rw[if_pos e]at T;exact absurd T (by decide)
 rw[if_neg ad]at T;have kU:Hid (∀y∈l,∀{L:List Blk}{K:apr},K (.bool (cC y.nm dn)) L->apq 38 [dnA y.nm,dnA dn] L K):=@hid _ (by intro y hy L K q;exact Kf (ht.ok y hy).m a5 q);have cb:=hid hL;have Q:=hid ht.ok;have M:=hid ht.nodup;by_cases k1:k=1
 .subst k1;rw[if_pos rfl]at T h;have b0:atI l dn=-1:=by rcases Ft l dn with⟨q1,q2⟩|⟨n,R,q1,q2⟩;exact q1;exfalso;by_cases o:OkD dn;rw[if_neg (λe=>e o),if_pos (by rw[q2];simp)]at T;exact absurd T (by decide);rw[if_pos o]at T;exact absurd T (by decide)
  rw[b0]at kk2;replace h:=hid h;clear T ai hL ad;refine apo fg ?_;refine bR (l:=[]) (n:=0) 7 3 rfl (apU 3).symm ?_;simp only[apB,apC,ap9,aqA,apG,aqa,apZ];refine aj (λm T' L'=>∃(j A:Nat) (C:List AV) (X:List Blk),m=l.length-j/\j<=l.length/\Hid (C=bE ((l.take j).flatMap (doE 1 0 dn tn v)))/\Hid (A=((l.take j).flatMap (doE 1 0 dn tn v)).length)/\T'=[(25,.int .i64 (j:Int)),(24,.int .i64 l.length),(23,.sl (bE l) l.length c),(7,.gsl C A (L.length+1) 3),(6,.int .i64 (-1)),(3,.ptr L.length 0),(0,.ptr rt 0)]/\L'=L++(.cells [.int .i64 1,dnA dn,dnA tn,.sl (aJ v) v.length none] :: .spare A 3::X)) asT ⟨0,0,[],[],rfl,apv _,hid rfl,hid rfl,rfl,asQ⟩ ?_;rintro _ _ _ ⟨j,A,C,X,rfl,hj,V,d,rfl,rfl⟩;have bb:∀(a s b:Blk) (Y:List Blk),(L++a::s::(X++b::Y))[L.length+(X.length+1+1)]?=some b:=λa s b Y=>by rw[apH asP,show L.length+(X.length+1+1)-L.length=X.length+1+1 by omega,aqu,aqu,apH (apt _)];simp
  have a9:∀(a s b N:Blk) (Y:List Blk),(L++a::s::(X++b::Y)).set (L.length+(X.length+1+1)) N=L++a::s::(X++N::Y):=λa s b N Y=>by rw[apW _ _ asP,show L.length+(X.length+1+1)-L.length=X.length+1+1 by omega,aqS,aqS,apW _ _ (apt _)];simp
  have a':A<=l.length:=by rw[d.o];exact apR (YZ _ _ _ _ _ _) (by simp;omega)
  by_cases g:j<l.length
  .have j1:(j:Int)<(l.length:Int):=asP;have j2:=apn j asP;have e6:=Ep g;have e7:j*3+3<=(bE l).length:=(by rw[a4];omega);have E:l.getD j default∈l:=(by simp[g]);have O:(j:Int)≠-1:=asP;have F:l.take (j+1)=l.take j++[l.getD j default]:=(by rw[apK g];simp[g]);obtain⟨y,hy⟩:=apl (l.getD j default);rw[hy]at e6 E F
   try rw[hy]at O
   unfold We atR at e6;have J:=Q.o y E;have kk4:=@hid _ (λ{L:List Blk}{K:apr}=>kU.o y E (L:=L) (K:=K));obtain⟨u,hu⟩:=apl (cC y.nm dn);rw[hu]at kk4;have f:∀{r:List aC},doE 1 0 dn tn v y=r->Hid (C++bE r=bE ((l.take (j+1)).flatMap (doE 1 0 dn tn v)))/\Hid (A+r.length=((l.take (j+1)).flatMap (doE 1 0 dn tn v)).length):=λ{r} e=>by rw[F,arT,ap5,asy,ap4,e,Er,apB,<- V.o,<- d.o];exact⟨hid rfl,hid rfl⟩
   have U:AV.frzL (y.nm.map aq)=y.nm.map aq:=bB _;have W:=fi y.av;obtain⟨yi,z⟩:=apl (y.id);obtain⟨ya,t⟩:=apl (aJ y.av);obtain⟨yk,D⟩:=apl (y.av.length);obtain⟨yn,p⟩:=apl (y.nm);rw[z,t,D,p]at e6;rw[t]at W;rw[p]at U kk4;have w:=f (r:=[y]) (by simp[doE]);have s3:bE [y]=[.int .i64 yi,dnA yn,.sl ya yk none]:=(by rw[<- z,<- t,<- D,<- p];rfl);have G:=w.1;have I:=w.2;rw[s3]at G;have G:=hid G.o;have I:=hid I.o;clear w s3 f V d hy E F J hu kU z t D p Q M;refine wk ?_;exact asU asP asS ⟨j+1,_,_,_,rfl,g,G,I,rfl,rfl⟩
  have a1:j=l.length:=asP;subst a1;have j1:¬(l.length:Int)<(l.length:Int):=asP;rw[apJ]at V d;have fs:AV.frzL (suf.map aq)=suf.map aq:=bB _;have j3:IntKind.i64.wrap (last+1)=last+1:=ae asP asP;have bk:=a5.b;have kk7:Hid (Ctr Tryz.prog 40 [dnA dn] (dnA dn)):=@hid _ (by intro L K q;exact agh bk.1 bk.2 q);clear M Q kU kk1 kk2 ht;have b5:∀(X:List Blk) (b N b2:Blk),(L.set rt b++N::b2::X)[L.length+1]?=some b2:=λX b N b2=>by rw[apH asQ];simp
  have cd:∀(X:List Blk) (b N b2 b3:Blk),(L.set rt b++N::b2::X).set (L.length+1) b3=L.set rt b++N::b3::X:=λX b N b2 b3=>by rw[apW _ _ asQ];simp
  refine wk ?_;refine OB rt (an _ _) ?_;rw[a3];refine aa ?_;have e1:=V.o;have S:=d.o;rw[aoD]at e1 S;refine h.o _ none ?_ ((aZ.set (B:=λi=>i=rt) L rfl _).trans (aZ.app _ _));rw[an];have e3:bE (tK l last dn v)=bE l++[.int .i64 (last+1),.sl (dn.map aq) dn.length none,.sl (aJ v) v.length none]:=(by unfold tK;rw[Er];rfl);have e4:AV.frzL (C++[.int .i64 (last+1),.sl (dn.map aq) dn.length none,.sl (aJ v) v.length none])=bE (tK l last dn v):=by rw[e1,<- e3,Eo]
  have e5:(tK l last dn v).length=A+1:=(by rw[S];simp[tK]);simp only[AV.frzL,AV.frz,dnA,fs,e4,e5]
 rw[if_neg k1]at T h;rcases Ft l dn with⟨q1,hx⟩|⟨n,R,q1,hx⟩;rw[hx]at T;simp at T;obtain⟨x,a6⟩:=apl (l.getD n default);rw[a6]at hx;obtain⟨a_,bi,bn⟩:=cQ hx;have bs:bC l dn=x.id:=by unfold bC;rw[hx]
 rw[bs]at h;rw[q1]at kk2;have bt:cC x.nm dn=true:=cD.2 ⟨ht.ok x bi,a_,by rw[bn];exact arB _⟩;rw[hx]at T;dsimp only at T;by_cases k2:k=2
 .subst k2;rw[if_pos rfl]at h;replace h:=hid h;clear T ai hL ad;refine apo fg ?_;refine bR (l:=[]) (n:=0) 7 3 rfl (apU 3).symm ?_;simp only[apB,apC,ap9,aqA,apG,aqa,apZ];refine aj (λm T' L'=>∃(j A:Nat) (C:List AV) (X:List Blk),m=l.length-j/\j<=l.length/\Hid (C=bE ((l.take j).flatMap (doE 2 x.id dn tn v)))/\Hid (A=((l.take j).flatMap (doE 2 x.id dn tn v)).length)/\T'=[(25,.int .i64 (j:Int)),(24,.int .i64 l.length),(23,.sl (bE l) l.length c),(7,.gsl C A (L.length+1) 3),(6,.int .i64 (n:Int)),(3,.ptr L.length 0),(0,.ptr rt 0)]/\L'=L++(.cells [.int .i64 2,dnA dn,dnA tn,.sl (aJ v) v.length none] :: .spare A 3::X)) asT ⟨0,0,[],[],rfl,apv _,hid rfl,hid rfl,rfl,asQ⟩ ?_;rintro _ _ _ ⟨j,A,C,X,rfl,hj,V,d,rfl,rfl⟩;have bb:∀(a s b:Blk) (Y:List Blk),(L++a::s::(X++b::Y))[L.length+(X.length+1+1)]?=some b:=λa s b Y=>by rw[apH asP,show L.length+(X.length+1+1)-L.length=X.length+1+1 by omega,aqu,aqu,apH (apt _)];simp
  have a9:∀(a s b N:Blk) (Y:List Blk),(L++a::s::(X++b::Y)).set (L.length+(X.length+1+1)) N=L++a::s::(X++N::Y):=λa s b N Y=>by rw[apW _ _ asP,show L.length+(X.length+1+1)-L.length=X.length+1+1 by omega,aqS,aqS,apW _ _ (apt _)];simp
  have a':A<=l.length:=by rw[d.o];exact apR (YZ _ _ _ _ _ _) (by simp;omega)
  by_cases g:j<l.length
  .have j1:(j:Int)<(l.length:Int):=asP;have j2:=apn j asP;have e6:=Ep g;have e7:j*3+3<=(bE l).length:=(by rw[a4];omega);have E:l.getD j default∈l:=(by simp[g]);have O:j=n↔(l.getD j default).id=x.id:=by rw[<- a6];constructor;intro e;rw[e];intro e;have S:=ht.byI E (by simp[R]:l.getD n default∈l) e;rw[apO,apO,apD g,apD R]at S;simp only[aql]at S;rcases arL j n with q|q|q;exact absurd S (aqC.1 M.o j n g R q);exact q;exact absurd S.symm (aqC.1 M.o n j R g q)
   have F:l.take (j+1)=l.take j++[l.getD j default]:=(by rw[apK g];simp[g]);obtain⟨y,hy⟩:=apl (l.getD j default);rw[hy]at e6 E F
   try rw[hy]at O
   unfold We atR at e6;have J:=Q.o y E;have kk4:=@hid _ (λ{L:List Blk}{K:apr}=>kU.o y E (L:=L) (K:=K));obtain⟨u,hu⟩:=apl (cC y.nm dn);rw[hu]at kk4;have f:∀{r:List aC},doE 2 x.id dn tn v y=r->Hid (C++bE r=bE ((l.take (j+1)).flatMap (doE 2 x.id dn tn v)))/\Hid (A+r.length=((l.take (j+1)).flatMap (doE 2 x.id dn tn v)).length):=λ{r} e=>by rw[F,arT,ap5,asy,ap4,e,Er,apB,<- V.o,<- d.o];exact⟨hid rfl,hid rfl⟩
   have U:AV.frzL (y.nm.map aq)=y.nm.map aq:=bB _;have W:=fi y.av;by_cases H:j=n;have P:=O.1 H;subst H;have w:=f (r:=[]) (by simp[doE,P]);have G:=w.1.o;have I:=w.2.o;rw[show bE ([]:List aC)=[]from rfl,ap4]at G;rw[ap9,aqz]at I;replace G:=hid G;replace I:=hid I;obtain⟨yi,z⟩:=apl (y.id);obtain⟨ya,t⟩:=apl (aJ y.av);obtain⟨yk,D⟩:=apl (y.av.length);obtain⟨yn,p⟩:=apl (y.nm);rw[z,t,D,p]at e6;rw[t]at W;rw[p]at U kk4;clear w f V d hy E F J hu kU z t D p Q M O P;refine wk ?_;exact asU asP asS ⟨j+1,_,_,_,rfl,g,G,I,rfl,rfl⟩;have P:¬y.id=x.id:=λe=>H (O.2 e)
   have a7:¬(j:Int)=(n:Int):=asP;obtain⟨yi,z⟩:=apl (y.id);obtain⟨ya,t⟩:=apl (aJ y.av);obtain⟨yk,D⟩:=apl (y.av.length);obtain⟨yn,p⟩:=apl (y.nm);rw[z,t,D,p]at e6;rw[t]at W;rw[p]at U kk4;have w:=f (r:=[y]) (by simp[doE,P]);have s3:bE [y]=[.int .i64 yi,dnA yn,.sl ya yk none]:=(by rw[<- z,<- t,<- D,<- p];rfl);have G:=w.1;have I:=w.2;rw[s3]at G;have G:=hid G.o;have I:=hid I.o;clear w s3 f V d hy E F J hu kU z t D p Q M;refine wk ?_;exact asU asP asS ⟨j+1,_,_,_,rfl,g,G,I,rfl,rfl⟩
  have a1:j=l.length:=asP;subst a1;have j1:¬(l.length:Int)<(l.length:Int):=asP;rw[apJ]at V d;have fs:AV.frzL (suf.map aq)=suf.map aq:=bB _;refine wk ?_;refine OB rt (an _ _) ?_;rw[a3];refine aa ?_;have e1:=V.o;have S:=d.o;rw[aoC]at e1 S;refine h.o _ none ?_ ((aZ.set (B:=λi=>i=rt) L rfl _).trans (aZ.app _ _));rw[an];simp only[AV.frzL,AV.frz,dnA,fs,e1,S,Eo]
 rw[if_neg k2]at h T;by_cases k3:k=3
 .subst k3;rw[if_pos rfl]at h;replace h:=hid h;clear T ai hL ad;refine apo fg ?_;refine bR (l:=[]) (n:=0) 7 3 rfl (apU 3).symm ?_;simp only[apB,apC,ap9,aqA,apG,aqa,apZ];refine aj (λm T' L'=>∃(j A:Nat) (C:List AV) (X:List Blk),m=l.length-j/\j<=l.length/\Hid (C=bE ((l.take j).flatMap (doE 3 x.id dn tn v)))/\Hid (A=((l.take j).flatMap (doE 3 x.id dn tn v)).length)/\T'=[(25,.int .i64 (j:Int)),(24,.int .i64 l.length),(23,.sl (bE l) l.length c),(7,.gsl C A (L.length+1) 3),(6,.int .i64 (n:Int)),(3,.ptr L.length 0),(0,.ptr rt 0)]/\L'=L++(.cells [.int .i64 3,dnA dn,dnA tn,.sl (aJ v) v.length none] :: .spare A 3::X)) asT ⟨0,0,[],[],rfl,apv _,hid rfl,hid rfl,rfl,asQ⟩ ?_;rintro _ _ _ ⟨j,A,C,X,rfl,hj,V,d,rfl,rfl⟩;have bb:∀(a s b:Blk) (Y:List Blk),(L++a::s::(X++b::Y))[L.length+(X.length+1+1)]?=some b:=λa s b Y=>by rw[apH asP,show L.length+(X.length+1+1)-L.length=X.length+1+1 by omega,aqu,aqu,apH (apt _)];simp
  have a9:∀(a s b N:Blk) (Y:List Blk),(L++a::s::(X++b::Y)).set (L.length+(X.length+1+1)) N=L++a::s::(X++N::Y):=λa s b N Y=>by rw[apW _ _ asP,show L.length+(X.length+1+1)-L.length=X.length+1+1 by omega,aqS,aqS,apW _ _ (apt _)];simp
  have a':A<=l.length:=by rw[d.o];exact apR (YZ _ _ _ _ _ _) (by simp;omega)
  by_cases g:j<l.length
  .have j1:(j:Int)<(l.length:Int):=asP;have j2:=apn j asP;have e6:=Ep g;have e7:j*3+3<=(bE l).length:=(by rw[a4];omega);have E:l.getD j default∈l:=(by simp[g]);have O:j=n↔(l.getD j default).id=x.id:=by rw[<- a6];constructor;intro e;rw[e];intro e;have S:=ht.byI E (by simp[R]:l.getD n default∈l) e;rw[apO,apO,apD g,apD R]at S;simp only[aql]at S;rcases arL j n with q|q|q;exact absurd S (aqC.1 M.o j n g R q);exact q;exact absurd S.symm (aqC.1 M.o n j R g q)
   have F:l.take (j+1)=l.take j++[l.getD j default]:=(by rw[apK g];simp[g]);obtain⟨y,hy⟩:=apl (l.getD j default);rw[hy]at e6 E F
   try rw[hy]at O
   unfold We atR at e6;have J:=Q.o y E;have kk4:=@hid _ (λ{L:List Blk}{K:apr}=>kU.o y E (L:=L) (K:=K));obtain⟨u,hu⟩:=apl (cC y.nm dn);rw[hu]at kk4;have f:∀{r:List aC},doE 3 x.id dn tn v y=r->Hid (C++bE r=bE ((l.take (j+1)).flatMap (doE 3 x.id dn tn v)))/\Hid (A+r.length=((l.take (j+1)).flatMap (doE 3 x.id dn tn v)).length):=λ{r} e=>by rw[F,arT,ap5,asy,ap4,e,Er,apB,<- V.o,<- d.o];exact⟨hid rfl,hid rfl⟩
   have U:AV.frzL (y.nm.map aq)=y.nm.map aq:=bB _;have W:=fi y.av;by_cases H:j=n;have P:=O.1 H;subst H;obtain⟨yi,z⟩:=apl (y.id);obtain⟨ya,t⟩:=apl (aJ y.av);obtain⟨yk,D⟩:=apl (y.av.length);obtain⟨yn,p⟩:=apl (y.nm);rw[z,t,D,p]at e6;rw[t]at W;rw[p]at U kk4;have w:=f (r:=[{y with av:=v}]) (by simp[doE,P]);have s3:bE [{y with av:=v}]=[.int .i64 yi,dnA yn,.sl (aJ v) v.length none]:=(by rw[<- z,<- p];rfl);have G:=w.1;have I:=w.2;rw[s3]at G;have G:=hid G.o;have I:=hid I.o;clear w s3 f V d hy E F J hu kU z t D p Q M;refine wk ?_;exact asU asP asS ⟨j+1,_,_,_,rfl,g,G,I,rfl,rfl⟩;have P:¬y.id=x.id:=λe=>H (O.2 e)
   have a7:¬(j:Int)=(n:Int):=asP;obtain⟨yi,z⟩:=apl (y.id);obtain⟨ya,t⟩:=apl (aJ y.av);obtain⟨yk,D⟩:=apl (y.av.length);obtain⟨yn,p⟩:=apl (y.nm);rw[z,t,D,p]at e6;rw[t]at W;rw[p]at U kk4;have w:=f (r:=[y]) (by simp[doE,P]);have s3:bE [y]=[.int .i64 yi,dnA yn,.sl ya yk none]:=(by rw[<- z,<- t,<- D,<- p];rfl);have G:=w.1;have I:=w.2;rw[s3]at G;have G:=hid G.o;have I:=hid I.o;clear w s3 f V d hy E F J hu kU z t D p Q M;refine wk ?_;exact asU asP asS ⟨j+1,_,_,_,rfl,g,G,I,rfl,rfl⟩
  have a1:j=l.length:=asP;subst a1;have j1:¬(l.length:Int)<(l.length:Int):=asP;rw[apJ]at V d;have fs:AV.frzL (suf.map aq)=suf.map aq:=bB _;refine wk ?_;refine OB rt (an _ _) ?_;rw[a3];refine aa ?_;have e1:=V.o;have S:=d.o;rw[aoB]at e1 S;refine h.o _ none ?_ ((aZ.set (B:=λi=>i=rt) L rfl _).trans (aZ.app _ _));rw[an];simp only[AV.frzL,AV.frz,dnA,fs,e1,S,Eo]
 rw[if_neg k3]at h T;by_cases k4:k=4
 .subst k4;have b6:tn.length<=32:=(ht.canM hx T).tok.len;replace h:=hid h;clear T ai hL ad;refine apo fg ?_;refine bR (l:=[]) (n:=0) 7 3 rfl (apU 3).symm ?_;simp only[apB,apC,ap9,aqA,apG,aqa,apZ];refine aj (λm T' L'=>∃(j A:Nat) (C:List AV) (X:List Blk),m=l.length-j/\j<=l.length/\Hid (C=bE ((l.take j).flatMap (doE 4 x.id dn tn v)))/\Hid (A=((l.take j).flatMap (doE 4 x.id dn tn v)).length)/\T'=[(25,.int .i64 (j:Int)),(24,.int .i64 l.length),(23,.sl (bE l) l.length c),(7,.gsl C A (L.length+1) 3),(6,.int .i64 (n:Int)),(3,.ptr L.length 0),(0,.ptr rt 0)]/\L'=L++(.cells [.int .i64 4,dnA dn,dnA tn,.sl (aJ v) v.length none] :: .spare A 3::X)) asT ⟨0,0,[],[],rfl,apv _,hid rfl,hid rfl,rfl,asQ⟩ ?_;rintro _ _ _ ⟨j,A,C,X,rfl,hj,V,d,rfl,rfl⟩;have bb:∀(a s b:Blk) (Y:List Blk),(L++a::s::(X++b::Y))[L.length+(X.length+1+1)]?=some b:=λa s b Y=>by rw[apH asP,show L.length+(X.length+1+1)-L.length=X.length+1+1 by omega,aqu,aqu,apH (apt _)];simp
  have a9:∀(a s b N:Blk) (Y:List Blk),(L++a::s::(X++b::Y)).set (L.length+(X.length+1+1)) N=L++a::s::(X++N::Y):=λa s b N Y=>by rw[apW _ _ asP,show L.length+(X.length+1+1)-L.length=X.length+1+1 by omega,aqS,aqS,apW _ _ (apt _)];simp
  have a':A<=l.length:=by rw[d.o];exact apR (YZ _ _ _ _ _ _) (by simp;omega)
  by_cases g:j<l.length
  .have j1:(j:Int)<(l.length:Int):=asP;have j2:=apn j asP;have e6:=Ep g;have e7:j*3+3<=(bE l).length:=(by rw[a4];omega);have E:l.getD j default∈l:=(by simp[g]);have O:j=n↔(l.getD j default).id=x.id:=by rw[<- a6];constructor;intro e;rw[e];intro e;have S:=ht.byI E (by simp[R]:l.getD n default∈l) e;rw[apO,apO,apD g,apD R]at S;simp only[aql]at S;rcases arL j n with q|q|q;exact absurd S (aqC.1 M.o j n g R q);exact q;exact absurd S.symm (aqC.1 M.o n j R g q)
   have F:l.take (j+1)=l.take j++[l.getD j default]:=(by rw[apK g];simp[g]);obtain⟨y,hy⟩:=apl (l.getD j default);rw[hy]at e6 E F
   try rw[hy]at O
   unfold We atR at e6;have J:=Q.o y E;have kk4:=@hid _ (λ{L:List Blk}{K:apr}=>kU.o y E (L:=L) (K:=K));obtain⟨u,hu⟩:=apl (cC y.nm dn);rw[hu]at kk4;have f:∀{r:List aC},doE 4 x.id dn tn v y=r->Hid (C++bE r=bE ((l.take (j+1)).flatMap (doE 4 x.id dn tn v)))/\Hid (A+r.length=((l.take (j+1)).flatMap (doE 4 x.id dn tn v)).length):=λ{r} e=>by rw[F,arT,ap5,asy,ap4,e,Er,apB,<- V.o,<- d.o];exact⟨hid rfl,hid rfl⟩
   have U:AV.frzL (y.nm.map aq)=y.nm.map aq:=bB _;have W:=fi y.av;by_cases H:j=n;have P:=O.1 H;subst H;cases u with
   | true =>
     have ap:dn.length<=y.nm.length:=by have:=(cD.1 hu).2.2.length_le;rwa[bD,bD]at this
     have bl:=J.len;have bo:=a_.len;obtain⟨Z,al⟩:=apl (iB y.nm dn.length tn);have a0:Z.length<=1100000/\∀r∈Z,r.length<=1100000:=by
      rw[<- al];unfold iB;refine⟨by simp;omega,λr hr=>?_⟩;rcases apy.1 hr with hr|hr
      .exact(J.m.b.2 r (asd hr))
      .exact a8.b.2 r hr
     have kk5:Hid (Ctr Tryz.prog 83 [dnA y.nm,.int .i64 (dn.length:Int),dnA tn] (dnA Z)):=@hid _ (by intro L K q;exact acy asP asP ap (by rw[al];exact q))
     have kk6:Hid (Ctr Tryz.prog 40 [dnA Z] (dnA Z)):=@hid _ (by intro L K q;exact agh a0.1 a0.2 q);have fZ:AV.frzL (Z.map aq)=Z.map aq:=bB _;obtain⟨yi,z⟩:=apl (y.id);obtain⟨ya,t⟩:=apl (aJ y.av);obtain⟨yk,D⟩:=apl (y.av.length);obtain⟨yn,p⟩:=apl (y.nm);rw[z,t,D,p]at e6;rw[t]at W;rw[p]at U kk4 kk5;have w:=f (r:=[{y with nm:=Z,av:=v}]) (by simp[doE,P,hu,al]);have s3:bE [{y with nm:=Z,av:=v}]=[.int .i64 yi,dnA Z,.sl (aJ v) v.length none]:=(by rw[<- z];rfl);have G:=w.1;have I:=w.2;rw[s3]at G;have G:=hid G.o;have I:=hid I.o;clear al a0 ap w s3 f V d hy E F J hu kU z t D p Q M;refine wk ?_;exact asU asP asS ⟨j+1,_,_,_,rfl,g,G,I,rfl,rfl⟩
   | false =>
     have:=ht.byI E bi P;subst this;rw[bt]at hu;cases hu
   have P:¬y.id=x.id:=λe=>H (O.2 e)
   have a7:¬(j:Int)=(n:Int):=asP;cases u with
   | true =>
     have ap:dn.length<=y.nm.length:=by have:=(cD.1 hu).2.2.length_le;rwa[bD,bD]at this
     have bl:=J.len;have bo:=a_.len;obtain⟨Z,al⟩:=apl (iB y.nm dn.length tn);have a0:Z.length<=1100000/\∀r∈Z,r.length<=1100000:=by
      rw[<- al];unfold iB;refine⟨by simp;omega,λr hr=>?_⟩;rcases apy.1 hr with hr|hr
      .exact(J.m.b.2 r (asd hr))
      .exact a8.b.2 r hr
     have kk5:Hid (Ctr Tryz.prog 83 [dnA y.nm,.int .i64 (dn.length:Int),dnA tn] (dnA Z)):=@hid _ (by intro L K q;exact acy asP asP ap (by rw[al];exact q))
     have kk6:Hid (Ctr Tryz.prog 40 [dnA Z] (dnA Z)):=@hid _ (by intro L K q;exact agh a0.1 a0.2 q);have fZ:AV.frzL (Z.map aq)=Z.map aq:=bB _;obtain⟨yi,z⟩:=apl (y.id);obtain⟨ya,t⟩:=apl (aJ y.av);obtain⟨yk,D⟩:=apl (y.av.length);obtain⟨yn,p⟩:=apl (y.nm);rw[z,t,D,p]at e6;rw[t]at W;rw[p]at U kk4 kk5;have w:=f (r:=[{y with nm:=Z}]) (by simp[doE,P,hu,al]);have s3:bE [{y with nm:=Z}]=[.int .i64 yi,dnA Z,.sl ya yk none]:=(by rw[<- z,<- t,<- D];rfl);have G:=w.1;have I:=w.2;rw[s3]at G;have G:=hid G.o;have I:=hid I.o;clear al a0 ap w s3 f V d hy E F J hu kU z t D p Q M;refine wk ?_;exact asU asP asS ⟨j+1,_,_,_,rfl,g,G,I,rfl,rfl⟩
   | false =>
     obtain⟨yi,z⟩:=apl (y.id);obtain⟨ya,t⟩:=apl (aJ y.av);obtain⟨yk,D⟩:=apl (y.av.length);obtain⟨yn,p⟩:=apl (y.nm);rw[z,t,D,p]at e6;rw[t]at W;rw[p]at U kk4;have w:=f (r:=[y]) (by simp[doE,P,hu]);have s3:bE [y]=[.int .i64 yi,dnA yn,.sl ya yk none]:=(by rw[<- z,<- t,<- D,<- p];rfl);have G:=w.1;have I:=w.2;rw[s3]at G;have G:=hid G.o;have I:=hid I.o;clear w s3 f V d hy E F J hu kU z t D p Q M;refine wk ?_;exact asU asP asS ⟨j+1,_,_,_,rfl,g,G,I,rfl,rfl⟩
  have a1:j=l.length:=asP;subst a1;have j1:¬(l.length:Int)<(l.length:Int):=asP;rw[apJ]at V d;have fs:AV.frzL (suf.map aq)=suf.map aq:=bB _;refine wk ?_;refine OB rt (an _ _) ?_;rw[a3];refine aa ?_;have e1:=V.o;have S:=d.o;rw[aoA]at e1 S;refine h.o _ none ?_ ((aZ.set (B:=λi=>i=rt) L rfl _).trans (aZ.app _ _));rw[an];simp only[AV.frzL,AV.frz,dnA,fs,e1,S,Eo]
 exact absurd (by omega:k<1\/4<k) ad
theorem aoj{suf:List Rdn}{last:Int}{l:List aC}(n:TOk suf last l)(u:l.length<=900000)(r:0<=last)(g:last<=1000000){L:List Blk}(f:L[rt]?=some (.cells [dnA suf,.sl (bE l) l.length c,.int .i64 last])){v:List Atr}(b:dnM dn)(d:dnM tn)(p:v.length<=1100000)(j:∀a∈v,a.2.length<=1100000){K:apr}(h:∀L' c',L'[rt]?=some (.cells [dnA suf,.sl (bE (doT suf l last k dn tn v).1) (doT suf l last k dn tn v).1.length c',.int .i64 (doT suf l last k dn tn v).2])->aZ (λi=>i=rt) L L'->K (.int .i64 (fY suf l k dn tn)) L'):
  apq 35 [.ptr rt 0,.agg [.int .i64 k,dnA dn,dnA tn,atR v]] L K:=by
 by_cases e:fY suf l k dn tn=0;exact anh n u r g f b d p j e (by rw[e]at h;exact h);have m:=(aps.1 f).1;have s:∀X:List Blk,(L++X)[rt]?=some (.cells [dnA suf,.sl (bE l) l.length c,.int .i64 last]):=λX=>by rw[apx m];exact f
 have kk1:Hid (∀{X:List Blk}{K:apr},K (.int .i64 (fY suf l k dn tn)) (L++X)->apq 81 [.ptr rt 0,.agg [.int .i64 k,dnA dn,dnA tn,.sl (aJ v) v.length none]] (L++X) K):=@hid _ (by intro X K q;exact ags n asP (s X) b d q)
 unfold doT at h;rw[if_pos e]at h;obtain⟨z,t⟩:=apl (fY suf l k dn tn);rw[t]at kk1 h e;have x:¬z=0:=e;have w:Hid (K (.int .i64 z) (L++[.cells [.int .i64 k,dnA dn,dnA tn,.sl (aJ v) v.length none]])):=hid (h _ c (s _) (aZ.app _ _));clear h n f t;unfold atR;refine apo fg ?_;exact aa w.o
theorem alA(r:Rul):AV.frzL (rlC r)=rlC r:=by simp only[rlC,Yp,aqa,apZ,AV.frzL,AV.frz,bB]
theorem aen(a b:List AV):AV.frzL (a++b)=AV.frzL a++AV.frzL b:=by
 induction a with
 |nil=>rfl
 |cons x a ih=>simp[AV.frzL,ih]
theorem adA:∀l:List Rul,AV.frzL (kr l)=kr l
 |[]=>rfl
 |r::l=>by rw[show kr (r::l)=rlC r++kr l from rfl,aen,alA,adA l]
theorem anQ{ts:List Typ}{H:Option Nat}{c2:List AV}{n2:Nat}{I:Option Nat}(A:ts.length<=1100000/\∀t∈ts,bS t.1){adm:List Rdn}{ca:Option Nat}(ha:dnB adm){rs:List Rul}{cr:Option Nat}(hn:rs.length<=1000000)(G:∀r∈rs,bS r.at_){L:List Blk}{K:apr}(s:∀e,e≠0->(¬OkD adm\/Tj ts rs≠0)->K (.tup [.nilptr,.int .i64 e]) L)(h1:OkD adm->Tj ts rs=0->∀ib X c,(L++X)[ib]?=some (.cells [dnA adm,.sl (kr rs) rs.length c])->K (.tup [.ptr ib 0,.int .i64 0]) (L++X)):
  apq 33 [.agg [.sl (cV ts) ts.length H,.sl c2 n2 I],.sl (adm.map aq) adm.length ca,.sl (ii rs) rs.length cr] L K:=by
 have kk1:Hid (Ctr Tryz.prog 36 [.sl (adm.map aq) adm.length ca] (kG (prS adm))):=@hid _ (λ{L K} q=>lM ha.1 ha.2 q);have kk2:Hid (∀{c:Option Nat}{L:List Blk}{K:apr},K (dnA adm) L->apq 59 [.sl (adm.map aq) adm.length ca,.sl [] 0 c] L K):=@hid _ (by intro c L K q;exact acF ha.1 ha.2 q);obtain⟨⟨p1,e1⟩,E⟩:∃q,prS adm=q:=⟨_,rfl⟩;have o1:OkD adm↔e1=0:=by unfold OkD;rw[E]
 rw[E]at kk1;simp only[kG]at kk1;obtain⟨TS,B⟩:=apl (AV.sl (cV ts) ts.length H);obtain⟨CS,D⟩:=apl (AV.sl c2 n2 I);by_cases he:e1=0;rotate_left;replace s:=hid (s e1 he (.inl λc=>he (o1.1 c)));clear h1 E o1 G A;rw[B,D];refine apo Wp ?_;exact ac rfl s.o;subst he;have Y:=o1.2 rfl;replace s:=hid s;replace h1:=hid (h1 Y);replace G:=hid G;have ai:=hid A;have N:Hid (∀{n:List UInt8},bS n->∀{L:List Blk}{K:apr},K (tt (gV ts n)) L->apq 45 [.agg [TS,CS],.str n] L K):=@hid _ (λ{n} hn {L K} q=>by rw[<- B,<- D];exact acR A.1 A.2 hn q);rw[B,D];clear E o1 A B D Y;refine apo Wp ?_;refine aaW (L.length+1) 1 8 (c:=[dnA adm,.sl [] 0 (some 0)]) (l:=[]) (n:=0) asQ rfl (apU 8).symm ?_;refine aj (λm T' L'=>∃(k:Nat) (C:List AV) (X:List Blk),m=rs.length-k/\k<=rs.length/\Hid (C=kr (rs.take k))/\Hid ((∀r∈rs.take k,bkE ts r=0)/\Tj ts (rs.drop k)=Tj ts rs)/\T'=[(32,.int .i64 (k:Int)),(31,.int .i64 rs.length),(30,.sl (ii rs) rs.length cr),(10,.ptr (L.length+1) 0),(3,.ptr L.length 0)]/\L'=L++([.cells [TS,CS],.cells [dnA adm,.gsl C k (L.length+2) 8],.spare k 8]++X)) asT ⟨0,[],[],rfl,apv _,hid rfl,hid ⟨asQ,rfl⟩,rfl,by simp[dnA]⟩ ?_;clear kk1 kk2;rintro _ _ _ ⟨k,C,X,rfl,hk,hC,hI,rfl,rfl⟩;by_cases h:k<rs.length
 .have g1:(k:Int)<(rs.length:Int):=asP;have g2:=apn k asP;have e3:=ai1 h;have e4:k*6+6<=(ii rs).length:=(by rw[ahl];omega);obtain⟨r,v⟩:=apl (rs.getD k default);have hm:r∈rs:=(by rw[<- v];simp[h]);have V:rs.drop k=r::rs.drop (k+1):=(by rw[apY h,<- v];simp[h]);have M:rs.take (k+1)=rs.take k++[r]:=(by rw[apK h,<- v];simp[h]);have g:=hI.o;rw[V,Tj]at g;have J:=G.o r hm;rw[v]at e3;have p:=hid (show C++rlC r=kr (rs.take (k+1))by rw[hC.o,M,ai5];simp[kr]);have u:=hid (λZ:bkE ts r=0=>(show(∀r∈rs.take (k+1),bkE ts r=0)/\Tj ts (rs.drop (k+1))=Tj ts rs from⟨λy R=>by rw[M]at R;rcases apy.1 R with R|R;exact g.1 y R;rw[apT.1 R];exact Z,by have:=g.2;rwa[if_neg (by simpa using Z)]at this⟩));have f:=hid (λZ:bkE ts r≠0=>(show Tj ts rs≠0 by rw[<- g.2,if_pos Z];exact Z));have kk3:Hid (Ctr Tryz.prog 45 [.agg [TS,CS],.str r.at_] (tt (gV ts r.at_))):=@hid _ (λ{L K} q=>N.o J q);clear hI g V M v hm hC J;have U:bkE ts r=bkE ts r:=rfl;unfold bkE at U;obtain⟨w,d,wh,at_,rg,al⟩:=r;obtain⟨⟨P,S⟩,hP⟩:∃q,dW d=q:=⟨_,rfl⟩;obtain⟨⟨Q,O⟩,hQ⟩:∃q,dW wh=q:=⟨_,rfl⟩;have kk1:Hid (Ctr Tryz.prog 77 [.str d] (aa0 (P,S))):=@hid _ (λ{L K} q=>act (by rw[hP];exact q));have kk2:Hid (Ctr Tryz.prog 77 [.str wh] (aa0 (Q,O))):=@hid _ (λ{L K} q=>act (by rw[hQ];exact q));have a:bkE ts ⟨w,d,wh,at_,rg,al⟩=if w<0\/4<w then 24 else if S≠0 then S else if w<3/\P≠[]then 2 else if O≠0 then O else if at_≠[]/\gV ts at_=none then 20 else if rg<1\/15<rg then 23 else 0:=by unfold bkE;simp only[hP,hQ]
  have W:rlC ⟨w,d,wh,at_,rg,al⟩=[.int .i64 w,.str d,.str wh,.str at_,.int .i64 rg,.bool al,.sl (P.map aq) P.length none,.sl (Q.map aq) Q.length none]:=(by simp only[rlC,Yp,hP,hQ];rfl);rw[W]at p;simp only[Yp,aa0,tt]at e3 kk1 kk2 kk3;clear hP hQ W U;obtain⟨o,ho⟩:=apl (gV ts at_);rw[ho]at kk3 a;obtain⟨⟨t1,t2,t3,t4⟩,ad⟩:∃t,o.getD Eg=t:=⟨_,rfl⟩;rw[ad]at kk3;simp only[tyC]at kk3;replace a:=hid a;by_cases j:w<0\/4<w;have q1:=decide_eq_true j;have i:=hid (show bkE ts ⟨w,d,wh,at_,rg,al⟩=24 by rw[a.o,if_pos j]);clear j;refine wk ?_;exact ac rfl (s.o 24 (by decide) (.inr (f.o (by rw[i.o];decide))));have q1:=decide_eq_false j;replace j:=hid j;by_cases hB:S=0;rotate_left;have i:=hid (show bkE ts ⟨w,d,wh,at_,rg,al⟩=S by rw[a.o,if_neg j.o,if_pos hB]);refine wk ?_;exact ac rfl (s.o S hB (.inr (f.o (by rw[i.o];exact hB))));subst hB;by_cases b:w<3/\P≠[];have q2:decide (w<3/\(0:Int)<(P.length:Int))=true:=decide_eq_true ⟨b.1,by have:=aqi.2 b.2;omega⟩;have i:=hid (show bkE ts ⟨w,d,wh,at_,rg,al⟩=2 by rw[a.o,if_neg j.o,if_neg asQ,if_pos b]);clear b;refine wk ?_;exact ac rfl (s.o 2 (by decide) (.inr (f.o (by rw[i.o];decide))));have q2:decide (w<3/\(0:Int)<(P.length:Int))=false:=decide_eq_false λc=>b ⟨c.1,λe=>by rw[e]at c;simp at c⟩
  replace b:=hid b;by_cases hD:O=0;rotate_left;have i:=hid (show bkE ts ⟨w,d,wh,at_,rg,al⟩=O by rw[a.o,if_neg j.o,if_neg asQ,if_neg b.o,if_pos hD]);refine wk ?_;exact ac rfl (s.o O hD (.inr (f.o (by rw[i.o];exact hD))));subst hD;by_cases F:at_≠[]/\o=none;have i:=hid (show bkE ts ⟨w,d,wh,at_,rg,al⟩=20 by rw[a.o,if_neg j.o,if_neg asQ,if_neg b.o,if_neg asQ,if_pos F]);have q3:decide (at_=[])=false:=decide_eq_false F.1;have q4:o.isSome=false:=(by rw[F.2];rfl);clear F ho;refine wk ?_;exact ac rfl (s.o 20 (by decide) (.inr (f.o (by rw[i.o];decide))));have q3:(!decide (at_=[]) && !o.isSome)=false:=by
   cases o with
   |some x=>simp
   | none => have : at_ = [] := Decidable.byContradiction fun e => F ⟨e, rfl⟩
             simp[this]
  replace F:=hid F;by_cases T:rg<1\/15<rg;have i:=hid (show bkE ts ⟨w,d,wh,at_,rg,al⟩=23 by rw[a.o,if_neg j.o,if_neg asQ,if_neg b.o,if_neg asQ,if_neg F.o,if_pos T]);have q5:=decide_eq_true T;clear T ho;refine wk ?_;exact ac rfl (s.o 23 (by decide) (.inr (f.o (by rw[i.o];decide))));have q5:=decide_eq_false T;have i:=u.o (show bkE ts ⟨w,d,wh,at_,rg,al⟩=0 by rw[a.o,if_neg j.o,if_neg asQ,if_neg b.o,if_neg asQ,if_neg F.o,if_neg T]);replace i:=hid i;have fP:AV.frzL (P.map aq)=P.map aq:=bB P;have fQ:AV.frzL (Q.map aq)=Q.map aq:=bB Q;clear T ho a u f;refine wk ?_;exact asU asP asS ⟨k+1,_,_,rfl,h,p,i,rfl,by simp;rfl⟩
 have g1:¬(k:Int)<(rs.length:Int):=asP;have z:k=rs.length:=asP;have g:=hI.o;have p:=hC.o;rw[z,apJ,aqe]at g;rw[z,apJ]at p;subst p;replace g:=hid g;replace z:=hid z;clear hI hC h;refine wk ?_;refine OB (L.length+1) (c:=[dnA adm,.gsl (kr rs) k (L.length+2) 8]) asQ ?_;have e:AV.frzL [dnA adm,.gsl (kr rs) k (L.length+2) 8]=[dnA adm,.sl (kr rs) rs.length none]:=by simp only[AV.frzL,AV.frz,dnA,bB,adA,z.o]
 rw[e];simp;exact aa (h1.o (by rw[<- g.o.2];rfl) _ _ none asQ)
end Go.Proofs.YtdnfjhflkkpokaaGreatDoor.Av
set_option maxRecDepth 100000
namespace Go.Proofs.YtdnfjhflkkpokaaGreatDoor.Av
open Go
def DJ:LSO:=[Ak 0]
def DI:LSO:=[o1 1 (.build [(.str []),(.str [])] [(0,(1,(.av (.str [100,99])))),(1,(1,(.av (.str [122]))))]),B9 2 1,Bm 3 2,Aa 0 3]
def tG:aK:=⟨4,(asI DJ [] (asI DI C7 .ret)),[(.tmp 0)]⟩
attribute [push_cast] DJ DI
theorem Wm:asN 31=asO tG:=asR
def mM:LSO:=[Az 1 0,Cz 2,Af 3]
def mL:LSO:=[AO 14 15,C0 4,Ap 2 4 14]
def mK:LSO:=[AO 16 31,Aj 17 30 16,Aa 15 17,Ao 18 15,Aq 19 15,Aa 5 18,Aa 6 19]
def mJ:LSO:=[AO 21 31,Aj 22 32 21,Aa 20 22,Ao 23 20,Aq 24 20,Aa 7 23,Aa 8 24]
def mI:LSO:=[Aa 25 6,AB 26 25 0,Aa 27 26,.grp none 27 false
 [Ag 28 27 5,BV 29 27 28]
 30 (tm 29),Aa 31 30,.grp none 31 false
 [A3 32 31 0 1,Ay 33 31 1 32,AM 34 31 33,AC 35 31 34 30]
 36 (tm 35),Aa 37 36,.grp none 37 false
 [A3 38 37 2 1,Ay 39 37 1 38,AM 40 37 39,AC 41 37 40 20]
 42 (tm 41),Aa 43 42,.grp none 43 false
 [A3 44 43 1 1,Ay 45 43 1 44,og 46 43 false (.build [(.int .i64 0),(.sl [] 0 (some 0)),(.sl [] 0 (some 0)),(.sl [] 0 (some 0))] [(1,(1,(tm 45)))]),AN 47 43 8 46,AZ 48 43 47]
 49 (tm 48)]
def mH:LSO:=[C2 50,Ap 5 2 50,Af 3]
def mG:LSO:=[Ar 52 2 4,Ad 53 1 1,Ab 54 1 53,Ad 55 2 1,Ab 56 1 55,AI 57 33 52 54 56,Aa 51 57,Ao 58 51,Aq 59 51,Aa 9 58,Aa 6 59]
def mF:LSO:=[Aa 60 6,AB 61 60 0,Aa 62 61,.grp none 62 false
 [Ag 63 62 9,BV 64 62 63]
 65 (tm 64)]
def mE:LSO:=[C2 66,Ap 5 2 66,Af 3]
def mD:LSO:=[Ad 67 0 1,Ab 68 1 67,Ah 69 68,Ac 70 0]
def lu:LSO:=[Al 71 70 69]
def lr:LSO:=[Am 72 4 68 70,Ar 73 4 72,o1 11 (.alloc [(.int .i64 0),(.sl [] 0 (some 0)),(.sl [] 0 (some 0)),(.sl [] 0 (some 0))]),Ap 4 11 73]
def lq:LSO:=[Ar 74 4 11,Aj 75 8 74,A7 76 75]
def lp:LSO:=[C2 77,Ap 5 2 77,Af 3]
def ln:LSO:=[Ar 79 2 4,Ad 80 3 11,Ab 81 1 80,As 82 14 79 81,Aa 78 82,Ao 83 78,Aq 84 78,Aa 12 83,Aa 13 84]
def lm:LSO:=[Aa 85 13,AB 86 85 0]
def ll:LSO:=[Aa 87 12,Ad 88 3 11,Ap 1 88 87]
def lh:LSO:=[Aa 89 5,Ar 90 4 11,As 91 34 89 90]
def k9:LSO:=[Aa 92 7,Ar 93 4 11,As 94 35 92 93]
def k8:LSO:=[Ai 95 70 1,Aa 70 95]
def k7:LSO:=[Aa 96 5,Aa 97 9,Aa 98 7,Ad 99 1 1,Ab 100 1 99,Ad 101 2 1,Ab 102 1 101,
 o1 103 (.build [(.sl [] 0 (some 0)),(.sl [] 0 (some 0))] [(0,(1,(tm 100))),(1,(1,(tm 102)))]),
 o1 104 (.build [.nilptr,.nilptr,.nilptr,(.sl [] 0 (some 0)),(.sl [] 0 (some 0))] [(0,(1,(tm 96))),(1,(1,(tm 97))),(2,(1,(tm 98))),(3,(2,(tm 103)))]),Ap 5 2 104,A0 3]
def jr:aK:=⟨105,(asI mM [] (asI mL C4 (asI mK CH (asI mJ Db (.seq (asI mI CG (asK 49 (.sreg mH C4))) (asI mG Dn (.seq (asI mF C7 (asK 65 (.sreg mE C4))) (.seq (asI mD CJ (asL 0 (asI lu [] (.seq (asM 71 0) (.seq (.block 1 (asI lr C6 (.seq (asI lq C6 (asK 76 (.sreg lp C4))) (asI ln CR (.seq (asI lm C4 (asJ 86 (.exit 1) .skip)) (asI ll CY (asI lh De (.sreg k9 De)))))))) (.sreg k8 C4)))))) (asI k7 CG .ret))))))))),[(.cell true 5 2),(.tmp 3)]⟩
attribute [push_cast] mM mL mK mJ mI mH mG mF mE mD lu lr lq lp ln lm ll lh k9 k8 k7
theorem Fn:asN 7=asO jr:=asR
def I2:LSO:=[Af 0]
def I1:LSO:=[o1 11 (.build [(.int .i64 0),(.str []),(.str []),(.str []),(.int .i64 0),(.bool false)] [(4,(1,(iv 7))),(5,(1,(.av (.bool true))))]),
 o1 12 (.bslice false 6 1 [(.int .i64 0),(.str []),(.str []),(.str []),(.int .i64 0),(.bool false)] [(0,(6,(tm 11)))]),AO 13 31,
 o1 14 (.build [(.int .i64 0),(.sl [] 0 (some 0)),(.sl [] 0 (some 0)),(.sl [] 0 (some 0))] [(0,(1,(iv 1))),(1,(1,(tm 13)))]),
 o1 15 (.build [(.str []),(.str [])] [(0,(1,(.av (.str [99,110])))),(1,(1,(.av (.str [97]))))]),B9 16 15,Bm 17 16,AO 18 31,Bj 19 17 18,
 o1 20 (.bslice false 1 1 [(.str [])] [(0,(1,(.av (.str [97]))))]),o1 21 (.build [(.str []),(.sl [] 0 (some 0))] [(0,(1,(.av (.str [99,110])))),(1,(1,(tm 20)))]),BH 22 21,
 o1 23 (.build [(.int .i64 0),(.sl [] 0 (some 0)),(.sl [] 0 (some 0)),(.sl [] 0 (some 0))] [(0,(1,(iv 1))),(1,(1,(tm 19))),(3,(1,(tm 22)))]),
 o1 24 (.bslice false 4 2 [(.int .i64 0),(.sl [] 0 (some 0)),(.sl [] 0 (some 0)),(.sl [] 0 (some 0)),(.int .i64 0),(.sl [] 0 (some 0)),(.sl [] 0 (some 0)),(.sl [] 0 (some 0))] [(0,(4,(tm 14))),(4,(4,(tm 23)))]),
 o1 25 (.build [(.sl [] 0 (some 0)),(.sl [] 0 (some 0)),(.sl [] 0 (some 0))] [(2,(1,(tm 12))),(0,(1,(tm 24)))]),
 o1 1 (.alloc [(.sl [] 0 (some 0)),(.sl [] 0 (some 0)),(.sl [] 0 (some 0))]),Ap 3 1 25]
def I0:LSO:=[Ar 27 3 1,Aj 28 7 27,Aa 26 28,Ao 29 26,Aq 30 26,Cz 2,Ap 5 2 29,Aa 3 30]
def IZ:LSO:=[Aa 31 3,A7 32 31]
def IY:LSO:=[Af 0]
def IX:LSO:=[o1 33 (.build [(.int .i64 0),(.str []),(.str []),(.sl [] 0 (some 0)),(.sl [] 0 (some 0))] [(0,(1,(iv 0)))]),BU 4,Ap 5 4 33]
def IW:LSO:=[Ad 35 0 2,Ab 36 1 35,Au 37 36,Ad 38 0 37,Ab 39 1 38,AO 40 15,Ad 41 1 2,Ab 42 1 41,AO 43 31,Ar 44 5 4,
 o1 45 (.build [(.sl [] 0 (some 0)),(.sl [] 0 (some 0)),(.int .i64 0),(.int .i64 0),(.str []),(.str []),(.sl [] 0 (some 0)),(.sl [] 0 (some 0)),(.sl [] 0 (some 0)),(.bool false),(.int .i64 0),(.int .i64 0)] [(1,(1,(tm 43))),(2,(1,(iv 2))),(3,(5,(tm 44))),(10,(1,(iv 1)))]),
 Ca 46 21 39 40 42 45,Aa 34 46,Ao 47 34,Aq 48 34,Ba 49 34,Aa 5 47,Aa 6 48,Aa 7 49]
def IV:LSO:=[Ad 51 0 2,Ab 52 1 51,Au 53 52,Ad 54 0 53,Ab 55 1 54,AO 56 15,Ad 57 1 2,Ab 58 1 57,AO 59 31,Ar 60 5 4,
 o1 61 (.build [(.sl [] 0 (some 0)),(.sl [] 0 (some 0)),(.int .i64 0),(.int .i64 0),(.str []),(.str []),(.sl [] 0 (some 0)),(.sl [] 0 (some 0)),(.sl [] 0 (some 0)),(.bool false),(.int .i64 0),(.int .i64 0)] [(1,(1,(tm 59))),(2,(1,(iv 1))),(3,(5,(tm 60)))]),
 Ca 62 21 55 56 58 61,Aa 50 62,Ao 63 50,Aq 64 50,Ba 65 50,Aa 8 63,Aa 9 64,Aa 10 65]
def IU:LSO:=[Aa 66 5,Ah 67 66,An 68 67 1,Aa 69 68,.grp none 69 true
 [Ae 70 69 6,AP 71 69 70 4]
 72 (tm 71),Aa 73 72,.grp none 73 true
 [Ae 74 73 8,AE 75 73 74,AP 76 73 75 1]
 77 (tm 76),Aa 78 77,.grp none 78 true
 [Ae 79 78 9,AP 80 78 79 0]
 81 (tm 80),Aa 82 81,.grp none 82 true
 [Ae 83 82 8,og 84 82 true (.iaddr 2 (tm 83) (iv 0)),A6 85 82 1 84,A5 86 82 1 85,AE 87 82 86,AP 88 82 87 1]
 89 (tm 88),Aa 0 89]
def wJ:aK:=⟨90,(asI I2 [] (asI I1 [true,false,false,false,false,false,false,false,false,false,false,false,false,false,false,false] (asI I0 CH (.seq (asI IZ C4 (asK 32 (.sreg IY []))) (asI IX C4 (.seq (.sdreg IW [.pure,(.read 0 0),(.read 0 0),.pure,(.read 0 0),(.read 0 0),.pure,(.read 0 0),(.read 0 0),(.read 0 0),.pure,(.read 0 0),.pure,.pure,.pure,.pure,.pure,.pure] Dr) (.seq (.sdreg IV [.pure,(.read 0 0),(.read 0 0),.pure,(.read 0 0),(.read 0 0),.pure,(.read 0 0),(.read 0 0),(.read 0 0),.pure,(.read 0 0),.pure,.pure,.pure,.pure,.pure,.pure] Dr) (asI IU CK .ret)))))))),[(.tmp 0)]⟩
attribute [push_cast] I2 I1 I0 IZ IY IX IW IV IU
theorem Xb:asN 9=asO wJ:=asR
attribute [push_cast] tG jr wJ
set_option maxHeartbeats 8000000
set_option maxRecDepth 100000
abbrev PAt:=Nat×Atr
abbrev pC(q:PAt):List AV:=[.str q.2.1,.lsl q.1 0 q.2.2.length none 1]
def psC(ps:List PAt):List AV:=ps.flatMap pC
abbrev noP:PAt:=(0,[],[])
def aaR(L:List Blk)(b p:Nat)(s1 s2:AV)(ps:List PAt):Prop :=
 b<=p/\(ps.map (·.1)).Nodup/\(∀q∈ps,b<=q.1/\q.1≠p/\∃rest,L[q.1]?=some (.cells (q.2.2.map AV.str++rest))) /\
 ((L[p]?=some (.cells [s1,s2,.sl [] 0 (some 0)])/\ps=[])\/∃r rest,L[p]?=some (.cells [s1,s2,.lsl r 0 ps.length none 2])/\L[r]?=some (.cells (psC ps++rest))/\b<=r/\r≠p/\∀q∈ps,q.1≠r)
theorem aaR.row{L:List Blk}{b p:Nat}{e c:AV}{ps:List PAt}(h:aaR L b p e c ps):∃row,L[p]?=some (.cells [e,c,row])/\aig L (psC ps) ps.length 2 row/\(row=.sl [] 0 (some 0)/\ps=[]\/∃r rest,row=.lsl r 0 ps.length none 2/\L[r]?=some (.cells (psC ps++rest))/\b<=r/\r≠p/\∀q∈ps,q.1≠r):=by obtain⟨_,_,_,h4⟩:=h;rcases h4 with⟨a,rfl⟩|⟨r,rest,a,d,f⟩;exact⟨_,a,.inl ⟨some 0,rfl⟩,.inl ⟨rfl,rfl⟩⟩;exact⟨_,a,.inr ⟨r,none,rest,rfl,d⟩,.inr ⟨r,rest,rfl,d,f⟩⟩
def Kpt(b:Nat)(L L':List Blk):Prop:=b<=L'.length/\∀k,k<b->L'[k]?=L[k]?
theorem Kpt.trans{b:Nat}{L L1 L2:List Blk}(h:Kpt b L L1)(k:Kpt b L1 L2):Kpt b L L2:=⟨k.1,λi a=>(k.2 i a).trans (h.2 i a)⟩
theorem Kpt.app{b:Nat}{L:List Blk}(h:b<=L.length)(X:List Blk):Kpt b L (L++X):=⟨by simp;omega,λk a=>by rw[apx asP]⟩
theorem Kpt.eq{b:Nat}{L L':List Blk}(h:Kpt b L L')(a:b=L.length):∃X,L'=L++X:=by refine⟨L'.drop L.length,?_⟩;apply arr;intro i;rw[aqO];split;rename_i c;rw[h.2 i asP];rw[aqo];congr 1;omega
theorem agd{l:List Atr}{n:List UInt8}(a:ph hG l):i8 l n=if acO hG l (ak n)=true then(l.getD (jg hG l (ak n)) ([],[])).2 else[]:=by
 rw[acg n l a,Z6 a (d:=([],[]))]
 grind
theorem aie{syn:Int}{a:Bool}{l:List (List UInt8)}{v:List UInt8}{vs:List (List UInt8)}(h:dm syn v=none):ie syn a l (v::vs)=([],21):=by rw[ie,h]
theorem aid{syn:Int}{a:Bool}{l:List (List UInt8)}{v n:List UInt8}{vs:List (List UInt8)}(h:dm syn v=some n):ie syn a l (v::vs)=if inM syn l n=true then([],20)else ie syn a (jw syn v false l) vs:=by rw[ie,h]
theorem aaR.frame{L L':List Blk}{b p:Nat}{a c:AV}{ps:List PAt}(h:aaR L b p a c ps)(i:∀k,k<L.length->L'[k]?=L[k]?):aaR L' b p a c ps:=by
 obtain⟨d,e,f,h4⟩:=h;refine⟨d,e,λq g=>?_,?_⟩
 grind
 grind
theorem adX{α:Type}{l:List α}{c:Nat}{x q:α}(h:q∈l.set c x):q=x\/∃i,i≠c/\l[i]?=some q:=by
 obtain⟨i,a⟩:=arf.1 h
 grind
theorem alZ{ps:List PAt}(h:(ps.map (·.1)).Nodup){i c:Nat}{q a:PAt}(f:ps[i]?=some q)(d:ps[c]?=some a)(b:i≠c):q.1≠a.1:=λe=>by
 rw[List.nodup_iff_pairwise_ne,aqC]at h
 grind
theorem aaR.vals{L L' L2:List Blk}{b p:Nat}{m f:AV}{ps:List PAt}{c j:Nat}{u:List (List UInt8)}{rest:List AV}(h:aaR L b p m f ps)(A:c<ps.length){l0 d:Nat}(y:L.length<=l0)(o:d=(ps.getD c noP).1)(v:∀k,k<l0->k≠d->L'[k]?=L[k]?\/L.length<=k)(F:j=d\/l0<=j)(D:L'[j]?=some (.cells (u.map AV.str++rest))){r:Nat}{a:List AV}(z:L[p]?=some (.cells [m,f,.lsl r 0 ps.length none 2]))(w:L[r]?=some (.cells (psC ps++a)))(l:b<=r)(g:r≠p)(x:∀q∈ps,q.1≠r)(G:L2=L'.set r (.cells (psC (ps.set c (j,(ps.getD c noP).2.1,u))++a))):aaR L2 b p m f (ps.set c (j,(ps.getD c noP).2.1,u)):=by
 obtain⟨g1,E,g3,g4⟩:=h;have n:ps[c]?=some (ps.getD c noP):=by simp[A]
 have t:r<L'.length:=by grind
 refine⟨g1,?_,λq s=>?_,.inr ⟨r,a,?_,?_,l,g,λq s=>?_⟩⟩;rw[List.map_set]
 grind
 rcases adX s with rfl|⟨i,B,e⟩
 grind
 have C:=alZ E e n B
 grind
 grind
 simp[*]
 grind
theorem aaR.more{L L2:List Blk}{b p c j r:Nat}{k e:AV}{ps:List PAt}{n:List UInt8}{u:List (List UInt8)}{rest:List AV}(h:aaR L b p k e ps)(y:c<=ps.length)(a:∀q∈ps,L2[q.1]?=L[q.1]?)(m:b<=j)(x:j≠p)(o:∀q∈ps,q.1≠j)(t:L2[j]?=some (.cells (u.map AV.str++rest)))(w:L2[p]?=some (.cells [k,e,.lsl r 0 (ps.length+1) none 2]))(d:L2[r]?=some (.cells (psC (ps.take c++(j,n,u)::ps.drop c))))(i:b<=r)(f:r≠p)(s:j≠r)(l:∀q∈ps,q.1≠r):
  aaR L2 b p k e (ps.take c++(j,n,u)::ps.drop c):=by
 obtain⟨g1,z,g3,g4⟩:=h;have g:(ps.take c++(j,n,u)::ps.drop c).Perm ((j,n,u)::ps):=Zt ps c _;refine⟨g1,?_,λq v=>?_,.inr ⟨r,[],?_,by rw[ap4];exact d,i,f,λq v=>?_⟩⟩
 grind
 grind
 grind
 grind
def akF(ts:List Typ):Prop:=ts.length<=1100000/\(∀ty∈ts,bS ty.1)/\∀ty∈ts,gV ts ty.1=some ty
theorem Ze{n:List UInt8}{vs:List (List UInt8)}{a:Atr}:∀{d:Bool}{l:List Atr},a∈rQ n vs d l->a=(n,vs)\/a∈l
 |d,[],h=>by rw[rQ]at h;simp_all
 | d,x::t,h=>by
   rw[rQ,apy,apy]at h;rcases h with(h|h)|h
   .simp_all
   .simp_all
   .rcases Ze h with e|e
    .simp[*]
    simp[*]
theorem acl{n:List UInt8}{vs:List (List UInt8)}:∀{d:Bool}{l:List Atr},(rQ n vs d l).length<=l.length+(if d=true then 0 else 1)
 |d,[]=>by rw[rQ];split<;>simp
 | d,x::t=>by
   have a:=@acl n vs (d || !decide (ak x.1<ak n)) t;rw[rQ]
   grind
theorem ajU{ts:List Typ}{l:List Atr}{a:Atr}{ty:Typ}(h:InA ts l)(c:a∈l)(f:gV ts ty.1=some ty)(e:ak a.1=ak ty.1):a.1=ty.1/\InV ty.2.1 a.2:=by obtain⟨b,d,j,g,h4,i⟩:=h.2 a c;rw[Wu e,f]at d;simp_all
theorem WI{ts:List Typ}{l:List Atr}{a:Atr}(b:akF ts)(h:InA ts l)(e:a∈l):bS a.1/\a.2≠[]:=by obtain⟨d,g,f,c,_⟩:=h.2 a e;exact⟨by rw[<- f];exact b.2.1 _ (OI g).1,c⟩
theorem aeY{l:List Atr}{n:List UInt8}{m:Nat}(h:∀a∈l,a.2.length<=m):(i8 l n).length<=m:=by
 induction l with
 |nil=>simp[i8]
 | cons a l ih =>
   rw[i8]
   grind
variable {L:List Blk}{K:apr}
theorem aeE(l:List Atr):ao6 l (aJ l):=by exact⟨iI l,λh a=>⟨Sy (l.getD h ([],[])).2,.inl ⟨_,_,_,rfl⟩,jF a⟩⟩
theorem anF{l:List Atr}{cap:Option Nat}{n:List UInt8}(y:l.length<=1100000)(r:ph hG l)(w:∀a∈l,bS a.1/\a.2.length<=1100000)(x:bS n)(h:K (Sy (i8 l n)) L):
  apq 67 [.sl (aJ l) l.length cap,.str n] L K:=by
 obtain⟨c,j⟩:=apl (jg hG l (ak n));obtain⟨t,b⟩:=apl (acO hG l (ak n));have p:=agd (n:=n) r;rw[b,j]at p;rw[p]at h;have g:∀{K:apr},K (.tup [.int .i64 c,.bool t]) L->apq 103 [.sl (aJ l) l.length cap,.str n] L K:=λ{K} q =>
  agw y (aeE l) (.inl ⟨cap,rfl⟩) r x (λa A=>(w a A).1) (by rw[j,b];exact q)
 have kk1:=@hid _ @g;clear g;rcases t with _|_;rw[if_neg asQ]at h;replace h:=hid h;refine apo tI ?_;exact aY (aa h.o);rw[if_pos rfl]at h;have m:=Z6 (key:=hG) (k:=ak n) r (d:=([],[]));rw[b,j]at m;have s:c<l.length:=by simpa using((apw _ _).mp m.symm).1
 have B:=aaI s;have u:l.getD c ([],[])∈l:=by simp[s]
 have e:=(w _ u).2;obtain⟨vs,f⟩:=apl ((l.getD c ([],[])).2);rw[f]at h B e;have D:(c:Int)<(l.length:Int):=asP;have C:c*2+1<(aJ l).length:=by rw[iI];omega
 replace h:=hid h;clear m u f p b j;by_cases v:vs.length=0;obtain rfl:vs=[]:=by simpa using v
 refine ab tI (by simp[i7]) ?_;simp only[i7,ag];have kk2:=@asW _ _ _ _ (ah6 (cap:=none));refine wk ?_;exact aY (aa h.o);refine ab tI (by simp[i7]) ?_;simp only[i7,ag];have kk2:=@hid _ (λL K=>akr (cap:=none) (L:=L) (K:=K) v e);refine wk ?_;refine EE (i:=L.length) (l:=vs.map AV.str) (by rw[apH (apt _),aqR];rfl) ?_;have z:((vs.map AV.str).drop 0).take (vs.length*1)=vs.map AV.str:=by rw[arw,Nat.mul_one,ap2 asQ]
 simp only[AV.snap,if_true,z];rw[apW _ _ (apt _)];refine ac ?_ h.o;simp only[AV.refs,jb]
def ajV(ts:List Typ)(l:List Atr)(n v:List UInt8):Bool:=match gV ts n with
 |none=>false
 | some ty=>match dm ty.2.1 v with
   |none=>false
   |some m=>inM ty.2.1 (i8 l n) m
theorem anE{ts:List Typ}{j:Option Nat}{c2:List AV}{G:Nat}{p:Option Nat}{l:List Atr}{cap:Option Nat}{n v:List UInt8}(i:akF ts)(r:InA ts l)(I:l.length<=1100000)(J:∀a∈l,a.2.length<=1100000)(E:bS n)(h:K (.bool (ajV ts l n v)) L):
  apq 70 [.agg [.sl (cV ts) ts.length j,.sl c2 G p],.sl (aJ l) l.length cap,.str n,.str v] L K:=by
 have z:=r.1;obtain⟨c,s⟩:=apl (jg hG l (ak n));obtain⟨F,g⟩:=apl (acO hG l (ak n));have t:=agd (n:=n) z;rw[g,s]at t;unfold ajV at h;rw[t]at h;have f:∀(X:List Blk){K:apr},K (.tup [.int .i64 c,.bool F]) (L++X)->apq 103 [.sl (aJ l) l.length cap,.str n] (L++X) K:=λX {K} q =>
  agw I (aeE l) (.inl ⟨cap,rfl⟩) z E (λa H=>(WI i r H).1) (by rw[s,g];exact q)
 have e:∀(X:List Blk){K:apr},K (tt (gV ts n)) (L++X)->apq 45 [.agg [.sl (cV ts) ts.length j,.sl c2 G p],.str n] (L++X) K:=λX {K} q=>acR i.1 i.2.1 E q
 replace f:=@hid _ @f;replace e:=@hid _ @e;refine apo aay ?_;refine e.o _ ?_;unfold tt;rcases hty:gV ts n with _|ty;rw[hty]at h;replace h:=hid h;simp only[arH,asg,tyC];clear hty t s g;refine asX ?_;refine f.o _ ?_;refine asX ?_;exact ac rfl h.o;rw[hty]at h;simp only at h;simp only[aql,asl,tyC];rcases F with _|_;have B:K (.bool false) L:=by rcases hno:dm ty.2.1 v with _|m;rw[hno]at h;exact h;rw[hno]at h;simpa[inM]using h
 replace B:=hid B;clear t h s g;refine asX ?_;refine f.o _ ?_;refine asX ?_;exact ac rfl B.o;rw[if_pos rfl]at h;have y:=Z6 (key:=hG) (k:=ak n) z (d:=([],[]));rw[g,s]at y;have D:c<l.length:=by simpa using((apw _ _).mp y.symm).1
 have C:=of_decide_eq_true ((apw _ _).mp y.symm).2;have M:=aaI D;have A:l.getD c ([],[])∈l:=by simp[D]
 have x:=J _ A;have u:InV ty.2.1 (l.getD c ([],[])).2:=by have:=OI hty;exact(ajU r A (i.2.2 ty this.1) (C.trans this.2.symm)).2
 obtain⟨vs,w⟩:=apl ((l.getD c ([],[])).2);rw[w]at h M x u;have O:(c:Int)<(l.length:Int):=asP;have N:c*2+1<(aJ l).length:=by rw[iI];omega
 have b:∀(X:List Blk){K:apr},K (ak5 ty.2.1 vs v) (L++X)->apq 111 [.agg [.str ty.1,.int .i64 ty.2.1,.bool ty.2.2.1,.bool ty.2.2.2],Sy vs,.str v] (L++X) K:=λX {K} q=>akk x (.inl ⟨none,rfl⟩) u.1 q
 replace b:=@hid _ @b;clear y A w t g s C hty;unfold ak5 at b;rcases hno:dm ty.2.1 v with _|m;rw[hno]at h b;replace h:=hid h;refine asX ?_;refine f.o _ ?_;refine asX ?_;refine aM (b.o _ ⟨rfl,rfl⟩) ?_;refine asX ?_;exact ac rfl h.o;rw[hno]at h b;replace h:=hid h;refine asX ?_;refine f.o _ ?_;refine asX ?_;refine aM (b.o _ ⟨rfl,rfl⟩) ?_;refine asX ?_;exact ac rfl h.o
end Go.Proofs.YtdnfjhflkkpokaaGreatDoor.Av
