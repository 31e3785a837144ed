/- Joined texts of the walk, made small by a program. -/
import Derived.Test.YtcmfcpjnhephaaaGreatDoorUk10
import Derived.Test.YtcmfcpjnhephaaaGreatDoorUk9
import Derived.Test.YtcmfcpjnhephaaaGreatDoorUk5
import Derived.Test.YtcmfcpjnhephaaaGreatDoorUk8
import Derived.Test.YtcmfcpjnhephaaaGreatDoorUk4
import Derived.Test.YtcmfcpjnhephaaaGreatDoorRows
import Derived.KernelRfl
import Derived.Test.YtcmfcpjnhephaaaGreatDoorUk7
import Derived.Laws.Externs
set_option linter.unusedSimpArgs false
set_option linter.unusedVariables false
namespace Go.Proofs.YtcmfcpjnhephaaaGreatDoor.Av
open Go
set_option maxHeartbeats 8000000
set_option maxRecDepth 100000
theorem fu(c:UInt8):(dP c).toNat=if 65<=c.toNat/\c.toNat<=90 then c.toNat+32 else c.toNat:=by by_cases h:65<=c.toNat/\c.toNat<=90;have:=YA h.1 h.2;rw[if_pos h];omega;rw[xm h,if_neg h]
theorem XG(c:UInt8):dP (dP c)=dP c:=by refine xm ?_;rw[fu];split<;>omega
theorem VO(s:List UInt8):af (af s)=af s:=by unfold af;rw[al0];exact am5 λc _=>XG c
theorem Vi(s:List UInt8)(c:UInt8):bL (s++[c])=aM (bL s) c:=by simp[bL]
theorem Vj(s:List UInt8):(bL s).length<=s.length:=by have:=ru s s.length;rwa[alF]at this
theorem Yq{b:List UInt8}(c:UInt8)(h:bL b=b):bL (aM b c)=aM b c:=by by_cases hc:c=32/\xy b=true;simp only[aM,if_pos hc];exact h;simp only[aM,if_neg hc];rw[Vi,h,aM,if_neg hc]
theorem aan:∀(s b:List UInt8),bL b=b->bL (s.foldl aM b)=s.foldl aM b
 |[],_,h=>h
 |c::s,b,h=>aan s (aM b c) (Yq c h)
theorem SC(s:List UInt8):bL (bL s)=bL s:=aan s [] rfl
theorem aiM{b:List UInt8}{c:UInt8}(h:bL (b++[c])=b++[c]):bL b=b/\¬(c=32/\xy b=true):=by rw[Vi]at h;unfold aM at h;split at h;have:=Vj b;rw[h]at this;simp at this;omega;rename_i hc;have:=List.append_cancel_right h;rw[this]at hc;exact⟨this,hc⟩
theorem Su{b:List UInt8}(h:bL b=b):bL (dC b)=dC b/\dC (dC b)=dC b:=by
 rcases anj b with rfl|⟨d,c,rfl⟩;simp[dC,bL];rw[anQ]at h⊢;obtain⟨h1,h2⟩:=aiM h;rw[gz];split;rename_i hc;refine⟨h1,?_⟩;have h3:xy d=false:=by simpa[hc]using h2
 unfold dC;rw[if_neg];intro e;simp[xy,e]at h3;rename_i hc;exact⟨h,by rw[gz,if_neg hc]⟩
theorem Yy{b:List UInt8}{c x:UInt8}(h:x∈aM b c):x∈b\/x=c:=by unfold aM at h;split at h;exact .inl h;simpa using h
theorem ZP:∀(s b:List UInt8){x:UInt8},x∈s.foldl aM b->x∈b\/x∈s
 |[],_,_,h=>.inl h
 | c::s,b,x,h=>by
   rcases ZP s (aM b c) h with h1|h1
   .rcases Yy h1 with h2|h2
    .exact .inl h2
    .exact .inr (by simp[h2])
   .exact .inr (by simp[h1])
theorem adN{b:List UInt8}{x:UInt8}(h:x∈dC b):x∈b:=by unfold dC at h;split at h;exact(List.dropLast_sublist b).subset h;exact h
theorem XD{s:List UInt8}{x:UInt8}(h:x∈bH s):∃c∈s,x=dP c:=by rcases ZP _ _ (adN h)with h1|h1;cases h1;obtain⟨c,hc,rfl⟩:=alt.1 h1;exact⟨c,hc,rfl⟩
theorem aao(s:List UInt8):af (bH s)=bH s:=by unfold af;rw[am5 (g:=id) (λx hx=>?_),List.map_id];obtain⟨c,_,rfl⟩:=XD hx;exact XG c
theorem Pk(s:List UInt8):bH (bH s)=bH s:=by
 have h1:bH (bH s)=dC (bL (bH s)):=by show dC (bL (af (bH s)))=_;rw[aao]
 rw[h1];have h2:=Su (SC (af s));show dC (bL (dC (bL (af s))))=dC (bL (af s));rw[h2.1,h2.2]
def Chr(q:List UInt8):Prop:=q≠[]/\(∀s,Lib.validD (q++s)=Lib.validD s)/\((∃c:UInt8,q=[c]/\c.toNat<128)\/∀c∈q,128<=c.toNat)
inductive Seg:List UInt8->Prop
 |nil:Seg []
 |cons{q s:List UInt8}:Chr q->Seg s->Seg (q++s)
theorem oP(b:UInt8)(t:List UInt8):Lib.validD (b::t)=if jL (t.length+1) b.toNat (t.getD 0 0).toNat (t.getD 1 0).toNat (t.getD 2 0).toNat=0 then false else Lib.validD ((b::t).drop (jL (t.length+1) b.toNat (t.getD 0 0).toNat (t.getD 1 0).toNat (t.getD 2 0).toNat)):=by rw[<- KU (t.length+1) (b::t) aoK,Zj];split;rfl;rename_i hn;refine KU _ _ ?_;rw[ank,alA];omega
theorem Seg.valid{s:List UInt8}(h:Seg s):Lib.validD s=true:=by
 induction h with
 |nil=>exact Lib.validD_nil
 |cons hq _ ih=>rw[hq.2.1];exact ih
theorem Seg.app{a b:List UInt8}(h:Seg a)(hb:Seg b):Seg (a++b):=by
 induction h with
 |nil=>exact hb
 |cons hq _ ih=>rw[alI];exact .cons hq ih
theorem YX{c:UInt8}(h:c.toNat<128):Chr [c]:=by refine⟨aoK,λs=>?_,.inl ⟨c,rfl,h⟩⟩;rw[aob,oP];rw[show jL (s.length+1) c.toNat (s.getD 0 0).toNat (s.getD 1 0).toNat (s.getD 2 0).toNat=1 by rw[jL,if_pos h]];simp
theorem ajE{n b0 b1 b2 b3:Nat}(h:n<2)(hb:¬b0<128):jL n b0 b1 b2 b3=0:=by rw[jL,if_neg hb,if_pos (show KI n b0 b1 from .inl h),if_pos (show Sm n b0 b1 b2 from .inl aoJ),if_pos (show Lm n b0 b1 b2 b3 from .inl aoJ)];simp
theorem ajD{n b0 b1 b2 b3:Nat}(h:n<3)(hb:¬b0<224):jL n b0 b1 b2 b3=0:=by rw[jL,if_neg (show ¬b0<128 by omega),if_neg hb,if_pos (show Sm n b0 b1 b2 from .inl h),if_pos (show Lm n b0 b1 b2 b3 from .inl aoJ)];simp
theorem ajC{n b0 b1 b2 b3:Nat}(h:n<4)(hb:¬b0<240):jL n b0 b1 b2 b3=0:=by rw[jL,if_neg (show ¬b0<128 by omega),if_neg (show ¬b0<224 by omega),if_neg hb,if_pos (show Lm n b0 b1 b2 b3 from .inl h)];simp
theorem U3:∀(n:Nat) (s:List UInt8),s.length<=n->Lib.validD s=true->Seg s
 |_,[],_,_=>.nil
 |0,_::_,h,_=>by simp at h
 | n+1,b::t,h,hv=>by
   rw[oP]at hv;split at hv
   .cases hv
   rename_i hz;by_cases h1:b.toNat<128
   .rw[show jL (t.length+1) b.toNat (t.getD 0 0).toNat (t.getD 1 0).toNat (t.getD 2 0).toNat=1 by rw[jL,if_pos h1]]at hv;exact Seg.cons (q:=[b]) (YX h1) (U3 n t (by simpa using h) (by simpa using hv))
   have hbb:=b.toNat_lt;obtain⟨k,hk⟩:=alj (jL (t.length+1) b.toNat (t.getD 0 0).toNat (t.getD 1 0).toNat (t.getD 2 0).toNat);rw[hk]at hv hz;rcases t with _|⟨x,t⟩
   .exfalso;rw[ajE aoK (by assumption)]at hk;exact hz hk.symm
   by_cases h2:b.toNat<224
   .have hA:128<=b.toNat/\Cn x.toNat/\128<=(b.toNat-192)*64+x.toNat-128/\¬b.toNat<192/\k=2:=by
     simp only[jL,if_neg h1,if_pos h2,amy,KI]at hk
     repeat' split at hk
     all_goals first|(exfalso;omega)|(unfold Cn;rename_i h5 h6;unfold Cn at h6;omega)
    obtain⟨a1,a2,a3,a4,rfl⟩:=hA;refine Seg.cons (q:=[b,x]) ⟨aoK,λs=>?_,.inr (anf.2 ⟨a1,anf.2 ⟨a2.1,λ_ h=>nomatch h⟩⟩)⟩ (U3 n t (by simp at h;omega) (by simpa using hv));show Lib.validD (b::x::s)=_;rw[oP];rw[show jL ((x::s).length+1) b.toNat ((x::s).getD 0 0).toNat ((x::s).getD 1 0).toNat ((x::s).getD 2 0).toNat=2 by
     rw[jL,if_neg h1,if_neg a4,if_pos h2,if_neg];simp only[KI,amy,alA];rintro(e|e|e)
     .omega
     .exact e a2
     .omega]
    simp
   rcases t with _|⟨y,t⟩
   .exfalso;rw[ajD aoK (by assumption)]at hk;exact hz hk.symm
   by_cases h3:b.toNat<240
   .have hA:Cn x.toNat/\Cn y.toNat/\¬Sm (t.length+3) b.toNat x.toNat y.toNat/\k=3:=by
     simp only[jL,if_neg h1,if_neg h2,if_neg (show ¬b.toNat<192 by omega),if_pos h3,amy,ana,alA]at hk;split at hk
     .exfalso;omega
     .rename_i h6;refine⟨?_,?_,h6,hk.symm⟩
      .by_cases e:Cn x.toNat
       .exact e
       .exact absurd (.inr (.inl e)) h6
      .by_cases e:Cn y.toNat
       .exact e
       .exact absurd (.inr (.inr (.inl e))) h6
    obtain⟨a1,a2,a3,rfl⟩:=hA;refine Seg.cons (q:=[b,x,y]) ⟨aoK,λs=>?_,.inr (anf.2 ⟨aoJ,anf.2 ⟨a1.1,anf.2 ⟨a2.1,λ_ h=>nomatch h⟩⟩⟩)⟩ (U3 n t (by simp at h;omega) (by simpa using hv));show Lib.validD (b::x::y::s)=_;rw[oP];rw[show jL ((x::y::s).length+1) b.toNat ((x::y::s).getD 0 0).toNat ((x::y::s).getD 1 0).toNat ((x::y::s).getD 2 0).toNat=3 by
     rw[jL,if_neg h1,if_neg (show ¬b.toNat<192 by omega),if_neg h2,if_pos h3,if_neg];simp only[amy,ana,alA];intro e;apply a3;rcases e with e|e
     .omega
     .exact .inr e]
    simp
   rcases t with _|⟨z,t⟩
   .exfalso;rw[ajC aoK (by assumption)]at hk;exact hz hk.symm
   have hA:Cn x.toNat/\Cn y.toNat/\Cn z.toNat/\¬Lm (t.length+4) b.toNat x.toNat y.toNat z.toNat/\k=4:=by
    simp only[jL,if_neg h1,if_neg h2,if_neg (show ¬b.toNat<192 by omega),if_neg h3,amy,ana,alA]at hk;split at hk
    .exfalso;omega
    .rename_i h6;refine⟨?_,?_,?_,h6,hk.symm⟩
     .by_cases e:Cn x.toNat
      .exact e
      .exact absurd (.inr (.inl e)) h6
     .by_cases e:Cn y.toNat
      .exact e
      .exact absurd (.inr (.inr (.inl e))) h6
     .by_cases e:Cn z.toNat
      .exact e
      .exact absurd (.inr (.inr (.inr (.inl e)))) h6
   obtain⟨a1,a2,a4,a3,rfl⟩:=hA;refine Seg.cons (q:=[b,x,y,z]) ⟨aoK,λs=>?_,.inr (anf.2 ⟨aoJ,anf.2 ⟨a1.1,anf.2 ⟨a2.1,anf.2 ⟨a4.1,λ_ h=>nomatch h⟩⟩⟩⟩)⟩ (U3 n t (by simp at h;omega) (by simpa using hv));show Lib.validD (b::x::y::z::s)=_;rw[oP];rw[show jL ((x::y::z::s).length+1) b.toNat ((x::y::z::s).getD 0 0).toNat ((x::y::z::s).getD 1 0).toNat ((x::y::z::s).getD 2 0).toNat=4 by
    rw[jL,if_neg h1,if_neg (show ¬b.toNat<192 by omega),if_neg h2,if_neg h3,if_neg];simp only[amy,ana,alA];intro e;apply a3;rcases e with e|e
    .omega
    .exact .inr e]
   simp
theorem Seg.last{s:List UInt8}(h:Seg s):∀d:List UInt8,s=d++[32]->Seg d:=by
 induction h with
 |nil=>intro d e;simp at e
 | @cons q s hq hs ih =>
   intro d e;rcases anj s with rfl|⟨s',c,rfl⟩
   .rw[alY]at e;subst e;rcases hq.2.2 with⟨c,e2,_⟩|h2
    .have:d=[]:=by have:=congrArg List.length e2;simp at this;exact this
     subst this;exact .nil
    .have:=h2 32 aoK;exact absurd this (by decide)
   .rw[anQ]at *;rw[<- alI]at e;obtain⟨e1,e2⟩:=List.append_inj' e rfl;subst e1;rw[e2]at ih hs;exact .cons hq (ih s' rfl)
theorem agN{q:List UInt8}(hq:∀c∈q,128<=c.toNat):∀b,q.foldl aM b=b++q:=by
 induction q with
 |nil=>simp
 | cons c q ih =>
   intro b;have hc:=hq c aoK;have h32:¬(c=32/\xy b=true):=(by rintro⟨rfl,_⟩;exact absurd hc (by decide));rw[ami,aM,if_neg h32,ih (λc hc=>hq c (by simp[hc]))];simp
theorem aiS{q:List UInt8}(hq:Chr q):Chr (af q)/\((∃c:UInt8,af q=[c]/\c.toNat<128)\/∀c∈af q,128<=c.toNat):=by
 have h:Chr (af q):=by
  rcases hq.2.2 with⟨c,rfl,hc⟩|h2;refine YX (c:=dP c) ?_;rw[fu];split<;>omega;have:af q=q:=by unfold af;rw[am5 (g:=id) (λx hx=>?_),List.map_id];refine xm ?_;have:=h2 x hx;omega
  rw[this];exact hq
 exact⟨h,h.2.2⟩
theorem aff{s:List UInt8}(h:Seg s):∀b,Seg b->Seg ((af s).foldl aM b):=by
 induction h with
 |nil=>exact λb hb=>hb
 | @cons q s hq hs ih =>
   intro b hb;rw[show af (q++s)=af q++af s by simp[af],anu];refine ih _ ?_;obtain⟨h1,⟨c,e,hc⟩|h2⟩:=aiS hq
   .rw[e];simp only[ami,anx,aM];split
    .exact hb
    .exact hb.app (.cons (s:=[]) (YX hc) .nil)
   .rw[agN h2];refine hb.app ?_;have:=Seg.cons h1 .nil;rwa[alY]at this
theorem Zh{s:List UInt8}(h:Lib.validD s=true):Lib.validD (bH s)=true:=by have h1:=aff (U3 _ s (alr _) h) [] .nil;refine Seg.valid ?_;show Seg (dC (bL (af s)));unfold bL;obtain⟨b,hb⟩:=alj ((af s).foldl aM []);rw[hb]at h1⊢;rcases anj b with rfl|⟨d,c,rfl⟩;exact .nil;rw[anQ]at h1⊢;rw[gz];split;rename_i hc;subst hc;exact h1.last d rfl;exact h1
def Dif(a b:Ava):Prop:=af a.1≠af b.1
theorem acL{r:Rdn}{t:List UInt8}:mH r t=false↔∀a∈r,af a.1≠af t:=by simp[mH]
theorem V4:∀(t done:Rdn),done.length<=8->(ek done t=0↔done.length+t.length<=8/\(∀a∈t,gh a.1=true)/\(∀a∈done,∀b∈t,Dif a b)/\t.Pairwise Dif)
 |[],done,h=>by simp[ek,h]
 | a::t,done,h=>by
   unfold ek;by_cases h8:done.length=8
   .rw[if_pos h8];simp only[alA];constructor
    .intro e;cases e
    .intro e;omega
   rw[if_neg h8];by_cases hty:gh a.1=false
   .rw[if_pos hty];constructor
    .intro e;cases e
    .intro e;have:=e.2.1 a aoK;rw[hty]at this;cases this
   rw[if_neg hty];by_cases hh:mH done a.1=true
   .rw[if_pos hh];constructor
    .intro e;cases e
    .intro e;have:mH done a.1=false:=acL.2 λb hb=>e.2.2.1 b hb a aoK
     rw[hh]at this;cases this
   rw[if_neg hh,V4 t (done++[a]) (by simp;omega)];simp only[Bool.not_eq_false]at hty;have hh2:=acL.1 (by simpa using hh);simp only[alJ,alA,amg,alv,alM,alu,am3,or_false,forall_eq_or_imp,al7];constructor
   .rintro⟨e1,e2,e3,e4⟩;refine⟨aoJ,⟨hty,e2⟩,λx hx=>⟨hh2 x hx,λb hb=>e3 x (.inl hx) b hb⟩,λb hb=>e3 a (.inr rfl) b hb,e4⟩
   .rintro⟨e1,⟨_,e2⟩,e3,e4,e5⟩;refine⟨aoJ,e2,?_,e5⟩;rintro x (hx|rfl) b hb
    .exact(e3 x hx).2 b hb
    .exact e4 b hb
theorem adc{t:List UInt8}(h:gh t=true):gh (af t)=true:=by
 simp only[gh,alx,alC,decide_eq_true_eq]at h⊢;obtain⟨⟨⟨h1,h2⟩,h3⟩,h4⟩:=h;have hlet:∀c:UInt8,qf (c.toNat:Int)=true->qf ((dP c).toNat:Int)=true:=by intro c hc;have:=fu c;split at this;rw[this];simp only[qf,al9,alx,decide_eq_true_eq]at hc⊢;omega;rw[this];exact hc
 refine⟨⟨⟨by simpa[af]using h1,by simpa[af]using h2⟩,?_⟩,?_⟩;rcases t with _|⟨c,t⟩;simp at h1;simpa[af]using hlet c (by simpa using h3);intro c hc;obtain⟨x,hx,rfl⟩:=alt.1 hc;have:=h4 x hx;simp only[PZ,al9]at this⊢;rcases this with(e|e)|e;exact .inl (.inl (hlet x e));refine .inl (.inr ?_);simp only[alx,decide_eq_true_eq]at e⊢;rw[fu,if_neg aoJ];exact e;refine .inr ?_;simp only[decide_eq_true_eq]at e⊢;rw[fu,if_neg aoJ];exact e
theorem Vl(r:Rdn):(fY r).Perm (r.map tK):=by have:=(R4 r [] List.Pairwise.nil).2;rwa[al2]at this
theorem adI(a:Ava):tK (tK a)=tK a:=by simp[tK,VO,Pk]
theorem YY{r:Rdn}(h:ek [] r=0):ek [] (fY r)=0:=by
 rw[V4 _ _ aoK]at h⊢;obtain⟨h1,h2,_,h4⟩:=h;have hp:=Vl r;refine⟨by simpa[xU]using h1,λa ha=>?_,λa ha=>(by cases ha),?_⟩;obtain⟨b,hb,rfl⟩:=alt.1 (hp.mem_iff.1 ha);exact adc (h2 b hb);refine(hp.pairwise_iff (λ{a b} e=>Ne.symm e)).2 ?_;rw[an2];refine h4.imp λ{a b} e=>?_
 simpa[Dif,tK,VO]using e
theorem V5:∀(d:List Rdn) (i:Nat),mI i d=0->mI i (ml d)=0
 |[],_,h=>h
 | r::d,i,h=>by
   unfold mI at h;show mI i (fY r::ml d)=0;unfold mI;split at h
   .cases h
   rename_i h32;split at h
   .cases h
   rename_i hr;split at h
   .rename_i h5;exact absurd h h5
   rename_i h5;simp only[ne_eq,anN]at h5;rw[if_neg h32,if_neg,if_neg (by simpa using YY h5),V5 d _ h];intro e;have:=congrArg List.length e;rw[xU]at this;exact hr (al1.1 this)
def wtB(c:UInt8):Nat:=if c=0 then 3 else if c∈([34,43,44,59,60,62,92]:List UInt8)then 2 else 1
def wtS(s:List UInt8):Nat:=(s.map wtB).sum
theorem acg(a b:List UInt8):wtS (a++b)=wtS a+wtS b:=by simp[wtS]
theorem ajr:∀c:UInt8,wtB (dP c)=wtB c:=by
 intro c;by_cases h:65<=c.toNat/\c.toNat<=90
 .have h2:=fu c;rw[if_pos h]at h2;have g:∀x:UInt8,65<=x.toNat->x.toNat≠92->wtB x=1:=by
   intro x hx hn;unfold wtB;rw[if_neg (by rintro rfl;exact absurd hx (by decide)),if_neg];simp only[alu,am3,or_false];rintro(rfl|rfl|rfl|rfl|rfl|rfl|rfl)
   all_goals first|exact absurd hx (by decide)|exact absurd rfl hn
  rw[g c aoJ aoJ,g _ aoJ aoJ]
 rw[xm h]
theorem Zf(s:List UInt8):wtS (af s)=wtS s:=by simp only[wtS,af,al0];rw[show(wtB∘dP)=wtB from funext ajr]
theorem ajv(i n:Nat)(c:UInt8):wtB c<=(wrB i n c).length:=by unfold wtB wrB;by_cases h0:c=0;rw[if_pos h0,if_pos h0];simp;rw[if_neg h0,if_neg h0];by_cases h7:c∈([34,43,44,59,60,62,92]:List UInt8);rw[if_pos h7,if_pos (.inr (.inr h7))];simp;rw[if_neg h7];split<;>simp
theorem aaT(n:Nat):∀(s:List UInt8) (i:Nat),wtS s<=(wrL n i s).length
 |[],_=>by simp[wtS]
 |c::s,i=>by have h1:=aaT n s (i+1);have h2:=ajv i n c;simp only[wrL,alJ,wtS,alD,amT]at h1⊢;omega
theorem ajx{i n:Nat}{c:UInt8}(hi:i≠0)(hc:c≠32):(wrB i n c).length=wtB c:=by
 unfold wtB wrB;by_cases h0:c=0;rw[if_pos h0,if_pos h0];simp;rw[if_neg h0,if_neg h0];by_cases h7:c∈([34,43,44,59,60,62,92]:List UInt8);rw[if_pos h7,if_pos (.inr (.inr h7))];simp;rw[if_neg h7,if_neg];· simp
 rintro(e|e|e);exact hi e.1;exact hc e.2;exact h7 e
theorem ajw{i n:Nat}(hi:i≠0)(hn:i+1≠n):(wrB i n 32).length=wtB 32:=by
 have e:wrB i n 32=[32]:=by unfold wrB;rw[if_neg (by decide),if_neg];rintro(e|e|e);exact hi e.1;exact hn e.1;exact absurd e (by decide)
 rw[e];decide
theorem aeV(n:Nat):∀(s:List UInt8) (i:Nat),i≠0->n=i+s.length->s.getLast?≠some 32->(wrL n i s).length=wtS s
 |[],_,_,_,_=>by simp[wrL,wtS]
 | c::s,i,hi,hn,hl=>by
   have h1:s.getLast?≠some 32:=by
    rcases s with _|⟨x,s⟩
    .simp
    .rwa[List.getLast?_cons_cons]at hl
   have ih:=aeV n s (i+1) aoJ (by simp at hn;omega) h1;have h2:(wrB i n c).length=wtB c:=by
    by_cases hc:c=32
    .subst hc;refine ajw hi λe=>?_
     have:s=[]:=al1.1 (by simp at hn;omega);subst this;exact hl rfl
    .exact ajx hi hc
   rw[wrL,alJ,ih,h2];simp[wtS]
theorem aeU(s:List UInt8):wtS s<=(fa s).length:=aaT _ _ _
theorem aaS(s:List UInt8):wtS (35::s)+1<=(fa (35::s)).length:=by
 have h1:=aaT (s.length+1) s 1;have e:wrB 0 (s.length+1) 35=[92,35]:=by unfold wrB;rw[if_neg (by decide),if_pos (.inl ⟨rfl,.inr rfl⟩)]
 show _<=(wrB 0 (s.length+1) 35++wrL (s.length+1) 1 s).length;rw[e];have:wtB 35=1:=by decide
 simp only[wtS,alD,amT,alJ,alA,amg]at h1⊢;omega
theorem aeT{c:UInt8}{s:List UInt8}(h1:c≠32)(h2:(c::s).getLast?≠some 32):(fa (c::s)).length=wtS (c::s)+(if c=35 then 1 else 0):=by
 have hs:s.getLast?≠some 32:=by rcases s with _|⟨x,s⟩;simp;rwa[List.getLast?_cons_cons]at h2
 have h3:=aeV (s.length+1) s 1 aoJ aoJ hs;show(wrB 0 (s.length+1) c++wrL (s.length+1) 1 s).length=_;rw[alJ,h3];have h4:(wrB 0 (s.length+1) c).length=wtB c+(if c=35 then 1 else 0):=by
  unfold wtB wrB;by_cases h0:c=0;subst h0;rfl;rw[if_neg h0,if_neg h0];by_cases h7:c∈([34,43,44,59,60,62,92]:List UInt8);rw[if_pos h7,if_pos (.inr (.inr h7)),if_neg];rfl;rintro rfl;exact absurd h7 (by decide);rw[if_neg h7];by_cases h35:c=35;rw[if_pos h35,if_pos (.inl ⟨rfl,.inr h35⟩)];rfl;rw[if_neg h35,if_neg];· rfl
  rintro(e|e|e);rcases e.2 with e|e;exact h1 e;exact h35 e;exact h1 e.2;exact h7 e
 rw[h4];simp[wtS];omega
theorem ahK(b:List UInt8)(c:UInt8):wtS (aM b c)<=wtS b+wtB c:=by unfold aM;split;omega;rw[acg];simp[wtS]
theorem Yi:∀(s b:List UInt8),wtS (s.foldl aM b)<=wtS b+wtS s
 |[],b=>by simp[wtS]
 |c::s,b=>by have h1:=Yi s (aM b c);have h2:=ahK b c;simp only[ami,wtS,alD,amT]at h1 h2⊢;omega
theorem acf(b:List UInt8):wtS (dC b)<=wtS b:=by rcases anj b with rfl|⟨d,c,rfl⟩;simp[dC];rw[anQ,gz];split;rw[acg];omega;omega
theorem ST:∀(s:List UInt8) (x:UInt8) (b:List UInt8),∃t,s.foldl aM (x::b)=x::t
 |[],x,b=>⟨b,rfl⟩
 | c::s,x,b=>by
   rw[ami,aM];split
   .exact ST s x b
   .exact ST s x (b++[c])
theorem ahL(c:UInt8):1<=wtB c:=by unfold wtB;split;omega;split<;>omega
theorem abw(s:List UInt8):(bH s).getLast?≠some 32:=by have h:=Su (SC (af s));have e:dC (bH s)=bH s:=h.2;intro hl;rcases anj (bH s)with q|⟨d,c,q⟩;rw[q]at hl;cases hl;rw[q,anQ]at e hl;rw[gz,if_pos (by simpa using hl)]at e;have:=congrArg List.length e;simp at this
theorem abC{s:List UInt8}{c:UInt8}{t:List UInt8}(h:bH s=c::t):c≠32:=by have e:bL (bH s)=bH s:=(Su (SC (af s))).1;rw[h]at e;rintro rfl;have:=Vj t;have e2:bL (32::t)=t.foldl aM []:=rfl;rw[e2]at e;have:=congrArg List.length e;have h3:(t.foldl aM []).length<=t.length:=Vj t;simp at this;omega
theorem ac3(s:List UInt8):(fa (bH s)).length<=(fa s).length:=by
 have hge:=aeU s;have hw:wtS (bH s)<=wtS s:=by have h1:=acf (bL (af s));have h2:=Yi (af s) [];have h3:=Zf s;have h4:wtS (bL (af s))=wtS ((af s).foldl aM []):=rfl;have h5:wtS ([]:List UInt8)=0:=rfl;show wtS (dC (bL (af s)))<=_;omega
 rcases hp:bH s with _|⟨c,t⟩;simp[fa,wrL];have hl:=abw s;rw[hp]at hl hw;rw[aeT (abC hp) hl];split;rename_i h35;subst h35;rcases s with _|⟨x,s⟩;have:bH []=[]:=rfl;rw[this]at hp;cases hp;by_cases hx:x=35;subst hx;have:=aaS s;omega;by_cases hx2:x=32;subst hx2;have e:bH (32::s)=bH s:=rfl;have h1:=acf (bL (af s));have h2:=Yi (af s) [];have h3:=Zf s;have h4:wtS (bL (af s))=wtS ((af s).foldl aM []):=rfl;have h5:wtS ([]:List UInt8)=0:=rfl;have h6:wtS (bH s)=wtS (dC (bL (af s))):=rfl;rw[e]at hp;rw[hp]at h6;have h7:wtS (32::s)=wtB 32+wtS s:=by simp[wtS]
 have h8:=ahL 32;omega;exfalso;have hlx:¬(dP x=32):=by
  intro q;have:=fu x;rw[q]at this;apply hx2;have:x.toNat=32:=by split at this;have h9:(32:UInt8).toNat=32:=rfl;omega;exact this.symm
  exact UInt8.toNat.inj this
 have hlx5:¬(dP x=35):=by
  intro q;have:=fu x;rw[q]at this;apply hx;have:x.toNat=35:=by split at this;have h9:(35:UInt8).toNat=35:=rfl;omega;exact this.symm
  exact UInt8.toNat.inj this
 have e1:af (x::s)=dP x::af s:=rfl;obtain⟨u,hu⟩:=ST (af s) (dP x) [];have e2:bL (af (x::s))=dP x::u:=by rw[e1,<- hu];show(af s).foldl aM (aM [] (dP x))=_;rw[aM,if_neg (λq=>hlx q.1)];rfl
 have e3:dC (dP x::u)=35::t:=by rw[<- e2];exact hp
 rcases anj u with rfl|⟨d,y,rfl⟩;have:dC ([]++[dP x])=[]++[dP x]:=by rw[gz,if_neg hlx]
 rw[show[dP x]=[]++[dP x]from rfl,this]at e3;exact hlx5 (by simpa using congrArg List.head? e3);rw[anQ,<- al3,gz]at e3;split at e3;exact hlx5 (by simpa using congrArg List.head? e3);exact hlx5 (by simpa using congrArg List.head? e3);omega
theorem RV(xs:List (List UInt8))(c:UInt8):(Lib.join xs [c]).length+1=(xs.map List.length).sum+xs.length+(if xs=[]then 1 else 0):=by
 rcases xs with _|⟨x,xs⟩;simp[Lib.join];rw[VC,if_neg aoK];have:(xs.flatMap λy=>[c]++y).length=(xs.map List.length).sum+xs.length:=by
  induction xs with
  |nil=>rfl
  |cons y l ih=>simp only[amv,alJ,ih,alD,amT,alA,amg];omega
 simp only[alJ,this,alD,amT,alA];omega
theorem aa1{α:Type}{f g:α->Nat}:∀l:List α,(∀a∈l,f a<=g a)->(l.map f).sum<=(l.map g).sum
 |[],_=>alr _
 | a::l,h=>by
   have h1:=aa1 l λx hx=>h x (by simp[hx])
   have h2:=h a aoK;simp only[alD,amT];omega
theorem afH{l m:List Nat}(h:l.Perm m):l.sum=m.sum:=by
 induction h with
 |nil=>rfl
 |cons _ _ ih=>simp only[amT,ih]
 |swap a b l=>simp only[amT];omega
 |trans _ _ a b=>exact a.trans b
theorem Zv(r:Rdn):(dG true r).length<=(dG false r).length:=by
 have hs:(dY (r.map (avT true))).Perm (r.map (avT true)):=anK _ _;have h1:=RV (dY (r.map (avT true))) 43;have h2:=RV (r.map (avT false)) 43;have h3:((dY (r.map (avT true))).map List.length).sum=((r.map (avT true)).map List.length).sum:=afH (hs.map _);have h4:(dY (r.map (avT true))).length=r.length:=by rw[hs.length_eq];simp
 have h5:((r.map (avT true)).map List.length).sum<=((r.map (avT false)).map List.length).sum:=by
  rw[al0,al0];refine aa1 r λa _=>?_
  have:=ac3 a.2;simp only[aon,avT,if_true,alG,if_false,alJ,alA,amg];simp only[af,al5];omega
 have h6:(if dY (r.map (avT true))=[]then 1 else 0)=(if r.map (avT false)=[]then 1 else 0):=by
  have:dY (r.map (avT true))=[]↔r.map (avT false)=[]:=by rw[<- al1,<- al1,h4];simp
  simp only[this]
 simp only[dG,if_true,alG,if_false];rw[h3,h4,h6]at h1;simp only[al5]at h2;omega
theorem Zm(d:List Rdn):(eK true d).length<=(eK false d).length:=by
 have h1:=RV (d.map (dG true)) 44;have h2:=RV (d.map (dG false)) 44;have h3:((d.map (dG true)).map List.length).sum<=((d.map (dG false)).map List.length).sum:=by rw[al0,al0];exact aa1 d λr _=>Zv r
 have h6:(if d.map (dG true)=[]then 1 else 0)=(if d.map (dG false)=[]then 1 else 0):=by simp only[aoA]
 rw[h6]at h1;simp only[al5]at h1 h2;unfold eK;omega
theorem adj{xs ys:List (List UInt8)}(h:xs.Perm ys):dY xs=dY ys:=by
 have hs:∀zs:List (List UInt8),(dY zs).Pairwise λx y=>x<=y:=λzs=>by
  have:=aoz (le:=λx y:List UInt8=>decide (x<=y)) (λa b c h1 h2=>by
   simp only[decide_eq_true_eq]at *;exact List.le_trans h1 h2) (λa b=>by
   simp only[al9,decide_eq_true_eq];exact List.le_total a b) zs
  exact this.imp λh=>by simpa using h
 refine aoo (le:=λx y=>x<=y) (λa b _ _=>aoj) (hs xs) (hs ys) ?_;exact(anK _ _).trans (h.trans (anK _ _).symm)
theorem aa3(r:Rdn):dG true (fY r)=dG true r:=by simp only[dG,if_true];congr 1;refine adj ?_;refine((Vl r).map _).trans ?_;rw[al0];rw[show(avT true∘tK)=avT true from funext λa=>by simp only[aon,acR,adI]]
theorem aaZ(d:List Rdn):eK true (ml d)=eK true d:=by unfold eK ml;rw[al0];rw[show(dG true∘fY)=dG true from funext aa3]
theorem abx{s:List UInt8}(h:(Kb s).2=0):Kb (Kb s).1=Kb s/\(Kb s).1.length<=4096:=by
 unfold Kb at h;split at h;rename_i h1;exact absurd h h1;rename_i h1;have hk:Kb s=Vs (xh s).1:=by rw[Kb,if_neg h1]
 rw[hk];obtain⟨d,hd⟩:=alj ((xh s).1);rw[hd]at h⊢;unfold Vs at h;split at h;rename_i h2;exact absurd h h2;rename_i h2;have hn:Vs d=(eK true d,0):=by rw[Vs,if_neg h2]
 rw[hn];simp only[ne_eq,anN]at h2;have hp:mI 0 d=0/\(eK false d).length<=4096:=by unfold prS at h2;split at h2;rename_i h3;exact absurd h2 h3;rename_i h3;split at h2;cases h2;split at h2;cases h2;exact⟨by simpa using h3,aoJ⟩
 have hl:=Zm d;have ht:=Vk d;have hc:=V5 d 0 hp.1;have hl2:(eK false (ml d)).length<=4096:=by rw[ht];omega
 refine⟨?_,by simp only;omega⟩;simp only;rw[<- ht];unfold Kb;rw[afL hc hl2];simp only;rw[if_neg aoK];unfold Vs;have hpr:prS (ml d)=(eK false (ml d),0):=by unfold prS;rw[if_neg (by simpa using hc),ZU (Zs (alQ (acm _) hl2)),if_neg aoK,if_neg aoJ]
 rw[hpr];simp only;rw[if_neg aoK,aaZ,ht]
theorem aeA{v:List UInt8}(h:Ln v=true):Ln (bH v)=true:=by simp only[Ln,alC,decide_eq_true_eq]at h⊢;intro x hx;obtain⟨c,hc,rfl⟩:=XD hx;have:=h c hc;have h2:=fu c;split at h2<;>omega
theorem abk{syn:Int}{v n:List UInt8}(h:bw syn v=some n)(hx:¬(n=[]/\syn=1)):bw syn n=some n:=by unfold bw at h;split at h;cases h;rename_i hl;have hpl:=rr v;unfold tA at h;split at h;rename_i hs;split at h;cases h;split at h;rename_i hv;cases h;unfold bw tA;rw[if_neg aoJ,if_pos hs,if_neg (λe=>hx ⟨e,hs⟩),if_pos (Zh hv),Pk];cases h;split at h;rename_i h1 hs;split at h;cases h;rename_i h0;split at h;rename_i hv;cases h;unfold bw tA;rw[if_neg hl,if_neg h1,if_pos hs,if_neg h0,if_pos hv];cases h;split at h;rename_i h1 h2 hs;split at h;rename_i ha;cases h;unfold bw tA;rw[if_neg aoJ,if_neg h1,if_neg h2,if_pos hs,if_pos (aeA ha),Pk];cases h;split at h;rename_i h1 h2 h3 hs;split at h;rename_i ha;cases h;unfold bw tA;rw[if_neg hl,if_neg h1,if_neg h2,if_neg h3,if_pos hs,if_pos ha];cases h;split at h;rename_i h1 h2 h3 h4 hs;split at h;rename_i ha;cases h;unfold bw tA;rw[if_neg hl,if_neg h1,if_neg h2,if_neg h3,if_neg h4,if_pos hs,if_pos ha];cases h;split at h;rename_i h1 h2 h3 h4 h5 hs;split at h;rename_i ha;cases h;have hk:=abx ha;unfold bw tA;rw[if_neg aoJ,if_neg h1,if_neg h2,if_neg h3,if_neg h4,if_neg h5,if_pos hs,hk.1,if_pos ha];cases h;split at h;rename_i h1 h2 h3 h4 h5 h6 hs;cases h;unfold bw tA;rw[if_neg hl,if_neg h1,if_neg h2,if_neg h3,if_neg h4,if_neg h5,if_neg h6,if_pos hs];split at h;rename_i h1 h2 h3 h4 h5 h6 h7 hs;split at h;rename_i ha;cases h;unfold bw tA;rw[if_neg hl,if_neg h1,if_neg h2,if_neg h3,if_neg h4,if_neg h5,if_neg h6,if_neg h7,if_pos hs,if_pos ha];cases h;cases h
variable {L:List Blk}{K:alp}
theorem rZ(s:List UInt8):(db s).length=s.length-2:=by simp[db]
theorem ad2{s:List UInt8}{i:Nat}(h:i+3<=s.length):(db s).take (i+1)=(db s).take i++[(s.drop i).take 3]:=by
 have hi:i<(db s).length:=by rw[rZ];omega
 rw[alN hi];simp[db]
theorem afT{syn:Int}{v n:List UInt8}(h:bw syn v=some n):n.length<=4096:=by by_cases c:n=[]/\syn=1;rw[c.1];simp;exact K3 (abk h c)
theorem acM{s:List UInt8}(hs:s.length<=100000)(h:K (F9 (db s)) L):alo 41 [.str s] L K:=by replace h:=hid h;refine aln Tk ?_;refine bF (l:=[]) (n:=0) 3 1 rfl (alU 1).symm ?_;refine ah (λm T' L'=>∃(k:Nat) (C:List AV) (X:List Blk),m=s.length-k/\k<=s.length-2/\C=((db s).take k).map AV.str/\T'=[(4,.int .i64 (k:Int)),(3,.gsl C k L.length 1),(0,.str s)]/\L'=L++(.spare k 1::X)) aoN ⟨0,[],[],rfl,alw _,rfl,rfl,rfl⟩ ?_;rintro _ _ _ ⟨k,C,X,rfl,hk,hC,rfl,rfl⟩;by_cases hlt:k+3<=s.length;have g2:IntKind.i64.wrap ((k:Int)+3)=(k:Int)+3:=ad aoJ aoJ;have g3:=alm k aoJ;have g1:(k:Int)+3<=(s.length:Int):=aoJ;have htk:=ad2 hlt;replace htk:=hid htk;replace hC:=hid hC;have e3:((k:Int)+3).toNat-k=3:=aoJ;refine wk ?_;exact aoO aoJ aoM ⟨k+1,_,X,rfl,aoJ,by rw[htk.o,alW,hC.o];rfl,rfl,rfl⟩;have g2:IntKind.i64.wrap ((k:Int)+3)=(k:Int)+3:=ad aoJ aoJ;have g1:¬(k:Int)+3<=(s.length:Int):=aoJ;have hke:k=s.length-2:=aoJ;have htk:((db s).take k)=db s:=ams (by rw[rZ];omega);rw[htk]at hC;subst hC;have hl:=hid (show k=(db s).length by rw[rZ];exact hke);clear hke htk hk;refine wk ?_;refine bu ?_;simp only[AV.frz,eh];rw[hl.o];exact ab (by simp only[AV.refs,iX]) h.o
end Go.Proofs.YtcmfcpjnhephaaaGreatDoor.Av
set_option maxRecDepth 100000
namespace Go.Proofs.YtcmfcpjnhephaaaGreatDoor.Av
open Go
def MZ:LSO:=[Ae 4]
def MY:LSO:=[Aa 7 0,Am 8 7,Ab 9 0]
def MX:LSO:=[Ak 10 9 8]
def MW:LSO:=[Ao 11 1 7 9,Ac 12 1 11,Aa 6 12]
def MV:LSO:=[Aa 13 6,Aa 14 1,AH 15 13 14]
def MU:LSO:=[Az 4]
def MT:LSO:=[Ag 16 9 1,Aa 9 16]
def MS:LSO:=[Ae 4]
def Kv:aQ:=⟨17,(aoC MZ [] (.seq (aoC MY [] (aoF 0 (aoC MX [] (.seq (aoG 10 0) (.seq (.block 1 (aoC MW Cx (aoC MV Cx (aoE 15 (.sreg MU []))))) (.sreg MT Cw)))))) (aoC MS [] .ret))),[(.tmp 4)]⟩
attribute [push_cast] MZ MY MX MW MV MU MT MS
theorem Wc:aoH 82=aoI Kv:=aoL
attribute [push_cast] Kv
end Go.Proofs.YtcmfcpjnhephaaaGreatDoor.Av
set_option maxRecDepth 100000
namespace Go.Proofs.YtcmfcpjnhephaaaGreatDoor.Av
open Go
variable {cap:Option Nat}{n:List UInt8}{l:List (List UInt8)}{k:ba}{it im ie ip ii ck ec pc:Nat}{L:List Blk}{K:alp}{em:List (bp Int (List Atr))}{pm:List (bp (List UInt8) Nat)}{id:Int}{Q:List UInt8->Int->Prop}{B:Nat->Prop}
def QH:LSO:=[Ab 4 0]
def QG:LSO:=[Aa 6 0,Am 7 6,Ab 8 0]
def QF:LSO:=[Ak 9 8 7]
def QE:LSO:=[Aa 10 8,Aa 5 10]
def QD:LSO:=[Aa 11 0,Aa 12 5,Ao 13 4 11 12,Ad 14 0 13,Ac 15 1 14,Ai 16 39 15,Aa 17 1,Ai 18 39 17,AH 19 16 18]
def QC:LSO:=[Aa 20 5,Aa 4 20]
def QB:LSO:=[Ag 21 8 1,Aa 8 21]
def QA:LSO:=[Ab 4 (-1)]
def PE:aQ:=⟨22,(aoC QH [] (.seq (aoC QG C3 (aoF 0 (aoC QF [] (.seq (aoG 9 0) (.seq (.block 1 (aoC QE Cw (aoC QD CJ (aoE 19 (.sreg QC Cw))))) (.sreg QB Cw)))))) (aoC QA [] .ret))),[(.tmp 4)]⟩
attribute [push_cast] QH QG QF QE QD QC QB QA
theorem WU:aoH 12=aoI PE:=aoL
def u9:LSO:=[Al 4]
def u7:LSO:=[Aa 7 0,Am 8 7,Ab 9 0]
def u6:LSO:=[Ak 10 9 8]
def u0:LSO:=[Ao 11 2 7 9,Ap 12 2 11,Br 6,Aj 2 6 12]
def uZ:LSO:=[Ad 13 0 6,Ac 14 1 13,Ai 15 39 14,Aa 16 1,Ai 17 39 16,AH 18 15 17]
def uY:LSO:=[o1 19 (.bslice false 1 0 [] []),Ad 20 1 6,Ac 21 1 20,Bj 22 19 21,Aa 4 22]
def uX:LSO:=[Ag 23 9 1,Aa 9 23]
def uW:LSO:=[Al 4]
def si:aQ:=⟨24,(aoC u9 [] (.seq (aoC u7 [] (aoF 0 (aoC u6 [] (.seq (aoG 10 0) (.seq (.block 1 (aoC u0 Cx (aoC uZ C0 (aoE 18 (.sreg uY Cz))))) (.sreg uX Cw)))))) (aoC uW [] .ret))),[(.tmp 4)]⟩
attribute [push_cast] u9 u7 u6 u0 uZ uY uX uW
theorem Sh:aoH 15=aoI si:=aoL
def Gz:LSO:=[As 4]
def Gy:LSO:=[Aa 8 0,Aa 9 1,Ar 10 45 8 9,Aa 7 10,Aq 11 7,Au 12 7,Aa 5 11,Aa 6 12]
def Gx:LSO:=[Aa 13 5,Aa 4 13]
def yg:aQ:=⟨14,(aoC Gz [] (aoC Gy Db (aoC Gx Cw .ret))),[(.tmp 4)]⟩
attribute [push_cast] Gz Gy Gx
theorem Us:aoH 164=aoI yg:=aoL
def Qz:LSO:=[Ae 6]
def Qy:LSO:=[Aa 9 1,Am 10 9,Ab 11 0]
def Qx:LSO:=[Ak 12 11 10]
def Qw:LSO:=[Ao 13 1 9 11,Ac 14 1 13,Aa 8 14]
def Qv:LSO:=[Aa 15 0,Aa 16 8,Ar 17 164 15 16,Aa 18 2,AH 19 17 18]
def Qu:LSO:=[Az 6]
def Qt:LSO:=[Ag 20 11 1,Aa 11 20]
def Qs:LSO:=[Ae 6]
def PD:aQ:=⟨21,(aoC Qz [] (.seq (aoC Qy [] (aoF 0 (aoC Qx [] (.seq (aoG 12 0) (.seq (.block 1 (aoC Qw Cx (aoC Qv Cz (aoE 19 (.sreg Qu []))))) (.sreg Qt Cw)))))) (aoC Qs [] .ret))),[(.tmp 6)]⟩
attribute [push_cast] Qz Qy Qx Qw Qv Qu Qt Qs
theorem WT:aoH 127=aoI PD:=aoL
def GK:LSO:=[Al 6]
def GJ:LSO:=[Al 7]
def GI:LSO:=[Ae 8]
def GH:LSO:=[Aa 11 1,Am 12 11,Ab 13 0]
def GF:LSO:=[Ak 14 13 12]
def GE:LSO:=[Ao 15 1 11 13,Ac 16 1 15,Aa 10 16]
def GD:LSO:=[Aa 17 8,Ay 18 17,Aa 19 18,.grp none 19 true
 [Af 20 19 0,Af 21 19 2,BG 22 19 164 20 21,Af 23 19 0,Af 24 19 10,BG 25 19 164 23 24,Bx 26 19 22 25]
 27 (tm 26)]
def GC:LSO:=[Aa 28 7,Aa 29 2,Bq 30 29,Bj 31 28 30,Aa 7 31]
def GB:LSO:=[Az 8]
def GA:LSO:=[Aa 32 7,Aa 33 10,Bq 34 33,Bj 35 32 34,Aa 7 35]
def y9:LSO:=[Ag 36 13 1,Aa 13 36]
def y8:LSO:=[Aa 37 8,Ay 38 37]
def y7:LSO:=[Aa 39 7,Aa 40 2,Bq 41 40,Bj 42 39 41,Aa 7 42]
def y6:LSO:=[Aa 43 7,Aa 6 43]
def yh:aQ:=⟨44,(aoC GK [] (aoC GJ [] (aoC GI [] (.seq (aoC GH [] (aoF 0 (aoC GF [] (.seq (aoG 14 0) (.seq (.block 1 (aoC GE Cx (.seq (aoC GD Cy (aoD 27 (aoC GC Cz (.sreg GB [])) .skip)) (.sreg GA Cz)))) (.sreg y9 Cw)))))) (.seq (aoC y8 Cw (aoD 38 (.sreg y7 Cz) .skip)) (aoC y6 Cw .ret)))))),[(.tmp 6)]⟩
attribute [push_cast] GK GJ GI GH GF GE GD GC GB GA y9 y8 y7 y6
theorem Ut:aoH 128=aoI yh:=aoL
def MH:LSO:=[A4 3 0,Al 6,Ab 7 0]
def MG:LSO:=[Aa 12 2,Am 13 12,Ab 14 0]
def MF:LSO:=[Ak 15 14 13]
def ME:LSO:=[Ao 16 1 12 14,Ac 17 1 16,Aa 9 17]
def MD:LSO:=[Ad 19 1 3,Ac 20 1 19,Aa 21 9,Ar 22 45 20 21,Aa 18 22,Aq 23 18,Au 24 18,Aa 10 23,Aa 11 24]
def MC:LSO:=[Aa 25 11,Ay 26 25]
def MB:LSO:=[Al 6,Ab 7 21]
def MA:LSO:=[Ad 27 1 3,Ac 28 1 27,Aa 29 1,Aa 30 10,A8 31 127 28 29 30]
def Mz:LSO:=[Al 6,Ab 7 20]
def My:LSO:=[Ad 32 1 3,Ac 33 1 32,Aa 34 1,Aa 35 9,A8 36 128 33 34 35,Aa 1 36]
def GR:LSO:=[Ag 37 14 1,Aa 14 37]
def GP:LSO:=[Ad 38 2 3,Ac 39 1 38,Aa 40 39,.grp none 40 true
 [Af 41 40 1,Bo 42 40 41,Cs 43 40 42 1]
 44 (tm 43)]
def GN:LSO:=[Al 6,Ab 7 19]
def GM:LSO:=[Aa 45 1,Aa 6 45,Ab 7 0]
def Kt:aQ:=⟨46,(aoC MH [] (.seq (aoC MG [] (aoF 0 (aoC MF [] (.seq (aoG 15 0) (.seq (.block 1 (aoC ME Cx (aoC MD CI (.seq (aoC MC Cw (aoE 26 (.sreg MB []))) (.seq (aoC MA Cz (aoE 31 (.sreg Mz []))) (.sreg My C0)))))) (.sreg GR Cw)))))) (.seq (aoC GP Cy (aoE 44 (.sreg GN []))) (aoC GM C3 .ret)))),[(.tmp 6),(.tmp 7)]⟩
attribute [push_cast] MH MG MF ME MD MC MB MA Mz My GR GP GN GM
theorem Wa:aoH 83=aoI Kt:=aoL
def MR:LSO:=[Al 6]
def MQ:LSO:=[Al 7]
def MP:LSO:=[Aa 11 2,Am 12 11,An 13 12 0,Aa 8 13]
def MO:LSO:=[Aa 14 0,Am 15 14,Ab 16 0]
def MN:LSO:=[Ak 17 16 15]
def MM:LSO:=[Ao 18 2 14 16,Ap 19 2 18,Br 10,Aj 2 10 19]
def ML:LSO:=[Aa 20 8,Ay 21 20,Aa 22 21,.grp none 22 true
 [Af 23 22 1,AL 24 22 39 23,AA 25 22 0 10,A6 26 22 1 25,AL 27 22 39 26,og 28 22 true (.bin .leq (tm 24) (tm 27))]
 29 (tm 28)]
def MK:LSO:=[Aa 30 7,Aa 31 1,Aa 32 2,o1 33 (.build [(.str []),(.sl [] 0 (some 0))] [(0,(1,(tm 31))),(1,(1,(tm 32)))]),BI 34 33,BX 35 30 34,Aa 7 35]
def MJ:LSO:=[Az 8]
def MI:LSO:=[Aa 36 1,Ai 37 39 36,Ad 38 0 10,Ac 39 1 38,Ai 40 39 39,BF 41 37 40]
def G5:LSO:=[Aa 42 7,Ap 43 2 10,BI 44 43,BX 45 42 44,Aa 7 45]
def G4:LSO:=[Ag 46 16 1,Aa 16 46]
def G3:LSO:=[Aa 47 8,Ay 48 47]
def G2:LSO:=[Aa 49 7,Aa 50 1,Aa 51 2,o1 52 (.build [(.str []),(.sl [] 0 (some 0))] [(0,(1,(tm 50))),(1,(1,(tm 51)))]),BI 53 52,BX 54 49 53,Aa 7 54]
def G1:LSO:=[Aa 55 7,Aa 6 55]
def Ku:aQ:=⟨56,(aoC MR [] (aoC MQ [] (aoC MP Cy (.seq (aoC MO [] (aoF 0 (aoC MN [] (.seq (aoG 17 0) (.seq (.block 1 (aoC MM Cx (.seq (.seq (.sdreg ML [.pure,.pure,.pure,.pure,(.read 0 0),.pure,(.read 0 0)] Cy) (aoD 29 (aoC MK C2 (.sreg MJ [])) .skip)) (.seq (.sdreg MI [.pure,(.read 0 0),.pure,(.read 0 0)] C0) (aoD 41 (.sreg G5 Cz) .skip))))) (.sreg G4 Cw)))))) (.seq (aoC G3 Cw (aoD 48 (.sreg G2 C2) .skip)) (aoC G1 Cw .ret)))))),[(.tmp 6)]⟩
attribute [push_cast] MR MQ MP MO MN MM ML MK MJ MI G5 G4 G3 G2 G1
theorem Wb:aoH 84=aoI Ku:=aoL
def Hf:LSO:=[A4 2 0,Al 4,Ab 5 0]
def He:LSO:=[Al 6]
def Hd:LSO:=[Aa 12 1,Am 13 12,Ab 14 0]
def Hc:LSO:=[Ak 15 14 13]
def Hb:LSO:=[Ao 16 2 12 14,Ap 17 2 16,Br 8,Aj 2 8 17]
def Ha:LSO:=[Ad 18 0 2,Ac 19 1 18,Ad 20 0 8,Ac 21 1 20,Ar 22 12 19 21,Aa 9 22]
def G9:LSO:=[Aa 23 9,AF 24 23 0]
def G8:LSO:=[Al 4,Ab 5 17]
def G7:LSO:=[Ad 25 1 8,Ac 26 1 25,Am 27 26,An 28 27 0]
def G6:LSO:=[Al 4,Ab 5 19]
def zg:LSO:=[Ad 30 0 2,Ac 31 1 30,Aa 32 9,Ao 33 4 31 32,Ap 34 4 33,Aa 35 6,Ad 36 0 8,Ac 37 1 36,Ar 38 15 35 37,Ad 39 1 8,Ac 40 1 39,A8 41 83 34 38 40,Aa 29 41,
 Aq 42 29,Au 43 29,Aa 10 42,Aa 11 43]
def zf:LSO:=[Aa 44 11,AC 45 44 0]
def ze:LSO:=[Aa 46 11,Al 4,Aa 5 46]
def zd:LSO:=[Aa 47 6,Ad 48 0 2,Ac 49 1 48,Aa 50 9,Ao 51 4 49 50,Ad 52 0 51,Ac 53 1 52,Aa 54 10,A8 55 84 47 53 54,Aa 6 55]
def zc:LSO:=[Ag 56 14 1,Aa 14 56]
def zb:LSO:=[Aa 57 6,Aa 4 57,Ab 5 0]
def yj:aQ:=⟨58,(aoC Hf [] (aoC He [] (.seq (aoC Hd [] (aoF 0 (aoC Hc [] (.seq (aoG 15 0) (.seq (.block 1 (aoC Hb Cx (aoC Ha C0 (.seq (aoC G9 Cw (aoE 24 (.sreg G8 []))) (.seq (aoC G7 Cy (aoE 28 (.sreg G6 []))) (.seq (.sdreg zg [.pure,(.read 0 0),.pure,(.read 0 0),(.read 0 0),.pure,.pure,(.read 0 0),(.read 0 0),.pure,(.read 0 0),(.read 0 0),.pure,.pure,.pure,.pure] [true,true,false,false,false,false,false,false,false,false,false,false,false,false,false,false,false]) (.seq (aoC zf Cw (aoE 45 (.sreg ze C3))) (.sreg zd CK)))))))) (.sreg zc Cw)))))) (aoC zb C3 .ret)))),[(.tmp 4),(.tmp 5)]⟩
attribute [push_cast] Hf He Hd Hc Hb Ha G9 G8 G7 G6 zg zf ze zd zc zb
theorem Uv:aoH 34=aoI yj:=aoL
attribute [push_cast] PE si yg PD yh Kt Ku yj
variable {L:List Blk}{K:alp}
set_option maxHeartbeats 8000000
set_option maxRecDepth 100000
theorem akU{ts:List Typ}(hl:ts.length<=1100000)(hts:∀t∈ts,bv t.1)(hn:bv n)(h1:ez ts n=none->K (.int .i64 (-1)) L)(h2:∀k:Nat,k<ts.length->ez ts n=some (ts.getD k qm)->K (.int .i64 k) L):
  alo 12 [.sl (cj ts) ts.length cap,.str n] L K:=by
 replace h1:=hid h1;replace h2:=hid h2;refine aln WU ?_;refine ah (λm T' L'=>∃k:Nat,m=ts.length-k/\k<=ts.length/\T'=[(8,.int .i64 (k:Int)),(7,.int .i64 ts.length),(0,.sl (cj ts) ts.length cap),(1,.str n)]/\L=L' /\
  ∀j,j<k->¬af (ts.getD j qm).1=af n) (CutS (b:=alr _)) ⟨0,rfl,alw _,rfl,rfl,aoK⟩ ?_
 rintro _ _ L' ⟨k,rfl,hk,rfl,e,hr⟩;subst e;replace hr:=hid hr;by_cases hlt:k<ts.length;have g1:(k:Int)<(ts.length:Int):=aoJ;have g2:=alm k aoJ;have e4:k*4<(cj ts).length:=by rw[PY];omega
 have e3:(cj ts).getD (k*4) .undef=.str (ts.getD k qm).1:=by have h3:=congrArg (λl=>l[0]?) (KV hlt);simp only[amx (show 0<4 by omega),amo,amP]at h3;rw[alR,h3];rfl
 obtain⟨ty,hty⟩:=alj (ts.getD k qm);have hm:bv ty.1:=hts _ (by rw[<- hty];simp[hlt]);rw[hty]at e3;replace hty:=hid hty;by_cases hq:af ty.1=af n;have e:ez ts n=some (ts.getD k qm):=Pt (d:=qm) hlt (λj hj=>decide_eq_false (hr.o j hj)) (by rw[hty.o];exact decide_eq_true hq);have h':=hid (h2.o k hlt e);have kk1:=@aoQ _ _ _ _ (cm hm);have kk2:=@aoQ _ _ _ _ (cm hn);refine wk ?_;exact aa h'.o;have kk1:=@aoQ _ _ _ _ (cm hm);have kk2:=@aoQ _ _ _ _ (cm hn);refine wk ?_;refine aoO aoJ aoM ⟨k+1,rfl,hlt,rfl,rfl,λj hj=>?_⟩;rcases alK j k with h|h;exact hr.o j h;have:j=k:=aoJ;subst this;rw[hty.o];exact hq;have g1:¬(k:Int)<(ts.length:Int):=aoJ;have h':=hid (h1.o (aok.2 λty hty=>by obtain⟨j,hj,e⟩:=amJ.1 hty;have:=hr.o j aoJ;simpa[hj,e]using this))
 refine wk ?_;exact aa h'.o
theorem Ph{syn:Int}{v:List UInt8}{L:List Blk}{K:alp}(h:K (.str (eF syn v)) L):alo 164 [.int .i64 syn,.str v] L K:=by
 unfold eF at h;refine aln Us ?_;refine Tv ?_;rcases hm:bw syn v with _|m
 all_goals rw[hm]at h
 replace h:Hid (K (.str []) L):=hid h;simp only[iC];refine aoR ?_;exact aa h.o;replace h:Hid (K (.str m) L):=hid h;simp only[iC];refine aoR ?_;exact aa h.o
theorem akJ{syn:Int}(hl:l.length<=1100000)(h:K (.bool (inM syn l n)) L):
  alo 127 [.int .i64 syn,.sl (l.map AV.str) l.length cap,.str n] L K:=by
 obtain⟨R,hR⟩:=alj (inM syn l n);rw[hR]at h;replace h:=hid h;refine aln WT ?_;refine ah (λm T' L'=>∃k:Nat,m=l.length-k/\k<=l.length/\Hid (inM syn (l.drop k) n=R)/\T'=[(11,.int .i64 (k:Int)),(10,.int .i64 l.length),(9,.sl (l.map AV.str) l.length cap),(0,.int .i64 syn),(2,.str n)]/\L=L') (CutS (b:=alr _)) ⟨0,rfl,alw _,hid (by simpa using hR),rfl,rfl⟩ ?_;rintro _ _ L' ⟨k,rfl,hk,hI,rfl,e⟩;subst e;by_cases hlt:k<l.length;have g1:(k:Int)<(l.length:Int):=aoJ;have g2:=alm k aoJ;obtain⟨v,hv⟩:=alj (l.getD k []);have g3:(l.map AV.str).getD k .undef=.str v:=by rw[<- hv];simp[hlt]
 have hdr:l.drop k=v::l.drop (k+1):=by rw[ama hlt,<- hv];simp[hlt]
 have hI2:=hI.o;rw[hdr,inM,List.any_cons]at hI2;clear hv hdr hI hR;by_cases hq:eF syn v=n;rw[decide_eq_true hq,anr]at hI2;have h':=h.o;rw[<- hI2]at h';replace h':=hid h';clear hI2;have kk1:=@hid _ @Ph;refine wk ?_;exact aa h'.o;rw[decide_eq_false hq,amY]at hI2;replace hI2:=hid hI2;have kk1:=@hid _ @Ph;refine wk ?_;exact aoO aoJ aoM ⟨k+1,rfl,hlt,hI2,rfl,rfl⟩;have hke:k=l.length:=aoJ;subst hke;have g1:¬(l.length:Int)<(l.length:Int):=aoJ;have h':=h.o;rw[<- hI.o,al6]at h';replace h':=hid h';clear hI hR;refine wk ?_;exact aa h'.o
theorem ajO{syn:Int}{v:List UInt8}(hl:l.length<=1100000)(h:K (F9 (iD syn v false l)) L):
  alo 128 [.int .i64 syn,.sl (l.map AV.str) l.length cap,.str v] L K:=by
 obtain⟨R,hR⟩:=alj (iD syn v false l);rw[hR]at h;replace h:=hid h;refine aln Ut ?_;refine bF (l:=[]) (n:=0) 7 1 rfl (alU 1).symm ?_;refine ah (λm T' L'=>∃(k:Nat) (d:Bool) (u:List (List UInt8)) (C:List AV) (n:Nat),m=l.length-k/\k<=l.length/\n<=k+1/\(d=false->n<=k)/\Hid (C=u.map AV.str/\n=u.length)/\Hid (u++iD syn v d (l.drop k)=R)/\T'=[(13,.int .i64 (k:Int)),(12,.int .i64 l.length),(11,.sl (l.map AV.str) l.length cap),(8,.bool d),(7,.gsl C n L.length 1),(0,.int .i64 syn),(2,.str v)]/\L'=L++[.spare n 1]) aoN ⟨0,false,[],[],0,rfl,alw _,aoK,aoK,hid ⟨rfl,rfl⟩,hid (by simpa using hR),rfl,rfl⟩ ?_;rintro _ _ _ ⟨k,d,u,C,n,rfl,hk,hul,hul2,hC,hI,rfl,rfl⟩;by_cases hlt:k<l.length
 .have g1:(k:Int)<(l.length:Int):=aoJ;have g2:=alm k aoJ;obtain⟨x,hx⟩:=alj (l.getD k []);have g3:(l.map AV.str).getD k .undef=.str x:=(by rw[<- hx];simp[hlt]);have hdr:l.drop k=x::l.drop (k+1):=(by rw[ama hlt,<- hx];simp[hlt]);have hI2:=hI.o;rw[hdr,iD]at hI2;clear hx hdr hI hR;have fin:∀(y:List UInt8),(C++[.str y]=(u++[y]).map AV.str/\n+1=(u++[y]).length):=λy=>by obtain⟨rfl,rfl⟩:=hC.o;simp
  replace fin:=hid fin;replace hI2:=hid hI2;cases d with
  | true =>
    have hI3:=hI2.o;rw[if_neg aoK]at hI3;simp only[al2,anr]at hI3;replace hI3:=hid hI3;clear hI2;have kk1:=@hid _ @Ph;refine wk ?_;refine aoO aoJ aoM ⟨k+1,true,u++[x],C++[.str x],n+1,rfl,hlt,aoJ,aoK,hid (fin.o x),hid (by simpa using hI3.o),rfl,rfl⟩
  | false =>
    have hul3:=hul2 rfl
    repeat' first
     |refine bd ?_
     | (first|refine aV aoL ?_|refine aB aoL ?_|refine aE ?_|refine bJ ?_|refine bg (fun _=>?_)|refine ax ?_|refine aY ?_|refine Ph ?_|refine aU (Ph ⟨rfl,rfl⟩) (Ph ⟨rfl,rfl⟩) ?_|refine aA (Ph ⟨rfl,rfl⟩) ?_)
       refine sm ?_
     | (first|refine aO aoL ?_|refine aP ?_|refine aD ?_|refine aW ?_|refine bq (aw ?_))
       refine sl ?_
     |exact bh
     |first|apply bj|apply aR|apply bm|apply aS|apply bo|apply aT
     |refine aH ?_
     |refine aC ?_
     |first|refine aF rfl ?_|refine aG rfl ?_|refine ao rfl ?_ ?_|refine aJ rfl (λ_=>?_) (λ_=>?_)|refine aI rfl (λ_=>?_) (λ_=>?_)
     |((first|refine an (λ_=>?_) (λ_=>?_)|refine au (λ_=>?_) (λ_=>?_))<;>try refine sm ?_)
     |refine And.intro trivial ?_
     |refine And.intro aoJ ?_
     |refine aL rfl (λ_=>?_) (λ_=>?_)
     |refine And.intro ?_ ?_
    .rename_i hq;rw[bytesLess_eq,decide_eq_true_eq]at hq;have hI3:=hI2.o;rw[if_pos ⟨rfl,hq⟩,decide_eq_true hq,anY]at hI3;refine aoO aoJ aoM ⟨k+1,true,u++[v]++[x],C++[.str v]++[.str x],n+1+1,rfl,hlt,aoJ,aoK,hid ?_,hid (by simpa using hI3),rfl,rfl⟩;obtain⟨rfl,rfl⟩:=hC.o;simp
    .rename_i hq;rw[bytesLess_eq,decide_eq_false_iff_not]at hq;have hI3:=hI2.o;rw[if_neg (λe=>hq e.2),decide_eq_false hq]at hI3;refine aoO aoJ aoM ⟨k+1,false,u++[x],C++[.str x],n+1,rfl,hlt,aoJ,aoJ,hid (fin.o x),hid (by simpa using hI3),rfl,rfl⟩
 have hke:k=l.length:=aoJ;subst hke;have g1:¬(l.length:Int)<(l.length:Int):=aoJ;have hI2:=hI.o;rw[al6,iD]at hI2;have e0:AV.frzL (R.map AV.str)=R.map AV.str:=eh R;have hfin:∀X:List Blk,Fin L (.sl (R.map AV.str) R.length none) (L++X) K:=λX=>ab (by simp only[AV.refs,iX]) h.o
 replace hfin:=hid hfin;cases d with
 | true =>
   rw[if_pos rfl,alY]at hI2;subst hI2;refine wk ?_;refine bu ?_;simp only[AV.frz];rw[hC.o.1,e0,hC.o.2];exact hfin.o _
 | false =>
   rw[if_neg aoK]at hI2;subst hI2;have hul3:=hul2 rfl;refine wk ?_;refine bu ?_;simp only[AV.frz];rw[show C++[AV.str v]=(u++[v]).map AV.str by rw[hC.o.1];simp,e0,show n+1=(u++[v]).length by rw[hC.o.2];simp];exact hfin.o _
theorem Vv(syn:Int)(v:List UInt8):∀(l:List (List UInt8)) (d:Bool),(iD syn v d l).length<=l.length+1
 |[],d=>by rw[iD];split<;>simp
 | x::t,d=>by
   rw[iD];by_cases h:d=false/\eF syn v<eF syn x
   .rw[if_pos h,decide_eq_true h.2,anY,Pl];simp
   .have:=Vv syn v t (d ||decide (eF syn v<eF syn x));rw[if_neg h];simp;omega
theorem ajJ{ty:Typ}{vs:List (List UInt8)}{capV:Option Nat}(hl:l.length+vs.length<=1100000){R:List (List UInt8)×Int}(hR:fD ty.2.1 ty.2.2.1 l vs=R)(h:K (.tup [F9 R.1,.int .i64 R.2]) L):
  alo 83 [.agg (tyC ty),.sl (l.map AV.str) l.length cap,.sl (vs.map AV.str) vs.length capV] L K:=by
 replace h:=hid h;replace hR:=hid hR;simp only[tyC];refine aln Wa ?_;refine ah (λm T' L'=>∃(i:Nat) (u:List (List UInt8)) (cu:Option Nat),m=vs.length-i/\i<=vs.length/\u.length<=l.length+i/\Hid (fD ty.2.1 ty.2.2.1 u (vs.drop i)=R)/\T'=[(14,.int .i64 (i:Int)),(13,.int .i64 vs.length),(12,.sl (vs.map AV.str) vs.length capV),(1,.sl (u.map AV.str) u.length cu),(3,.ptr L.length 0)]/\L'=L++[Blk.cells (tyC ty)]) aoN ⟨0,l,cap,rfl,alw _,alr _,hid (by simpa using hR.o),rfl,rfl⟩ ?_;rintro _ _ _ ⟨i,u,cu,rfl,hi,hul,hI,rfl,rfl⟩;simp only[tyC];by_cases hlt:i<vs.length
 .have g1:(i:Int)<(vs.length:Int):=aoJ;have g2:=alm i aoJ;obtain⟨v,hv⟩:=alj (vs.getD i []);have g3:(vs.map AV.str).getD i .undef=.str v:=(by rw[<- hv];simp[hlt]);have hdr:vs.drop i=v::vs.drop (i+1):=(by rw[ama hlt,<- hv];simp[hlt]);have hI2:=hI.o;rw[hdr]at hI2;have hu1:u.length<=1100000:=aoJ;clear hv hdr hI hR;refine wk ?_;refine Tv ?_;rcases hn:bw ty.2.1 v with _|n;rw[aeF hn]at hI2;have h':=h.o;rw[<- hI2]at h';replace h':=hid h';simp only[iC];clear hI2 hn;refine aoR ?_;exact bu (ab rfl h'.o);rw[aeE hn]at hI2;simp only[iC];rcases hb:inM ty.2.1 u n with _|_
  rotate_left
  rw[if_pos hb]at hI2;have h':=h.o;rw[<- hI2]at h';replace h':=hid h';clear hI2 hn;refine sk ?_;have kk1:=@aoQ _ _ _ _ (akJ (syn:=ty.2.1) (n:=n) (cap:=cu) hu1);refine wk ?_;exact bu (ab rfl h'.o);rw[if_neg (by rw[hb];simp)]at hI2;obtain⟨u',hu'⟩:=alj (iD ty.2.1 v false u);have hl':=Vv ty.2.1 v u false;rw[hu']at hI2 hl';replace hI2:=hid hI2;clear hn;refine sk ?_;have kk1:=@aoQ _ _ _ _ (akJ (syn:=ty.2.1) (n:=n) (cap:=cu) hu1);have kk2:=@aoQ _ _ _ _ (ajO (syn:=ty.2.1) (v:=v) (cap:=cu) hu1);refine wk ?_;exact aoO aoJ aoM ⟨i+1,u',none,rfl,hlt,aoJ,hI2,rfl,rfl⟩
 have hke:i=vs.length:=aoJ;subst hke;have g1:¬(vs.length:Int)<(vs.length:Int):=aoJ;have hI2:=hI.o;rw[al6,fD]at hI2;by_cases hs:ty.2.2.1=true/\1<u.length;rw[if_pos hs]at hI2;have h':=h.o;rw[<- hI2]at h';replace h':=hid h';obtain⟨hs1,hs2⟩:=hs;have g3:(1:Int)<(u.length:Int):=aoJ;clear hI hI2 hR hs2;refine wk ?_;exact bu (ab rfl h'.o);rw[if_neg hs]at hI2;have g3:(ty.2.2.1&&decide ((1:Int)<(u.length:Int)))=false:=by rcases hsg:ty.2.2.1 with _|_;rfl;simp only[aml,decide_eq_false_iff_not];intro e;exact hs ⟨hsg,aoJ⟩
 have h':=h.o;rw[<- hI2]at h';replace h':=hid h';clear hI hI2 hR hs;refine wk ?_;refine bu (ab ?_ ?_);simp only[AV.frz,AV.frzL,eh,AV.refs,AV.refsL,iX];rfl;simp only[AV.frz,AV.frzL,eh];exact h'.o
theorem adt{l:List Atr}(hl:l.length<=1100000)(hz:∀a∈l,bv a.1/\a.2.length<=1100000)(hn:bv n)(h:K (F9 (cc l n)) L):
  alo 15 [.sl (bc l) l.length cap,.str n] L K:=by
 obtain⟨R,hR⟩:=alj (cc l n);rw[hR]at h;replace h:=hid h;replace hR:=hid hR;refine aln Sh ?_;refine ah (λm T' L'=>∃(k:Nat) (X:List Blk),m=l.length-k/\k<=l.length/\Hid (cc (l.drop k) n=R)/\T'=[(9,.int .i64 (k:Int)),(8,.int .i64 l.length),(7,.sl (bc l) l.length cap),(1,.str n)]/\L'=L++X) aoN ⟨0,[],rfl,alw _,hid (by simpa using hR.o),rfl,aoK⟩ ?_;rintro _ _ _ ⟨k,X,rfl,hk,hI,rfl,rfl⟩;by_cases hlt:k<l.length;have g1:(k:Int)<(l.length:Int):=aoJ;have g2:=alm k aoJ;have e3:=oO hlt;have e4:k*2+2<=(bc l).length:=by rw[iN];omega
 obtain⟨⟨nm,vs⟩,ha⟩:∃a,l.getD k ([],[])=a:=⟨_,rfl⟩;have hdr:l.drop k=(nm,vs)::l.drop (k+1):=by rw[ama hlt,<- ha];simp[hlt]
 obtain⟨hnm,hvs⟩:=hz (nm,vs) (by rw[<- ha];simp[hlt]);simp only at hnm hvs;rw[ha]at e3;simp only[atA]at e3;have hI2:=hI.o;rw[hdr,cc]at hI2;simp only at hI2;clear hI hdr ha hz hR;by_cases hq:af nm=af n;rw[if_pos hq]at hI2;subst hI2;have e0:AV.frzL (vs.map AV.str)=vs.map AV.str:=eh vs;have kk1:=@aoQ _ _ _ _ (cm hnm);have kk2:=@aoQ _ _ _ _ (cm hn);refine wk ?_;refine bu ?_;simp only[AV.frz,e0];exact ab (by simp only[AV.refs,iX]) h.o;rw[if_neg hq]at hI2;replace hI2:=hid hI2;have kk1:=@aoQ _ _ _ _ (cm hnm);have kk2:=@aoQ _ _ _ _ (cm hn);refine wk ?_;exact aoO aoJ aoM ⟨k+1,_,rfl,hlt,hI2,rfl,rfl⟩;have hke:k=l.length:=aoJ;subst hke;have g1:¬(l.length:Int)<(l.length:Int):=aoJ;have hI2:=hI.o;rw[al6,cc]at hI2;subst hI2;refine wk ?_;exact bu (ab rfl h.o)
theorem ajH{l:List Atr}{capV:Option Nat}{vs:List (List UInt8)}(hl:l.length<=1100000)(hz:∀a∈l,bv a.1/\a.2.length<=1100000)(hn:bv n)(h:K (.sl (bc (rE n vs vs.isEmpty l)) (rE n vs vs.isEmpty l).length none) L):
  alo 84 [.sl (bc l) l.length cap,.str n,.sl (vs.map AV.str) vs.length capV] L K:=by
 obtain⟨R,hR⟩:=alj (rE n vs vs.isEmpty l);rw[hR]at h;replace h:=hid h;obtain⟨d0,hd0⟩:=alj (vs.isEmpty);have hd1:decide ((vs.length:Int)=0)=d0:=by rw[<- hd0];cases vs<;>simp;omega
 rw[hd0]at hR;replace hR:=hid hR;have ev:AV.frzL (vs.map AV.str)=vs.map AV.str:=eh vs;replace hd0:=hid hd0;refine aln Wb ?_;refine bF (l:=[]) (n:=0) 7 2 rfl (alU 2).symm ?_;refine ah (λm T' L'=>∃(k:Nat) (d:Bool) (u:List Atr) (C:List AV) (z:Nat) (X:List Blk),m=l.length-k/\k<=l.length/\z<=k+1/\(d=false->z<=k)/\Hid (C=bc u/\z=u.length)/\Hid (u++rE n vs d (l.drop k)=R)/\T'=[(16,.int .i64 (k:Int)),(15,.int .i64 l.length),(14,.sl (bc l) l.length cap),(8,.bool d),(7,.gsl C z L.length 2),(1,.str n),(2,.sl (vs.map AV.str) vs.length capV)]/\L'=L++(.spare z 2::X)) aoN ⟨0,d0,[],[],0,[],rfl,alw _,aoK,aoK,hid ⟨rfl,rfl⟩,hid (by simpa using hR.o),rfl,rfl⟩ ?_;rintro _ _ _ ⟨k,d,u,C,z,X,rfl,hk,hul,hul2,hC,hI,rfl,rfl⟩;by_cases hlt:k<l.length;have g1:(k:Int)<(l.length:Int):=aoJ;have g2:=alm k aoJ;have e3:=oO hlt;have e4:k*2+2<=(bc l).length:=by rw[iN];omega
 obtain⟨⟨nm,ws⟩,ha⟩:∃a,l.getD k ([],[])=a:=⟨_,rfl⟩;have hdr:l.drop k=(nm,ws)::l.drop (k+1):=by rw[ama hlt,<- ha];simp[hlt]
 obtain⟨hnm,hws⟩:=hz (nm,ws) (by rw[<- ha];simp[hlt]);simp only at hnm hws;rw[ha]at e3;simp only[atA]at e3;have ew:AV.frzL (ws.map AV.str)=ws.map AV.str:=eh ws;have hI2:=hI.o;rw[hdr,rE]at hI2;simp only at hI2;have fin:∀(C':List AV) (u':List Atr) (z':Nat) (a:Atr),C'=bc u'/\z'=u'.length->C'++[.str a.1,.sl (a.2.map AV.str) a.2.length none]=bc (u'++[a])/\z'+1=(u'++[a]).length:=λC' u' z' a e=>by obtain⟨rfl,rfl⟩:=e;simp[KJ,bc]
 replace fin:=hid fin;replace hd1:=hid hd1;clear hI hdr ha hz hR;by_cases hx:af nm<af n;have hq:af n≠af nm:=λe=>by rw[e]at hx;exact amz _ hx
 have hb:Op.bytesLess (af n) (af nm)=false:=by rw[bytesLess_eq,decide_eq_false_iff_not];exact λe=>amz _ (anv hx e)
 cases d with
 | true =>
   have hI3:=hI2;rw[if_neg (λe=>by cases e.1),if_pos hq]at hI3;rw[show(true || !decide (af nm<af n))=true by simp[hx]]at hI3;replace hI3:=hid hI3;clear hI2;have kk1:=@aoQ _ _ _ _ (cm hn);have kk2:=@aoQ _ _ _ _ (cm hnm);refine wk ?_;exact aoO aoJ aoM ⟨k+1,true,u++[(nm,ws)],C++[.str nm,.sl (ws.map AV.str) ws.length none],z+1,_,rfl,hlt,aoJ,aoK,hid (fin.o _ _ _ (nm,ws) hC.o),hid (by simpa using hI3.o),rfl,rfl⟩
 | false =>
   have hul3:=hul2 rfl;have hI3:=hI2;rw[if_neg (λe=>e.2 hx),if_pos hq]at hI3;rw[show(false || !decide (af nm<af n))=false by simp[hx]]at hI3;replace hI3:=hid hI3;clear hI2;have kk1:=@aoQ _ _ _ _ (cm hn);have kk2:=@aoQ _ _ _ _ (cm hnm);refine wk ?_;exact aoO aoJ aoM ⟨k+1,false,u++[(nm,ws)],C++[.str nm,.sl (ws.map AV.str) ws.length none],z+1,_,rfl,hlt,aoJ,by simp;omega,hid (fin.o _ _ _ (nm,ws) hC.o),hid (by simpa using hI3.o),rfl,rfl⟩
 by_cases hq:af n=af nm;have hb:Op.bytesLess (af n) (af nm)=false:=by rw[bytesLess_eq,decide_eq_false_iff_not,hq];exact amz _
 cases d with
 | true =>
   have hI3:=hI2;rw[if_neg (λe=>by cases e.1),if_neg (λe=>e hq)]at hI3;rw[show(true || !decide (af nm<af n))=true by simp[hx]]at hI3;replace hI3:=hid hI3;clear hI2;have kk1:=@aoQ _ _ _ _ (cm hn);have kk2:=@aoQ _ _ _ _ (cm hnm);refine wk ?_;exact aoO aoJ aoM ⟨k+1,true,u,C,z,_,rfl,hlt,aoJ,aoK,hid hC.o,hid (by simpa using hI3.o),rfl,rfl⟩
 | false =>
   have hul3:=hul2 rfl;have hI3:=hI2;rw[if_pos ⟨rfl,hx⟩,if_neg (λe=>e hq)]at hI3;rw[show(false || !decide (af nm<af n))=true by simp[hx]]at hI3;replace hI3:=hid hI3;clear hI2;have kk1:=@aoQ _ _ _ _ (cm hn);have kk2:=@aoQ _ _ _ _ (cm hnm);refine wk ?_;exact aoO aoJ aoM ⟨k+1,true,u++[(n,vs)],C++[.str n,.sl (vs.map AV.str) vs.length none],z+1,_,rfl,hlt,aoJ,aoK,hid (fin.o _ _ _ (n,vs) hC.o),hid (by simpa using hI3.o),rfl,rfl⟩
 have hb:Op.bytesLess (af n) (af nm)=true:=by rw[bytesLess_eq,decide_eq_true_eq];exact(anL.1 (amR.1 hx)).resolve_right hq
 cases d with
 | true =>
   have hI3:=hI2;rw[if_neg (λe=>by cases e.1),if_pos hq]at hI3;rw[show(true || !decide (af nm<af n))=true by simp[hx]]at hI3;replace hI3:=hid hI3;clear hI2;have kk1:=@aoQ _ _ _ _ (cm hn);have kk2:=@aoQ _ _ _ _ (cm hnm);refine wk ?_;exact aoO aoJ aoM ⟨k+1,true,u++[(nm,ws)],C++[.str nm,.sl (ws.map AV.str) ws.length none],z+1,_,rfl,hlt,aoJ,aoK,hid (fin.o _ _ _ (nm,ws) hC.o),hid (by simpa using hI3.o),rfl,rfl⟩
 | false =>
   have hul3:=hul2 rfl;have hI3:=hI2;rw[if_pos ⟨rfl,hx⟩,if_pos hq]at hI3;rw[show(false || !decide (af nm<af n))=true by simp[hx]]at hI3;replace hI3:=hid hI3;clear hI2;have kk1:=@aoQ _ _ _ _ (cm hn);have kk2:=@aoQ _ _ _ _ (cm hnm);refine wk ?_;exact aoO aoJ aoM ⟨k+1,true,u++[(n,vs)]++[(nm,ws)],C++[.str n,.sl (vs.map AV.str) vs.length none]++[.str nm,.sl (ws.map AV.str) ws.length none],z+1+1,_,rfl,hlt,aoJ,aoK,hid (fin.o _ _ _ (nm,ws) (fin.o _ _ _ (n,vs) hC.o)),hid (by simpa using hI3.o),rfl,rfl⟩
 have hke:k=l.length:=aoJ;subst hke;have g1:¬(l.length:Int)<(l.length:Int):=aoJ;have hI2:=hI.o;rw[al6,rE]at hI2;have e0:=eX R;have hfin:∀X:List Blk,Fin L (.sl (bc R) R.length none) (L++X) K:=λX=>ab (by simp only[AV.refs,La]) h.o
 replace hfin:=hid hfin;replace hd1:=hid hd1;clear hI hR;cases d with
 | true =>
   rw[if_pos rfl,alY]at hI2;subst hI2;refine wk ?_;refine bu ?_;simp only[AV.frz];rw[hC.o.1,e0,hC.o.2];exact hfin.o _
 | false =>
   rw[if_neg aoK]at hI2;subst hI2;have hul3:=hul2 rfl;refine wk ?_;refine bu ?_;simp only[AV.frz];rw[show C++[AV.str n,.sl (vs.map AV.str) vs.length none]=bc (u++[(n,vs)])by rw[hC.o.1,KJ];simp[bc],e0,show z+1=(u++[(n,vs)]).length by rw[hC.o.2];simp];exact hfin.o _
theorem aib{ts:List Typ}{capT:Option Nat}{c2:List AV}{n2:Nat}{cap2:Option Nat}{list:List Atr}(hts:ahi ts)(hl:list.length<=100)(hv:∀a∈list,bv a.1/\a.2.length<=9000){R:List Atr×Int}(hR:xl ts [] list=R)(h:K (.tup [.sl (bc R.1) R.1.length none,.int .i64 R.2]) L):
  alo 34 [.agg [.sl (cj ts) ts.length capT,.sl c2 n2 cap2],.sl (bc list) list.length cap] L K:=by
 replace h:=hid h;replace hR:=hid hR;refine aln Uv ?_;obtain⟨sC,hsC⟩:=alj (AV.sl c2 n2 cap2);rw[hsC];refine ah (λm T' L'=>∃(i:Nat) (out:List Atr) (co:Option Nat) (X:List Blk),m=list.length-i/\i<=list.length/\out.length<=i/\Hid (xl ts out (list.drop i)=R)/\Hid (∀a∈out,bv a.1/\a.2.length<=9000*i)/\T'=[(14,.int .i64 (i:Int)),(13,.int .i64 list.length),(12,.sl (bc list) list.length cap),(6,.sl (bc out) out.length co),(2,.ptr L.length 0)]/\L'=L++(.cells [.sl (cj ts) ts.length capT,sC]::X)) aoN ⟨0,[],some 0,[],rfl,alw _,alr _,hid (by simpa using hR.o),hid aoK,rfl,aoK⟩ ?_;rintro _ _ _ ⟨i,out,co,X,rfl,hi,hol,hI,ho,rfl,rfl⟩;by_cases hlt:i<list.length;have g1:(i:Int)<(list.length:Int):=aoJ;have g2:=alm i aoJ;have e3:=oO hlt;have e4:i*2+2<=(bc list).length:=by rw[iN];omega
 obtain⟨⟨nm,vs⟩,ha⟩:∃a,list.getD i ([],[])=a:=⟨_,rfl⟩;have hdr:list.drop i=(nm,vs)::list.drop (i+1):=by rw[ama hlt,<- ha];simp[hlt]
 obtain⟨hnm,hvs⟩:=hv (nm,vs) (by rw[<- ha];simp[hlt]);simp only at hnm hvs;rw[ha]at e3;simp only[atA]at e3;have hI2:=hI.o;rw[hdr,xl]at hI2;simp only at hI2;replace hI2:=hid hI2;clear hI hdr ha hv hR;refine wk ?_;refine akU hts.1 hts.2.1 hnm (λhty=>?_) (λt ht hty=>?_);have hI3:=hI2.o;rw[hty]at hI3;simp only at hI3;have h':=h.o;rw[<- hI3]at h';replace h':=hid h';clear hI2 hI3 hty;refine aoR ?_;exact bu (ab rfl h'.o);have hI3:=hI2.o;have e5:=KV ht;have e6:t*4+4<=(cj ts).length:=by rw[PY];omega
 have e8:(cj ts).getD (t*4) .undef=.str (ts.getD t qm).1:=by have h3:=congrArg (λl=>l[0]?) (KV ht);simp only[amx (show 0<4 by omega),amo,amP]at h3;rw[alR,h3];rfl
 have g3:¬(t:Int)<0:=aoJ;have g4:(t:Int)<(ts.length:Int):=aoJ;have g6:t*4<(cj ts).length:=aoJ;have htn:=KW hty;obtain⟨ty,hte⟩:=alj (ts.getD t qm);rw[hte]at hty e5 e8 htn;rw[hty]at hI3;simp only at hI3;simp only[tyC]at e5;by_cases hvn:vs=[];rw[if_pos hvn]at hI3;have h':=h.o;rw[<- hI3]at h';replace h':=hid h';subst hvn;clear hI2 hI3 hty htn hte;refine aoR ?_;exact bu (ab rfl h'.o);rw[if_neg hvn]at hI3;have g5:¬(vs.length:Int)=0:=by rcases vs with _|⟨x,t⟩;exact absurd rfl hvn;simp;omega
 obtain⟨V,hV⟩:=alj (cc out nm);have hVl:V.length<=9000*i:=by rw[<- hV];exact aaV λa ha=>(ho.o a ha).2
 rw[hV]at hI3;obtain⟨A,hA⟩:=alj (fD ty.2.1 ty.2.2.1 V vs);rw[hA]at hI3;have kk1:Hid (Ctr Tryz.prog 15 [.sl (bc out) out.length co,.str nm] (.sl (V.map AV.str) V.length none)):=hid λq=>adt aoJ (λa ha=>⟨(ho.o a ha).1,by have:=(ho.o a ha).2;omega⟩) hnm (by rw[hV];exact q)
 have kk2:Hid (Ctr Tryz.prog 83 [.agg [.str ty.1,.int .i64 ty.2.1,.bool ty.2.2.1,.bool ty.2.2.2],.sl (V.map AV.str) V.length none,.sl (vs.map AV.str) vs.length none] (.tup [.sl (A.1.map AV.str) A.1.length none,.int .i64 A.2])):=hid λq=>ajJ (ty:=ty) aoJ hA q
 have kk3:Hid (Ctr Tryz.prog 84 [.sl (bc out) out.length co,.str ty.1,.sl (A.1.map AV.str) A.1.length none] (.sl (bc (rE ty.1 A.1 A.1.isEmpty out)) (rE ty.1 A.1 A.1.isEmpty out).length none)):=hid λq=>ajH aoJ (λa ha=>⟨(ho.o a ha).1,by have:=(ho.o a ha).2;omega⟩) (hts.2.1 ty htn.1) q
 obtain⟨A1,A2⟩:=A;simp only at kk2 kk3 hI3;obtain⟨out',hout'⟩:=alj (rE ty.1 A1 A1.isEmpty out);rw[hout']at kk3 hI3;clear hI2 hvn hty;by_cases hc0:A2=0;subst hc0;rw[if_neg aoK]at hI3;have hAl:=Wz (by rw[hA]:(fD ty.2.1 ty.2.2.1 V vs).2=0);rw[hA]at hAl;simp only at hAl;have hol':out'.length<=i+1:=by have:=@Yl ty.1 A1 A1.isEmpty out;rw[hout']at this;split at this<;>omega
 have ho':∀a∈out',bv a.1/\a.2.length<=9000*(i+1):=λa ha=>by rw[<- hout']at ha;rcases U1 ha with e|e;rw[e];exact⟨hts.2.1 ty htn.1,by simp only;omega⟩;have:=ho.o a e;exact⟨this.1,aoJ⟩
 replace hI3:=hid hI3;replace ho':=hid ho';clear hA hV hout' hAl htn hte;refine aoR ?_;exact aoO aoJ aoM ⟨i+1,out',none,_,rfl,hlt,hol',hI3,ho',rfl,rfl⟩;rw[if_pos hc0]at hI3;have h':=h.o;rw[<- hI3]at h';replace h':=hid h';clear hA hV hout' htn hI3 hte;refine aoR ?_;exact bu (ab rfl h'.o);have hke:i=list.length:=aoJ;subst hke;have g1:¬(list.length:Int)<(list.length:Int):=aoJ;have hI2:=hI.o;rw[al6,xl]at hI2;have h':=h.o;rw[<- hI2]at h';replace h':=hid h';clear hI hI2 hR hv;have e0:=eX out;refine wk ?_;refine bu ?_;simp only[AV.frz,AV.frzL,e0];exact ab (by simp only[AV.refs,AV.refsL,La];rfl) h'.o
theorem af5{ts:List Typ}{B:Nat}:∀{l out:List Atr}{i:Nat},out.length<=i->(∀a∈out,a.2.length<=B*i)->(∀a∈l,a.2.length<=B)->(xl ts out l).1.length<=i+l.length/\∀a∈(xl ts out l).1,a.2.length<=B*(i+l.length)
 |[],out,i,h1,h2,_=>by rw[xl];exact⟨h1,h2⟩
 | x::t,out,i,h1,h2,h3=>by
   have nil:([]:List Atr).length<=i+(x::t).length/\∀a∈([]:List Atr),a.2.length<=B*(i+(x::t).length):=⟨aoK,λa ha=>by cases ha⟩;rw[xl];rcases hty:ez ts x.1 with _|ty
   .exact nil
   .simp only;split
    .exact nil
    .split
     .exact nil
     .rename_i hd;simp only[ne_eq,anN]at hd;have hl:=Wz hd;have hv:=aaV (l:=out) (n:=x.1) h2;have hx:=h3 x aoK;have hB:=Nat.mul_add_one B i;have:=@af5 ts B t (rE ty.1 (fD ty.2.1 ty.2.2.1 (cc out x.1) x.2).1 (fD ty.2.1 ty.2.2.1 (cc out x.1) x.2).1.isEmpty out) (i+1) (by
       have:=@Yl ty.1 (fD ty.2.1 ty.2.2.1 (cc out x.1) x.2).1 (fD ty.2.1 ty.2.2.1 (cc out x.1) x.2).1.isEmpty out;split at this<;>omega) (λa ha=>by
       rcases U1 ha with e|e
       .rw[e];simp only;omega
       .have:=h2 a e;omega) (λa ha=>h3 a (by simp[ha]))
      rw[alA,show i+(t.length+1)=i+1+t.length by omega];exact this
abbrev Cls:=List UInt8×List UInt8×Int×List (List UInt8)×List (List UInt8)
abbrev afV:Cls:=([],[],0,[],[])
def akp(cs:List Cls)(j:Nat):Prop:=gh (cs.getD j afV).1=true/\(∀c∈cs.take j,af c.1≠af (cs.getD j afV).1)/\((cs.getD j afV).2.1≠[]->∃w,w<j/\af (cs.getD w afV).1=af (cs.getD j afV).2.1)
def akq(cs:List Cls):Prop:=∀j,j<cs.length->akp cs j
theorem ag6{xs:List (List UInt8)}(hn:xs.length<=2000000)(h:K (.sl (xs.map AV.str) xs.length none) L):
  alo 51 [.sl (xs.map AV.str) xs.length cap] L K:=by
 replace h:=hid h;by_cases h0:xs=[]
 .subst h0;refine ac ci (by simp[a8]) ?_;simp only[a8,am]
  repeat' first
   |refine bd ?_
   | (first|refine aV aoL ?_|refine aB aoL ?_|refine aE ?_|refine bJ ?_|refine bg (fun _=>?_)|refine ax ?_|refine aY ?_)
     refine sm ?_
   | (first|refine aO aoL ?_|refine aP ?_|refine aD ?_|refine aW ?_|refine bq (aw ?_))
     refine sl ?_
   |exact bh
   |first|apply bj|apply aR|apply bm|apply aS|apply bo|apply aT
   |refine aH ?_
   |refine aC ?_
   |first|refine aF rfl ?_|refine aG rfl ?_|refine ao rfl ?_ ?_|refine aJ rfl (λ_=>?_) (λ_=>?_)|refine aI rfl (λ_=>?_) (λ_=>?_)
   |((first|refine an (λ_=>?_) (λ_=>?_)|refine au (λ_=>?_) (λ_=>?_))<;>try refine sm ?_)
   |refine And.intro trivial ?_
   |refine And.intro aoJ ?_
   |refine aL rfl (λ_=>?_) (λ_=>?_)
   |refine And.intro ?_ ?_
  all_goals
   refine bu ?_;rw[show(AV.sl [] 0 (some 0)).frz=.sl (([]:List (List UInt8)).map AV.str) ([]:List (List UInt8)).length none from rfl];exact aa h.o
 have h1:¬xs.length=0:=λc=>h0 (al1.1 c)
 have h2:(xs.map AV.str).all AV.one=true:=by rw[alC];intro a ha;obtain⟨r,_,rfl⟩:=alt.1 ha;rfl
 refine aln ci ?_;refine KN (i:=L.length) (l:=xs.map AV.str) aoK ?_;rw[show(AV.lsl L.length 0 xs.length none 1).snap L.length (xs.map AV.str)=.sl (xs.map AV.str) xs.length none from by simp[AV.snap,ams],show(L++[Blk.cells (xs.map AV.str)]).set L.length .dead=L++[.dead]by simp];exact ab (by simp only[AV.refs];exact iX _ _) h.o
structure alh(cs:List Cls):Prop where
 d:akq cs
 l:cs.length<=40
 r:∀c∈cs,bv c.1/\bv c.2.1/\c.2.2.2.1.length<=2000000/\c.2.2.2.2.length<=2000000/\(∀v∈c.2.2.2.1,bv v)/\∀v∈c.2.2.2.2,bv v
theorem aen(a b:List (List UInt8×Int))(l:List Atr):eU (a++b) l=eU a l++eU b l:=by unfold eU;rw[anR]
theorem ae3(a b:TMp):gg (a++b)=gg a++gg b:=by unfold gg;rw[alW]
theorem aem(f:List UInt8)(s:Int)(l:List Atr):eU [(f,s)] l=(cc l f).flatMap (xz f s):=by unfold eU;simp
theorem XX{t:List (List UInt8×Int)}{l:List Atr}:k∈eU t l↔∃p∈t,k∈(cc l p.1).flatMap (xz p.1 p.2):=by unfold eU;rw[List.mem_flatMap]
theorem aci{B:Nat}(n:List UInt8):∀{l:List Atr},(∀x∈l,x.2.length<=B)->(cc l n).length<=B
 |[],_=>by simp[cc]
 | a::l,h=>by
   rw[cc];split
   .exact h a aoK
   .exact aci n λx hx=>h x (by simp[hx])
theorem agW{f:FuncId}{caps:List AV}{tm:TMp}{J:List ba->(Nat->Prop)->List Blk->Prop}(hd:DoK Tryz.prog f caps it im ie ip ii tm J){a:List Atr}(hal:a.length<=1100000)(har:gT dS a)(haz:∀x∈a,bv x.1/\x.2.length<=1100000)(hm:di tm tm.length)(hf:∀e∈tm,bv e.1){B0:Nat->Prop}(h0:J [] B0 L)(h:∀L',EaI J B0 L [] (λk=>k∈eU (gg tm) a) L'->K (.tup []) L'):
  alo 53 [.ptr it 0,.sl (bc a) a.length cap,.func f caps] L K:=by
 have hE0:=hid ((EaI.start h0).app hd (.miter (some im) tm.length [] tm.length));obtain⟨st,ty⟩:=(EaI.start h0).st hd;replace h:=hid h;replace hm:=hid hm;replace hf:=hid hf;replace hd:=hid hd;have hvl:Hid (∀n,(cc a n).length<=1100000):=hid (λn=>aci n λx hx=>(haz x hx).2);have kG:Hid (∀{n:List UInt8},bv n->∀{L:List Blk}{K:alp},K (F9 (cc a n)) L->alo 52 [.sl (bc a) a.length cap,.str n] L K):=@hid _ (λ{n} hn {L K} q=>abV hal har haz hn q);clear hal har haz h0;refine aln Ge ?_;refine ah (λn T' L'=>∃(seen:List Nat) (ps:TMp),n=(tm.filter λr => !seen.contains r.2.2).length/\Hid (xI tm ps seen)/\Hid (EaI J B0 L [(L.length,.miter (some im) tm.length seen tm.length)] (λk=>k∈eU (gg ps) a) L')/\T'=[(18,.ptr L.length 0),(0,.ptr it 0),(1,.sl (bc a) a.length cap),(2,.func f caps)]) aoN ⟨[],[],rfl,hid xI.nil,hid (hE0.o.iff λk=>by simp[eU,gg]),rfl⟩ ?_;clear hE0 st ty;rintro _ _ L' ⟨seen,ps,rfl,hcm,hE,rfl⟩;have hat:=hE.o.at (i:=L.length) (alM.2 rfl);obtain⟨hst,hty⟩:=hE.o.st hd.o;have hnl:(L++[Blk.miter (some im) tm.length [] tm.length]).length<=L'.length:=by have:=(alq.1 hat).1;simp;omega
 refine bd ?_;refine UV (i:=L.length) (j:=im) (es:=be AV.str tyV tm) aoL rfl hat hty (λe he=>?_) (alr _) (λhall=>?_) (λe he hs=>?_);obtain⟨p,hp,rfl⟩:=alt.1 he;exact hm.o.lt p hp;have hall2:=hcm.o.all hm.o λx hx=>hall (Gb AV.str tyV x) (alt.2 ⟨x,hx,rfl⟩)
 have hfin:=hid (h.o L' ((hE.o.iff λk=>by rw[XX,XX];unfold gg;simp only[alt];constructor;rintro⟨q,⟨e,h1,h2⟩,h3⟩;exact⟨q,⟨e,(hall2 e).1 h1,h2⟩,h3⟩;rintro⟨q,⟨e,h1,h2⟩,h3⟩;exact⟨q,⟨e,(hall2 e).2 h1,h2⟩,h3⟩).sub (F':=[]) aoK))
 clear hall hall2 hE hcm h kG hd hm hf;refine aoR ?_;exact eE rfl trivial (aa hfin.o);obtain⟨p,hp,rfl⟩:=alt.1 he;clear he;have hs':seen.contains p.2.2=false:=hs;have hlt:=hid (ajy hp hs');have hcm':=hid (hcm.o.next hp);have hmat:=af4 (ka:=AV.str) (va:=tyV) (ck:=tm.length) (seen:=seen) hm.o.born hp;have hfr:=hf.o p hp;have hE2:=hid (hE.o.turn hd.o (.miter (some im) tm.length (seen++[p.2.2]) tm.length) aoK);obtain⟨fn,⟨t1,t2,t3,t4⟩,bn⟩:=p;simp only[Gb]at *;clear hs hs' hcm hE hat hst hty hp;obtain⟨L2,hL2⟩:=alj (L'.set L.length (Blk.miter (some im) tm.length (seen++[bn]) tm.length));have hl2:L'.length=L2.length:=by rw[<- hL2];simp
 rw[hL2]at hE2⊢;clear hL2;have hat:=hE2.o.at (i:=L.length) (alM.2 rfl);obtain⟨hst,hty⟩:=hE2.o.st hd.o;have kk1:Hid (Ctr Tryz.prog 52 [.sl (bc a) a.length cap,.str fn] (F9 (cc a fn))):=@hid _ (λ{L K} q=>kG.o hfr q);obtain⟨vs,hvs⟩:=alj (cc a fn);rw[hvs]at kk1;replace hvs:=hid hvs;have hE3:=hid (hE2.o.app hd.o (.cells [.str t1,.int .i64 t2,.bool t3,.bool t4]));have hvn:=hid (show vs.length<=1100000 by rw[<- hvs.o];exact hvl.o fn);clear hE2 hfr;refine aoR ?_;refine ah (λm T' L3=>∃i:Nat,m=vs.length-i/\i<=vs.length/\Hid (EaI J B0 L [(L2.length,.cells [.str t1,.int .i64 t2,.bool t3,.bool t4]),(L.length,.miter (some im) tm.length (seen++[bn]) tm.length)] (λk=>k∈eU (gg ps) a\/k∈(vs.take i).flatMap (xz fn t2)) L3)/\T'=[(28,.int .i64 (i:Int)),(27,.int .i64 vs.length),(26,.sl (vs.map AV.str) vs.length none),(6,.str fn),(7,.ptr L2.length 0),(18,.ptr L.length 0),(0,.ptr it 0),(1,.sl (bc a) a.length cap),(2,.func f caps)]) aoN ⟨0,rfl,alw _,hid (hE3.o.iff λk=>aoK),rfl⟩ ?_;clear hE3 kk1 hat hst hty hmat;rintro _ _ L3 ⟨i,rfl,hi,hE,rfl⟩;have hat:=hE.o.at (i:=L2.length) anq;have hl3:L2.length+1<=L3.length:=(alq.1 hat).1;have hvn':=hvn.o;by_cases hiv:i<vs.length;have j1:(i:Int)<(vs.length:Int):=aoJ;have j2:=alm i aoJ;have j3:(vs.map AV.str).getD i .undef=.str (vs.getD i []):=by simp[hiv]
 have j4:i<(vs.map AV.str).length:=by simpa using hiv
 obtain⟨v,hv⟩:=alj (vs.getD i []);have htk:vs.take (i+1)=vs.take i++[v]:=by rw[alN hiv,<- hv];simp[hiv]
 rw[hv]at j3;replace htk:=hid htk;obtain⟨VS,hVS⟩:=alj (vs.map AV.str);rw[hVS]at j3 j4⊢;clear hv hvn';rcases hno:bw t2 v with _|n;have kk1:Hid (Ctr Tryz.prog 48 [.int .i64 t2,.str v] (.tup [.str [],.bool false])):=@hid _ (λ{L K} q=>eg (by rw[hno];exact q));have hE5:=hid (hE.o.iff (M':=λk=>k∈eU (gg ps) a\/k∈(vs.take (i+1)).flatMap (xz fn t2)) λk=>by rw[htk.o,anR,alv];simp[xz,hno])
 clear hE hno htk;refine wk ?_;rw[<- hVS];exact aoO aoJ (CutL (b:=hl3)) ⟨i+1,rfl,hiv,hE5,rfl⟩;have kk1:Hid (Ctr Tryz.prog 48 [.int .i64 t2,.str v] (.tup [.str n,.bool true])):=@hid _ (λ{L K} q=>eg (by rw[hno];exact q));have hnl2:=afT hno;have kk2:Hid (Ctr Tryz.prog 41 [.str n] (F9 (db n))):=@hid _ (λ{L K} q=>acM aoJ q);have hgl:=rZ n;obtain⟨gs,hgs⟩:=alj (db n);rw[hgs]at kk2 hgl;have hgb:gs.length<=100000:=aoJ;clear hgl;replace hgb:=hid hgb;have hev:Hid (xz fn t2 v=(fn,false,n)::gs.map λg=>(fn,true,g)):=hid (by unfold xz;rw[hno];simp only[hgs]);clear hno hgs;refine wk ?_;refine hE.o.go hd.o (k:=(fn,false,n)) λL4 hE4 hl4=>?_
 replace hE4:=hid hE4;replace hl4:=hid (alQ hl3 hl4);clear hE hat hl3;refine wk ?_;refine ah (λm T' L5=>∃j:Nat,m=gs.length-j/\j<=gs.length/\Hid (L4.length<=L5.length)/\Hid (EaI J B0 L [(L2.length,.cells [.str t1,.int .i64 t2,.bool t3,.bool t4]),(L.length,.miter (some im) tm.length (seen++[bn]) tm.length)] (λk=>(k∈eU (gg ps) a\/k∈(vs.take i).flatMap (xz fn t2))\/k=(fn,false,n)\/k∈(gs.take j).map λg=>(fn,true,g)) L5)/\T'=[(49,.int .i64 (j:Int)),(48,.int .i64 gs.length),(47,.sl (gs.map AV.str) gs.length none),(28,.int .i64 (i:Int)),(27,.int .i64 vs.length),(26,.sl VS vs.length none),(6,.str fn),(7,.ptr L2.length 0),(18,.ptr L.length 0),(0,.ptr it 0),(1,.sl (bc a) a.length cap),(2,.func f caps)]) (CutS (b:=alr _)) ⟨0,rfl,alw _,hid (alr _),hid (hE4.o.iff λk=>by simp[or_assoc]),rfl⟩ ?_;clear hE4 kk1 kk2 j3 j4;rintro _ _ L5 ⟨j,rfl,hj,hl5,hE,rfl⟩;have hat:=hE.o.at (i:=L2.length) anq;have hgb2:=hgb.o;by_cases hjg:j<gs.length;have g1:(j:Int)<(gs.length:Int):=aoJ;have g2:=alm j aoJ;clear hgb2;have g3:(gs.map AV.str).getD j .undef=.str (gs.getD j []):=by simp[hjg]
 have g4:j<(gs.map AV.str).length:=by simpa using hjg
 obtain⟨g,hg⟩:=alj (gs.getD j []);have htj:gs.take (j+1)=gs.take j++[g]:=by rw[alN hjg,<- hg];simp[hjg]
 rw[hg]at g3;replace htj:=hid htj;obtain⟨GS,hGS⟩:=alj (gs.map AV.str);rw[hGS]at g3 g4⊢;clear hg;refine wk ?_;refine hE.o.go hd.o (k:=(fn,true,g)) λL6 hE6 hl6=>?_
 have hE7:=hid (hE6.iff (M':=λk=>(k∈eU (gg ps) a\/k∈(vs.take i).flatMap (xz fn t2))\/k=(fn,false,n)\/k∈(gs.take (j+1)).map λg=>(fn,true,g)) λk=>by rw[htj.o];simp[or_assoc])
 replace hl6:=hid (alQ hl5.o hl6);clear hE hE6 hat;refine wk ?_;rw[<- hGS];exact aoO aoJ (CutL (b:=hl6.o)) ⟨j+1,rfl,hjg,hl6,hE7,rfl⟩;have hje:j=gs.length:=aoJ;subst hje;have g1:¬(gs.length:Int)<(gs.length:Int):=aoJ;have hE5:=hid (hE.o.iff (M':=λk=>k∈eU (gg ps) a\/k∈(vs.take (i+1)).flatMap (xz fn t2)) λk=>by rw[htk.o,anR,alv,alF];simp[hev.o,or_assoc])
 have hl7:=alQ hl4.o hl5.o;clear hE hat;refine wk ?_;rw[<- hVS];exact aoO aoJ (CutL (b:=hl7)) ⟨i+1,rfl,hiv,hE5,rfl⟩;have hie:i=vs.length:=aoJ;subst hie;have j1:¬(vs.length:Int)<(vs.length:Int):=aoJ;have hE5:=hid ((hE.o.sub (F':=[(L.length,.miter (some im) tm.length (seen++[bn]) tm.length)]) aoK).iff (M':=λk=>k∈eU (gg (ps++[(fn,(t1,t2,t3,t4),bn)])) a) λk=>by rw[alF,ae3,aen,alv];show _↔_\/k∈eU [(fn,t2)] a;rw[aem,hvs.o])
 have hl7:L.length+1<=L3.length:=by rw[alJ]at hnl;simp only[alA,amg]at hnl;omega
 clear hE hat;refine wk ?_;exact aoO hlt.o (CutL (b:=hl7)) ⟨_,_,rfl,hcm',hE5,rfl⟩
section
variable {L:List Blk}{it im ie ip ii:Nat}{tm:TMp}{em:List (bp Int (List Atr))}{ec:Nat}{pm:List (bp (List UInt8) Nat)}{pc:Nat}{dm:List (bp ba Nat)}{dc:Nat}{Q:List UInt8->Int->Prop}{R:ba->Int->Prop}
theorem IxH.noOwn(h:IxH L it im ie ip ii tm tm.length em ec pm pc dm dc Q R){j:Nat}{c:List AV}(hj:L[j]?=some (.cells c))(hc:c.length≠4):j∉it::im::ie::ip::ii::(pm.map (·.2.1)++dm.map (·.2.1)):=by intro hm;simp only[alu,alv]at hm;rcases hm with rfl|rfl|rfl|rfl|rfl|hi|hi;rw[h.st]at hj;cases hj;exact hc rfl;rw[h.ty]at hj;cases hj;rw[h.en]at hj;cases hj;rw[h.pr]at hj;cases hj;rw[h.ids]at hj;cases hj;obtain⟨e,he,rfl⟩:=alt.1 hi;obtain⟨xs,ck,q,_⟩:=h.ps e.1 e.2.1 (xj h.pok.keys he);rw[q]at hj;cases hj;obtain⟨e,he,rfl⟩:=alt.1 hi;obtain⟨xs,ck,q,_⟩:=h.ds e.1 e.2.1 (xj h.dok.keys he);rw[q]at hj;cases hj
end
def JX(it im ie ip ii:Nat)(tm:TMp)(em:List (bp Int (List Atr)))(ec:Nat)(pm:List (bp (List UInt8) Nat))(pc:Nat)(xb ib:Nat)(id:Int)(Q:List UInt8->Int->Prop)(R:List ba->ba->Int->Prop)(ks:List ba)(B:Nat->Prop)(L:List Blk):Prop :=
 ∃dm dc,IxH L it im ie ip ii tm tm.length em ec pm pc dm dc Q (R ks)/\L[xb]?=some (.cells [.ptr it 0])/\L[ib]?=some (.cells [.int .i64 id])/\∀i,B i↔i=xb\/i=ib\/i∈it::im::ie::ip::ii::(pm.map (·.2.1)++dm.map (·.2.1))
section
variable {it im ie ip ii:Nat}{tm:TMp}{em:List (bp Int (List Atr))}{ec:Nat}{pm:List (bp (List UInt8) Nat)}{pc:Nat}{xb ib:Nat}{id:Int}{Q:List UInt8->Int->Prop}{R:List ba->ba->Int->Prop}
theorem JX.lt{ks:List ba}{B:Nat->Prop}{L:List Blk}(h:JX it im ie ip ii tm em ec pm pc xb ib id Q R ks B L)(i:Nat)(hi:B i):i<L.length:=by obtain⟨dm,dc,h1,h2,h3,h4⟩:=h;rcases(h4 i).1 hi with rfl|rfl|e;exact(alq.1 h2).1;exact(alq.1 h3).1;exact h1.lt i e
theorem JX.keep{ks:List ba}{B:Nat->Prop}{L L':List Blk}(h:JX it im ie ip ii tm em ec pm pc xb ib id Q R ks B L)(hb:bK (λi=>¬B i) L L'):JX it im ie ip ii tm em ec pm pc xb ib id Q R ks B L':=by
 have hlt:=h.lt;obtain⟨dm,dc,h1,h2,h3,h4⟩:=h;have key:∀i,B i->L'[i]?=L[i]?:=λi hi=>hb.eq i (hlt i hi) λe=>e hi
 exact⟨dm,dc,h1.keep λi hi=>key i ((h4 i).2 (.inr (.inr hi))),by rw[key xb ((h4 xb).2 (.inl rfl))];exact h2,by rw[key ib ((h4 ib).2 (.inr (.inl rfl)))];exact h3,h4⟩
theorem JX.dok{f:FuncId}(hg:∀ks B L k (K:AV->List Blk->Prop),JX it im ie ip ii tm em ec pm pc xb ib id Q R ks B L->(∀L' B',JX it im ie ip ii tm em ec pm pc xb ib id Q R (ks++[k]) B' L'->bK B L L'->(∀i,B' i->B i\/L.length<=i)->K (.tup []) L')->alo f [qn k,.ptr xb 0,.ptr ib 0] L K):DoK Tryz.prog f [.ptr xb 0,.ptr ib 0] it im ie ip ii tm (JX it im ie ip ii tm em ec pm pc xb ib id Q R):=by refine⟨λks B L h=>?_,λks B L h=>?_,λks B L h=>h.lt,λks B L L' h hb=>h.keep hb,hg⟩;obtain⟨dm,dc,h1,_⟩:=h;exact h1.st;obtain⟨dm,dc,h1,_⟩:=h;exact h1.ty
theorem JX.of{ks:List ba}{B:Nat->Prop}{L L':List Blk}{dm dm':List (bp ba Nat)}{dc':Nat}{k:ba}{R':ba->Int->Prop}(h4:∀i,B i↔i=xb\/i=ib\/i∈it::im::ie::ip::ii::(pm.map (·.2.1)++dm.map (·.2.1)))(h1:IxH L' it im ie ip ii tm tm.length em ec pm pc dm' dc' Q R')(hR:∀g x,R' g x↔R (ks++[k]) g x)(h2:L'[xb]?=some (.cells [.ptr it 0]))(h3:L'[ib]?=some (.cells [.int .i64 id]))(hdm:∀b∈dm'.map (·.2.1),b∈dm.map (·.2.1)\/L.length<=b):
  ∃B',JX it im ie ip ii tm em ec pm pc xb ib id Q R (ks++[k]) B' L'/\∀i,B' i->B i\/L.length<=i:=by
 refine⟨_,⟨dm',dc',h1.iff (λ_ _ _=>Iff.rfl) hR,h2,h3,λi=>Iff.rfl⟩,λi hi=>?_⟩;rcases hi with e|e|e;exact .inl ((h4 i).2 (.inl e));exact .inl ((h4 i).2 (.inr (.inl e)));simp only[alu,alv]at e;rcases e with e|e|e|e|e|e|e;exact .inl ((h4 i).2 (.inr (.inr (by simp[e]))));exact .inl ((h4 i).2 (.inr (.inr (by simp[e]))));exact .inl ((h4 i).2 (.inr (.inr (by simp[e]))));exact .inl ((h4 i).2 (.inr (.inr (by simp[e]))));exact .inl ((h4 i).2 (.inr (.inr (by simp[e]))));exact .inl ((h4 i).2 (.inr (.inr (by simp only[alu,alv];exact .inr (.inr (.inr (.inr (.inr (.inl e)))))))));rcases hdm i e with e|e;exact .inl ((h4 i).2 (.inr (.inr (by simp only[alu,alv];exact .inr (.inr (.inr (.inr (.inr (.inr e)))))))));exact .inr e
end
theorem dk{κ υ:Type}[DecidableEq κ]{ka:κ->AV}{va:υ->AV}(hka:WG ka){xs:List (bp κ υ)}(h:di xs ck)(k:κ)(u:υ):
  (∃j w,cO xs k=some w/\eI (ka k) (be ka va xs) 0=some (some (j,va w))/\Yw (ka k) (va u) (be ka va xs) j=be ka va (rF xs k u ck)/\(k∈xs.map (·.1)))\/(cO xs k=none/\eI (ka k) (be ka va xs) 0=some none/\be ka va xs++[(ka k,va u,ck)]=be ka va (rF xs k u ck)/\k∉xs.map (·.1)):=by
 by_cases hk:k∈xs.map (·.1);obtain⟨j,w,h1,h2,h3,_⟩:=sa (va:=va) hka 0 h.keys hk;refine .inl ⟨j,w,h1,by rw[h2,amG],?_,hk⟩;rw[h3];unfold rF;rw[if_pos hk];refine .inr ⟨xv.2 hk,SV hka 0 hk,?_,hk⟩;unfold rF;rw[if_neg hk];simp[be,Gb]
theorem aih{tm:TMp}{xb ib:Nat}{R0:ba->Int->Prop}{ks:List ba}(hj:JX it im ie ip ii tm em ec pm pc xb ib id Q (WM R0 id) ks B L)(h:∀L' B',JX it im ie ip ii tm em ec pm pc xb ib id Q (WM R0 id) (ks++[k]) B' L'->bK B L L'->(∀i,B' i->B i\/L.length<=i)->K (.tup []) L'):
  alo 54 [qn k,.ptr xb 0,.ptr ib 0] L K:=by
 obtain⟨dm,dc,h1,h2,h3,h4⟩:=hj;have hii:ii<L.length:=h1.lt ii aoK;have hxl:=(alq.1 h2).1;have hbl:=(alq.1 h3).1;have xn:=h1.noOwn h2 aoK;have bn:=h1.noOwn h3 aoK;have aX:∀(X:List Blk){i:Nat}{b:Blk},L[i]?=some b->(L++X)[i]?=some b:=λX {i b} e=>alk e
 obtain⟨f,g,t⟩:=k;have hkf:bE (.st [.str,.bool,.str]) (.agg [.str f,.bool g,.str t])=true:=rfl;have hki:bE .int (.int .i64 id)=true:=rfl;rcases dk (va:=AV.lmap) xq h1.dok (f,g,t) (L.length+1)with⟨j,b,q1,q2,q3,q4⟩|⟨q1,q2,q3,q4⟩;have hb:=tL q1;have hbo:b∈it::im::ie::ip::ii::(pm.map (·.2.1)++dm.map (·.2.1)):=by simp only[alu,alv];exact .inr (.inr (.inr (.inr (.inr (.inr hb)))))
 have hbL:=h1.lt b hbo;obtain⟨xs,ck,s1,s2,s3,s4⟩:=h1.ds _ _ q1;have hL1:=h1.more [.cells [.str f,.bool g,.str t]];have hs1:(L++[Blk.cells [.str f,.bool g,.str t]])[b]?=some (mF xs ck):=aX _ s1;have hS:=sw.add hs1 (hL1.ds _ _ q1) id s2 s3 s4;have hJ:=hL1.dmSet q1 hS;have hst:∀(X:List Blk) c,(L++X).set b c=L.set b c++X:=λX c=>amh _ _ hbL
 rw[hst]at hJ;obtain⟨B',j1,j2⟩:=JX.of (L:=L) (k:=(f,g,t)) h4 hJ (λy x=>Xn y x) (by
  rw[aly (by simpa using hxl),alP (λe=>xn (by rw[<- e];exact hbo))];exact h2) (by
  rw[aly (by simpa using hbl),alP (λe=>bn (by rw[<- e];exact hbo))];exact h3) (λc hc=>.inl hc)
 have hfin:=h _ B' j1 ((bK.set L (.inl ((h4 b).2 (.inr (.inr hbo)))) _).trans (bK.app (B:=λ_=>False) _ _) λi _ e=>e.elim) j2;replace hfin:=hid hfin;have a1:∀X,(L++X)[xb]?=some (.cells [.ptr it 0]):=λX=>aX X h2
 have a2:∀X,(L++X)[ib]?=some (.cells [.int .i64 id]):=λX=>aX X h3
 have a3:∀X,(L++X)[it]?=some (.cells [.lmap im,.lmap ie,.lmap ip,.lmap ii]):=λX=>aX X h1.st
 have a4:∀X,(L++X)[ii]?=some (.map (be qn AV.lmap dm) dc):=λX=>aX X h1.ids
 have a5:∀X,(L++X)[b]?=some (.map (be (AV.int .i64) AV.bool xs) ck):=λX=>aX X s1
 simp only[qn]at q2;clear h aX hJ hS hL1 h1 j1 j2 h4 xn bn s3 s4 q3 hs1 q1;rcases dk (va:=AV.bool) tD s2 id true with⟨j',w,p1,p2,p3,p4⟩|⟨p1,p2,p3,p4⟩;have hck:ckS xs id ck=ck:=if_pos p4;rw[hck]at hfin;clear hck p1 p4 s2;refine aln fC ?_;exact eE rfl trivial (aa hfin.o);have hck:ckS xs id ck=ck+1:=if_neg p4;rw[hck]at hfin;clear hck p1 p4 s2;refine aln fC ?_;exact eE rfl trivial (aa hfin.o);have hL1:=h1.more [.cells [.str f,.bool g,.str t]];have hN:=hL1.dmNew q1;have hlen:(L++[Blk.cells [.str f,.bool g,.str t]]).length=L.length+1:=aoK;have hst:∀(X:List Blk) c,(L++X).set ii c=L.set ii c++X:=λX c=>amh _ _ hii
 rw[hlen,alI,hst]at hN;have hg:cO (dm++[((f,g,t),L.length+1,dc)]) (f,g,t)=some (L.length+1):=by rw[Kf (xv.1 q1),if_pos rfl]
 have hs1:(L.set ii (YH (dm++[((f,g,t),L.length+1,dc)]) (dc+1))++([Blk.cells [.str f,.bool g,.str t]]++[mF [] 0]))[L.length+1]?=some (mF [] 0):=by rw[alT aoK];simp
 have hS:=sw.add hs1 (hN.ds _ _ hg) id di.nil (λe he=>by cases he) (by
  obtain⟨xs,ck,r1,r2,r3,r4⟩:=hN.ds _ _ hg;rw[hs1]at r1;cases xs with
  |nil=>exact r4
  |cons x xs=>simp[mF,be]at r1)
 have hJ:=hN.dmSet hg hS;have he:(L.set ii (YH (dm++[((f,g,t),L.length+1,dc)]) (dc+1))++([Blk.cells [.str f,.bool g,.str t]]++[mF [] 0])).set (L.length+1) (mF (rF [] id true 0) (ckS [] id 0))=L.set ii (YH (dm++[((f,g,t),L.length+1,dc)]) (dc+1))++[Blk.cells [.str f,.bool g,.str t],.map [(.int .i64 id,.bool true,0)] 1]:=by rw[amd _ _ aoK];simp[rF,ckS,be,Gb]
 rw[he]at hJ;have hnx:ii≠xb:=λe=>xn (by rw[<- e];simp)
 have hnb:ii≠ib:=λe=>bn (by rw[<- e];simp)
 have hnt:ii≠it:=λe=>by have:=h1.ids;rw[e,h1.st]at this;cases this
 have gl:∀(X:List Blk) c{i:Nat}{b:Blk},ii≠i->L[i]?=some b->(L.set ii c++X)[i]?=some b:=λX c {i b} n e=>by rw[aly (by simpa using(alq.1 e).1),alP n];exact e
 obtain⟨B',j1,j2⟩:=JX.of (L:=L) (k:=(f,g,t)) h4 hJ (λy x=>Xn y x) (gl _ _ hnx h2) (gl _ _ hnb h3) (λc hc=>by rw[alW,alv]at hc;rcases hc with hc|hc;exact .inl hc;simp only[alD,amS,alM]at hc;exact .inr aoJ)
 have hfin:=h _ B' j1 ((bK.set L (.inl ((h4 ii).2 (.inr (.inr aoK)))) _).trans (bK.app (B:=λ_=>False) _ _) λi _ e=>e.elim) j2;replace hfin:=hid hfin;have a1:∀X,(L++X)[xb]?=some (.cells [.ptr it 0]):=λX=>aX X h2
 have a3:∀X,(L++X)[it]?=some (.cells [.lmap im,.lmap ie,.lmap ip,.lmap ii]):=λX=>aX X h1.st
 have a4:∀X,(L++X)[ii]?=some (.map (be qn AV.lmap dm) dc):=λX=>aX X h1.ids
 have b1:∀X c,(L.set ii c++X)[xb]?=some (.cells [.ptr it 0]):=λX c=>gl X c hnx h2
 have b2:∀X c,(L.set ii c++X)[ib]?=some (.cells [.int .i64 id]):=λX c=>gl X c hnb h3
 have b3:∀X c,(L.set ii c++X)[it]?=some (.cells [.lmap im,.lmap ie,.lmap ip,.lmap ii]):=λX c=>gl X c hnt h1.st
 have b4:∀X c,(L.set ii c++X)[ii]?=some c:=λX c=>by rw[aly (by simpa using hii),amn hii]
 have b5:∀a c d (X:List Blk),(L.set ii c++a::d::X)[L.length+1]?=some d:=λa c d X=>by rw[alT aoK];simp
 have b6:∀a c d e (X:List Blk),(L.set ii c++a::d::X).set (L.length+1) e=L.set ii c++a::e::X:=λa c d e X=>by rw[amd _ _ aoK];simp
 have b7:∀a c (X:List Blk),(L.set ii c++a::X)[L.length]?=some a:=λa c X=>by rw[alT aoK];simp
 obtain⟨j,w,r1,r2,_⟩:=sa (va:=AV.lmap) xq (xs:=dm++[((f,g,t),L.length+1,dc)]) (k:=(f,g,t)) 0 (hN.dok.keys) aoK;rw[hg]at r1;simp only[als]at r1;subst r1;have q3':be qn AV.lmap dm++[(.agg [.str f,.bool g,.str t],.lmap (L.length+1),dc)]=be qn AV.lmap (dm++[((f,g,t),L.length+1,dc)]):=by simp[be,Gb,qn]
 rw[amG]at r2;simp only[qn]at q2 r2;clear h aX hJ hS hL1 j1 j2 h4 xn bn q3 q4 hs1 hg gl he hnx hnb hnt hN hlen h1 q1;refine aln fC ?_;exact eE rfl trivial (aa hfin.o)
theorem rV{κ υ:Type}[DecidableEq κ]{ka:κ->AV}{va:υ->AV}(hka:WG ka){xs:List (bp κ υ)}(h:di xs ck)(k:κ):
  (∃j w,cO xs k=some w/\eI (ka k) (be ka va xs) 0=some (some (j,va w))/\(be ka va xs).eraseIdx j=be ka va (iH xs k))\/(eI (ka k) (be ka va xs) 0=some none/\iH xs k=xs):=by
 by_cases hk:k∈xs.map (·.1);obtain⟨j,w,h1,h2,_,h3⟩:=sa (va:=va) hka 0 h.keys hk;exact .inl ⟨j,w,h1,by rw[h2,amG],h3⟩;refine .inr ⟨SV hka 0 hk,?_⟩;unfold iH;refine anO.2 λe he=>?_
 have:e.1≠k:=λq=>hk (alt.2 ⟨e,he,q⟩)
 simpa using this
theorem agY{tm:TMp}{xb ib:Nat}{R0:ba->Int->Prop}{ks:List ba}(hj:JX it im ie ip ii tm em ec pm pc xb ib id Q (SX R0 id) ks B L)(h:∀L' B',JX it im ie ip ii tm em ec pm pc xb ib id Q (SX R0 id) (ks++[k]) B' L'->bK B L L'->(∀i,B' i->B i\/L.length<=i)->K (.tup []) L'):
  alo 85 [qn k,.ptr xb 0,.ptr ib 0] L K:=by
 obtain⟨dm,dc,h1,h2,h3,h4⟩:=hj;have hii:ii<L.length:=h1.lt ii aoK;have hxl:=(alq.1 h2).1;have hbl:=(alq.1 h3).1;have xn:=h1.noOwn h2 aoK;have bn:=h1.noOwn h3 aoK;have aX:∀(X:List Blk){i:Nat}{b:Blk},L[i]?=some b->(L++X)[i]?=some b:=λX {i b} e=>alk e
 obtain⟨f,g,t⟩:=k;have hkf:bE (.st [.str,.bool,.str]) (.agg [.str f,.bool g,.str t])=true:=rfl;have hki:bE .int (.int .i64 id)=true:=rfl;have a1:∀X,(L++X)[xb]?=some (.cells [.ptr it 0]):=λX=>aX X h2
 have a2:∀X,(L++X)[ib]?=some (.cells [.int .i64 id]):=λX=>aX X h3
 have a3:∀X,(L++X)[it]?=some (.cells [.lmap im,.lmap ie,.lmap ip,.lmap ii]):=λX=>aX X h1.st
 have a4:∀X,(L++X)[ii]?=some (.map (be qn AV.lmap dm) dc):=λX=>aX X h1.ids
 have hL1:=h1.more [.cells [.str f,.bool g,.str t]];rcases rV (va:=AV.lmap) xq h1.dok (f,g,t)with⟨j,b,q1,q2,q3⟩|⟨q2,q3⟩
 rotate_left
 have q1:cO dm (f,g,t)=none:=by have:=Ke (xs:=dm) (k:=(f,g,t)) (j:=(f,g,t));rw[q3,if_pos rfl]at this;exact this
 have hset:∀X,(L++X).set ii (.map (be qn AV.lmap dm) dc)=L++X:=λX=>by apply amW;intro i;by_cases e:ii=i;subst e;rw[amn (by simp;omega),a4];rw[alP e]
 obtain⟨B',j1,j2⟩:=JX.of (L:=L) (k:=(f,g,t)) h4 hL1 (λy x=>by refine Iff.trans ?_ (SW (R:=R0) (id:=id) (ks:=ks) (j:=(f,g,t)) y x);by_cases e:y=(f,g,t);subst e;rw[if_pos rfl];have:=h1.dn _ q1 x;simp[this];rw[if_neg e]) (a1 _) (a2 _) (λc hc=>.inl hc)
 have hfin:=h _ B' j1 (bK.app _ _) j2;replace hfin:=hid hfin;simp only[qn]at q2;clear h aX hL1 h1 j1 j2 h4 xn bn q3 q1;refine aln cW ?_;exact eE rfl trivial (aa hfin.o);have hb:=tL q1;have hbo:b∈it::im::ie::ip::ii::(pm.map (·.2.1)++dm.map (·.2.1)):=by simp only[alu,alv];exact .inr (.inr (.inr (.inr (.inr (.inr hb)))))
 have hbL:=h1.lt b hbo;obtain⟨xs,ck,s1,s2,s3,s4⟩:=h1.ds _ _ q1;have hs1:(L++[Blk.cells [.str f,.bool g,.str t]])[b]?=some (mF xs ck):=aX _ s1;have hS:=sw.del hs1 id s2 s3 s4;have hJ:=hL1.dmSet q1 hS;have hst:∀(X:List Blk) c,(L++X).set b c=L.set b c++X:=λX c=>amh _ _ hbL
 rw[hst]at hJ;have hbx:b≠xb:=λe=>xn (by rw[<- e];exact hbo)
 have hbb:b≠ib:=λe=>bn (by rw[<- e];exact hbo)
 have hbt:b≠it:=λe=>by rw[e,h1.st]at s1;cases s1
 have hbi:b≠ii:=(h1.ne.2.2.2.1 b hb).2.2.2.2;have gl:∀(X:List Blk) c{i:Nat}{d:Blk},b≠i->L[i]?=some d->(L.set b c++X)[i]?=some d:=λX c {i d} n e=>by rw[aly (by simpa using(alq.1 e).1),alP n];exact e
 have a5:∀X,(L++X)[b]?=some (.map (be (AV.int .i64) AV.bool xs) ck):=λX=>aX X s1
 have b1:∀X c,(L.set b c++X)[xb]?=some (.cells [.ptr it 0]):=λX c=>gl X c hbx h2
 have b2:∀X c,(L.set b c++X)[ib]?=some (.cells [.int .i64 id]):=λX c=>gl X c hbb h3
 have b3:∀X c,(L.set b c++X)[it]?=some (.cells [.lmap im,.lmap ie,.lmap ip,.lmap ii]):=λX c=>gl X c hbt h1.st
 have b4:∀X c,(L.set b c++X)[ii]?=some (.map (be qn AV.lmap dm) dc):=λX c=>gl X c hbi h1.ids
 have b5:∀X c,(L.set b c++X)[b]?=some c:=λX c=>by rw[aly (by simpa using hbL),amn hbL]
 have b7:∀a c (X:List Blk),(L.set b c++a::X)[L.length]?=some a:=λa c X=>by rw[alT aoK];simp
 have hB1:bK B L (L.set b (mF (iH xs id) ck)++[Blk.cells [.str f,.bool g,.str t]]):=(bK.set L (.inl ((h4 b).2 (.inr (.inr hbo)))) _).trans (bK.app (B:=λ_=>False) _ _) λi _ e=>e.elim
 simp only[qn]at q2;by_cases hz:iH xs id=[];have hno:∀x,¬(if((f,g,t):ba)=(f,g,t)then SX R0 id ks (f,g,t) x/\x≠id else SX R0 id ks (f,g,t) x):=λx=>by rw[if_pos rfl,<- s4 x,<- X2,hz];simp
 have hD:=hJ.dmDel hno;have hst2:∀(X:List Blk) c d,(L.set b c++X).set ii d=(L.set b c).set ii d++X:=λX c d=>amh _ _ (by simpa using hii)
 rw[hst2]at hD;have hnx:ii≠xb:=λe=>xn (by rw[<- e];simp)
 have hnb:ii≠ib:=λe=>bn (by rw[<- e];simp)
 obtain⟨B',j1,j2⟩:=JX.of (L:=L) (k:=(f,g,t)) h4 hD (λy x=>SW y x) (by
  rw[aly (by simpa using hxl),alP hnx,alP hbx];exact h2) (by
  rw[aly (by simpa using hbl),alP hnb,alP hbb];exact h3) (λc hc=>.inl (by
  obtain⟨e,he,rfl⟩:=alt.1 hc;exact alt.2 ⟨e,(alZ.1 he).1,rfl⟩))
 have hfin:=h _ B' j1 (by rw[<- hst2];exact hB1.trans (bK.set (B:=λi=>i=ii) _ (.inl rfl) _) λi _ e=>by rw[e];exact(h4 ii).2 (.inr (.inr aoK))) j2
 rw[hz]at hfin;replace hfin:=hid hfin;have hz0:(be (AV.int .i64) AV.bool (iH xs id)).length=0:=by rw[hz];rfl
 have hzn:be (AV.int .i64) AV.bool (iH xs id)=[]:=by rw[hz];rfl
 clear h aX hJ hS hL1 h1 j1 j2 h4 xn bn s3 s4 hs1 q1 hD hno hB1 hb hbo gl;rcases rV (va:=AV.bool) tD s2 id with⟨j',w,p1,p2,p3⟩|⟨p2,p3⟩;clear p1 s2 hz hz0;refine aln cW ?_;exact eE rfl trivial (aa hfin.o);rw[p3]at hz;subst hz;clear s2 hz0 hzn p3;refine aln cW ?_;exact eE rfl trivial (aa hfin.o);have hfinJ:∃B',JX it im ie ip ii tm em ec pm pc xb ib id Q (SX R0 id) (ks++[(f,g,t)]) B' (L.set b (mF (iH xs id) ck)++[Blk.cells [.str f,.bool g,.str t]])/\∀i,B' i->B i\/L.length<=i :=
  JX.of (L:=L) (k:=(f,g,t)) h4 hJ (λy x=>SW y x) (gl _ _ hbx h2) (gl _ _ hbb h3) (λc hc=>.inl hc)
 obtain⟨B',j1,j2⟩:=hfinJ;have hfin:=h _ B' j1 hB1 j2;replace hfin:=hid hfin;have hz0:¬((be (AV.int .i64) AV.bool (iH xs id)).length:Int)=0:=λe=>hz (by have:(be (AV.int .i64) AV.bool (iH xs id)).length=0:=aoJ;unfold be at this;rw[al5]at this;exact al1.1 this)
 clear h aX hJ hS hL1 h1 j1 j2 h4 xn bn s3 s4 hs1 q1 hB1 hb hbo gl hz;rcases rV (va:=AV.bool) tD s2 id with⟨j',w,p1,p2,p3⟩|⟨p2,p3⟩;clear p1 s2;refine aln cW ?_;refine aP ?_;exact eE rfl trivial (aa hfin.o);rw[p3]at hfin hz0;clear s2 p3;refine aln cW ?_;refine aP ?_;exact eE rfl trivial (aa hfin.o)
set_option maxHeartbeats 8000000
set_option maxRecDepth 100000
structure Yg(a:List Atr):Prop where
 len:a.length<=1100000
 rise:gT dS a
 sz:∀x∈a,bv x.1/\x.2.length<=1100000
structure IxG(tm:TMp)(l:List bt):Prop where
 ok:di tm tm.length
 key:∀e∈tm,bv e.1
 ats:∀e∈l,Yg e.2
theorem bK.app2{L1:List Blk}(h:bK B L L1)(X:List Blk):bK B L (L1++X):=h.trans (bK.app (B:=λ_=>False) _ _) λi _ e=>e.elim
structure oG(L0:List Blk)(B0 B:Nat->Prop)(it im ie ip ii:Nat)(tm:TMp)(em:List (bp Int (List Atr)))(ec:Nat)(pm:List (bp (List UInt8) Nat))(pc:Nat)(dm:List (bp ba Nat))(dc:Nat)(F:List (Nat×Blk))(Q:List UInt8->Int->Prop)(R:ba->Int->Prop)(L:List Blk):Prop where
 ix:IxH L it im ie ip ii tm tm.length em ec pm pc dm dc Q R
 own:∀i,B i↔i∈it::im::ie::ip::ii::(pm.map (·.2.1)++dm.map (·.2.1))
 bes:bK B0 L0 L
 sub:∀i,B i->B0 i\/L0.length<=i
 fr:∀p∈F,¬B p.1/\L[p.1]?=some p.2/\L0.length<=p.1
section
variable {L0:List Blk}{B0 B:Nat->Prop}{it im ie ip ii:Nat}{tm:TMp}{em:List (bp Int (List Atr))}{ec:Nat}{pm:List (bp (List UInt8) Nat)}{pc:Nat}{dm:List (bp ba Nat)}{dc:Nat}{F:List (Nat×Blk)}{Q:List UInt8->Int->Prop}{R:ba->Int->Prop}{L:List Blk}
theorem oG.at(h:oG L0 B0 B it im ie ip ii tm em ec pm pc dm dc F Q R L){i:Nat}{b:Blk}(e:(i,b)∈F):L[i]?=some b:=(h.fr _ e).2.1
theorem oG.lt(h:oG L0 B0 B it im ie ip ii tm em ec pm pc dm dc F Q R L){i:Nat}(hi:B i):i<L.length:=h.ix.lt i ((h.own i).1 hi)
theorem oG.app(h:oG L0 B0 B it im ie ip ii tm em ec pm pc dm dc F Q R L)(b:Blk):oG L0 B0 B it im ie ip ii tm em ec pm pc dm dc ((L.length,b)::F) Q R (L++[b]):=by refine⟨h.ix.more _,h.own,h.bes.app2 _,h.sub,λp hp=>?_⟩;rcases alu.1 hp with rfl|hp;exact⟨λe=>absurd (h.lt e) aoK,aoK,h.bes.len⟩;obtain⟨g1,g2,g3⟩:=h.fr p hp;exact⟨g1,alk g2,g3⟩
theorem oG.turn{i:Nat}{b:Blk}(h:oG L0 B0 B it im ie ip ii tm em ec pm pc dm dc ((i,b)::F) Q R L)(b':Blk)(hF:∀p∈F,p.1≠i):oG L0 B0 B it im ie ip ii tm em ec pm pc dm dc ((i,b')::F) Q R (L.set i b'):=by obtain⟨q1,q2,q3⟩:=h.fr (i,b) aoK;simp only at q1 q2 q3;refine⟨h.ix.keep λj hj=>?_,h.own,h.bes.trans (bK.set (B:=λj=>j=i) L (.inl rfl) b') (λj hj e=>absurd hj aoJ),h.sub,λp hp=>?_⟩;rw[alP λe=>q1 ((h.own i).2 (by rw[e];exact hj))];rcases alu.1 hp with rfl|hp;exact⟨q1,amn (alq.1 q2).1,q3⟩;obtain⟨g1,g2,g3⟩:=h.fr p (by simp[hp]);exact⟨g1,by rw[alP (λe=>hF p hp e.symm)];exact g2,g3⟩
theorem oG.ownSet(h:oG L0 B0 B it im ie ip ii tm em ec pm pc dm dc F Q R L){i:Nat}(hi:B i){k:Blk}{em':List (bp Int (List Atr))}{ec':Nat}{Q':List UInt8->Int->Prop}(hx:IxH (L.set i k) it im ie ip ii tm tm.length em' ec' pm pc dm dc Q' R):oG L0 B0 B it im ie ip ii tm em' ec' pm pc dm dc F Q' R (L.set i k):=
 ⟨hx,h.own,h.bes.trans (bK.set (B:=λj=>j=i) L (.inl rfl) k) (λj hj e=>(h.sub j (by rw[e];exact hi)).resolve_right aoJ),h.sub,λp hp=>by obtain⟨g1,g2,g3⟩:=h.fr p hp;exact⟨g1,by rw[alP λe=>g1 (by rw[<- e];exact hi)];exact g2,g3⟩⟩
theorem oG.iff{Q':List UInt8->Int->Prop}(h:oG L0 B0 B it im ie ip ii tm em ec pm pc dm dc F Q R L)(hq:∀f x,f∈tm.map (·.1)->(Q f x↔Q' f x)):oG L0 B0 B it im ie ip ii tm em ec pm pc dm dc F Q' R L:=⟨h.ix.iff hq λ_ _=>Iff.rfl,h.own,h.bes,h.sub,h.fr⟩
theorem oG.apps(h:oG L0 B0 B it im ie ip ii tm em ec pm pc dm dc F Q R L)(X:List Blk):oG L0 B0 B it im ie ip ii tm em ec pm pc dm dc F Q R (L++X):=
 ⟨h.ix.more _,h.own,h.bes.app2 _,h.sub,λp hp=>by obtain⟨g1,g2,g3⟩:=h.fr p hp;exact⟨g1,alk g2,g3⟩⟩
theorem oG.jx{xb ib:Nat}{id:Int}(h:oG L0 B0 B it im ie ip ii tm em ec pm pc dm dc F Q R L)(hx:(xb,.cells [.ptr it 0])∈F)(hi:(ib,.cells [.int .i64 id])∈F){R':List ba->ba->Int->Prop}(hR:∀k x,R k x↔R' [] k x):JX it im ie ip ii tm em ec pm pc xb ib id Q R' [] (λi=>i=xb\/i=ib\/B i) L:=by refine⟨dm,dc,h.ix.iff (λ_ _ _=>Iff.rfl) hR,h.at hx,h.at hi,λi=>?_⟩;show i=xb\/i=ib\/B i↔_;rw[h.own]
theorem oG.done{xb ib:Nat}{id:Int}(h:oG L0 B0 B it im ie ip ii tm em ec pm pc dm dc F Q R L)(hx:(xb,.cells [.ptr it 0])∈F)(hi:(ib,.cells [.int .i64 id])∈F){R':List ba->ba->Int->Prop}{M:ba->Prop}{L2:List Blk}(he:EaI (JX it im ie ip ii tm em ec pm pc xb ib id Q R') (λi=>i=xb\/i=ib\/B i) L [] M L2){l':List bt}(hr:iO l')(hem:PR em l')(hQ:∀f x,f∈tm.map (·.1)->(Q f x↔x∈mG l' f))(hR:∀ks,(∀k,k∈ks↔M k)->∀k x,R' ks k x↔x∈gb (gg tm) l' k):∃B',IxO L2 it tm l' B'/\bK B0 L0 L2/\∀i,B' i->B0 i\/L0.length<=i:=by
 obtain⟨ks,B2,⟨dm2,dc2,g1,g2,g3,g4⟩,h2,h3,h4,_⟩:=he;have hxl:=(h.fr _ hx).2.2;have hil:=(h.fr _ hi).2.2;refine⟨_,⟨im,ie,ip,ii,em,ec,pm,pc,dm2,dc2,g1.iff hQ (hR ks h2),hem,hr,λi=>Iff.rfl⟩,h.bes.trans h3 (λi hi' e=>?_),λi hi'=>?_⟩;rcases e with e|e|e;simp only at hxl;omega;simp only at hil;omega;exact(h.sub i e).resolve_right aoJ;rcases h4 i ((g4 i).2 (.inr (.inr hi')))with(e|e|e)|e;simp only at hxl;right;omega;simp only at hil;right;omega;exact h.sub i e;exact .inr (alQ h.bes.len e)
end
theorem adq{i:Nat}{k:Blk}(h:L[i]?=some k):L.set i k=L:=by have hi:=(alq.1 h).1;apply amW;intro j;by_cases e:i=j;subst e;rw[amn hi,h];rw[alP e]
theorem ajK{tm:TMp}{tc:Nat}{dm:List (bp ba Nat)}{dc:Nat}{R:ba->Int->Prop}(h:IxH L it im ie ip ii tm tc em ec pm pc dm dc Q R){p:bp (List UInt8) Nat}(hp:p∈pm):cO pm p.1=some p.2.1:=xj h.pok.keys hp
theorem agh{tm:TMp}{l:List bt}(ho:IxO L it tm l B)(hg:IxG tm l)(h:∀L' B',IxO L' it tm (cQ id l) B'->bK B L L'->(∀i,B' i->B i\/L.length<=i)->K (.tup []) L'):
  alo 35 [.ptr it 0,.int .i64 id] L K:=by
 obtain⟨im,ie,ip,ii,em,ec,pm,pc,dm,dc,h1,h2,h3,h4⟩:=ho;have hM0:oG L B B it im ie ip ii tm em ec pm pc dm dc [] (λf x=>x∈mG l f) (λk x=>x∈gb (gg tm) l k) L:=⟨h1,h4,.refl _,λi hi=>.inl hi,λp hp=>by cases hp⟩;have hM1:=hM0.app (.cells [.ptr it 0]);have hM2:=hM1.app (.cells [.int .i64 id]);have hki:bE .int (.int .i64 id)=true:=rfl;have a1:∀X,(L++X)[it]?=some (.cells [.lmap im,.lmap ie,.lmap ip,.lmap ii]):=λX=>alk h1.st
 have a2:∀X,(L++X)[ie]?=some (.map (be (AV.int .i64) atV em) ec):=λX=>alk h1.en
 rcases rV (va:=atV) tD h1.eok id with⟨j,a,q1,q2,q3⟩|⟨q2,q3⟩
 rotate_left
 have hno:∀a,(id,a)∉l:=h2.o.1 (by have:=Ke (xs:=em) (k:=id) (j:=id);rw[q3,if_pos rfl]at this;exact this)
 rw[aeo hno]at h;have hfin:=hid (h _ B ⟨im,ie,ip,ii,em,ec,pm,pc,dm,dc,hM2.ix,h2,h3,h4⟩ hM2.bes λi hi=>.inl hi);rw[alI]at hfin;clear h hM0 hM1 hM2 h1 h2 h3 h4 hg q3 hno;refine aln ov ?_;exact aa hfin.o;have ha:(id,a)∈l:=(h2 id a).1 q1;have hao:=hg.ats _ ha;have hem:=h2.drop id;have hok2:di (iH em id) ec:=h1.eok.filter _;have hie:ie<L.length:=(alq.1 h1.en).1;have hBie:B ie:=(h4 ie).2 aoK;obtain⟨n1,n2,n3,n4,m1,m2,m3,m4,m5,m6,m7,m8,m9,m10⟩:=h1.ne;rw[show(L++[Blk.cells [.ptr it 0]]).length=L.length+1 by simp]at hM2;have hM3:=hM2.ownSet hBie (hM2.ix.enSet hok2);have hst:∀(X:List Blk) c,(L++X).set ie c=L.set ie c++X:=λX c=>amh _ _ hie
 have gl:∀(X:List Blk) c{i:Nat}{b:Blk},ie≠i->L[i]?=some b->(L.set ie c++X)[i]?=some b:=λX c {i b} n e=>by rw[aly (by simpa using(alq.1 e).1),alP n];exact e
 have b1:∀X c,(L.set ie c++X)[it]?=some (.cells [.lmap im,.lmap ie,.lmap ip,.lmap ii]):=λX c=>gl X c m2.symm h1.st
 have b5:∀c,(L.set ie c).length=L.length:=λc=>aoK
 have b2:∀X c,(L.set ie c++X)[ip]?=some (.map (be AV.str AV.lmap pm) pc):=λX c=>gl X c m8 h1.pr
 have b3:∀a c (X:List Blk),(L.set ie c++a::X)[L.length]?=some a:=λa c X=>by rw[alT aoK];simp
 have b4:∀a c d (X:List Blk),(L.set ie c++a::d::X)[L.length+1]?=some d:=λa c d X=>by rw[alT aoK];simp
 have hM4:=hM3.app (.miter (some ip) pc [] pc);rw[alI,hst,show(L.set ie (agV (iH em id) ec)++([Blk.cells [.ptr it 0]]++[Blk.cells [.int .i64 id]])).length=L.length+2 by simp,alI]at hM4;replace hM4:=hid hM4;replace h:=hid h;replace hg:=hid hg;replace hao:=hid hao;replace hem:=hid hem;replace hpo:=hid h1.pok;replace hri:=hid h3;have hpk:=hid h1.pk;replace ha:=hid ha;clear hM0 hM1 hM2 hM3 h1 h2 h3 h4 hok2 hBie n1 n2 n3 n4 m1 m2 m3 m4 m5 m6 m7 m8 m9 m10 gl q1;refine aln ov ?_;refine ah (λn T' L'=>∃(seen:List Nat) (ps:List (bp (List UInt8) Nat)),n=(pm.filter λr => !seen.contains r.2.2).length/\Hid (xI pm ps seen)/\Hid (oG L B B it im ie ip ii tm (iH em id) ec pm pc dm dc [(L.length+2,.miter (some ip) pc seen pc),(L.length+1,.cells [.int .i64 id]),(L.length,.cells [.ptr it 0])] (λf x=>x∈mG l f/\¬(x=id/\f∈ps.map (·.1))) (λk x=>x∈gb (gg tm) l k) L')/\T'=[(30,.ptr (L.length+2) 0),(2,.ptr L.length 0),(3,.ptr (L.length+1) 0),(4,.sl (bc a) a.length none)]) aoN ⟨[],[],rfl,hid xI.nil,hid (hM4.o.iff λf x _=>aoK),rfl⟩ ?_;clear hM4 b1 b2 b3 b4 b5 a1 a2 q2 q3 hst;rintro _ _ L' ⟨seen,ps,rfl,hcm,hM,rfl⟩;have hat:=hM.o.at (i:=L.length+2) anq;have hpr:=hM.o.ix.pr;have hnl:L.length+3<=L'.length:=(alq.1 hat).1;refine bd ?_;refine UV (i:=L.length+2) (j:=ip) (es:=be AV.str AV.lmap pm) aoL rfl hat hpr (λe he=>?_) (alr _) (λhall=>?_) (λe he hs=>?_);obtain⟨p,hp,rfl⟩:=alt.1 he;exact hpo.o.lt p hp;have hall2:=hcm.o.all hpo.o λx hx=>hall (Gb AV.str AV.lmap x) (alt.2 ⟨x,hx,rfl⟩)
 have hx:=hM.o.at (i:=L.length) (b:=.cells [.ptr it 0]) aoK;have kk1:Hid (∀{K:alp},(∀L2,EaI (JX it im ie ip ii tm (iH em id) ec pm pc L.length (L.length+1) id (λf x=>x∈mG l f/\¬(x=id/\f∈ps.map (·.1))) (SX (λk x=>x∈gb (gg tm) l k) id)) (λi=>i=L.length\/i=L.length+1\/B i) L' [] (λk=>k∈eU (gg tm) a) L2->K (.tup []) L2)->alo 53 [.ptr it 0,.sl (bc a) a.length none,.func 85 [.ptr L.length 0,.ptr (L.length+1) 0]] L' K):=@hid _ (λ{K} q=>by refine agW (JX.dok λks B L k K hj hk=>agY hj hk) hao.o.len hao.o.rise hao.o.sz hg.o.ok hg.o.key (hM.o.jx aoK aoK λk x=>?_) q;simp[SX])
 replace hall2:=hid hall2;clear hall hcm hat hpr;refine aoR ?_;intro L2 he;obtain⟨B',f1,f2,f3⟩:=hM.o.done aoK aoK he (VX hri.o) hem.o (λf x hf=>by
  have h1:f∈ps.map (·.1):=by obtain⟨e,he,rfl⟩:=alt.1 ((hpk.o f).2 hf);exact alt.2 ⟨e,(hall2.o e).2 he,rfl⟩
  rw[Xo];simp only[h1,and_true,ne_eq]) (λks hk k x=>agX hri.o ha.o hk k x)
 refine aO aoL ?_;exact eE rfl trivial (aa (h.o L2 B' f1 f2 f3));obtain⟨p,hp,rfl⟩:=alt.1 he;clear he;have hs':seen.contains p.2.2=false:=hs;have hlt:=hid (ajy hp hs');have hcm':=hid (hcm.o.next hp);have hmat:=af4 (ka:=AV.str) (va:=AV.lmap) (ck:=pc) (seen:=seen) hpo.o.born hp;have hgp:=ajK hM.o.ix hp;have hM2:=hM.o.turn (.miter (some ip) pc (seen++[p.2.2]) pc) aoK;obtain⟨fn,b,bn⟩:=p;simp only[Gb]at *;clear hs hs' hcm hM hat hpr hp;obtain⟨L2,hL2⟩:=alj (L'.set (L.length+2) (Blk.miter (some ip) pc (seen++[bn]) pc));have hl2:L'.length=L2.length:=by rw[<- hL2];simp
 rw[hL2]at hM2⊢;clear hL2;have hat:=hM2.at (i:=L.length+2) anq;have hib:=hM2.at (i:=L.length+1) (b:=.cells [.int .i64 id]) aoK;have hpr:=hM2.ix.pr;have hBb:B b:=(hM2.own b).2 (by simp only[alu,alv];exact .inr (.inr (.inr (.inr (.inr (.inl (x9 hgp)))))));obtain⟨xs,ck,s1,s2,s3,s4⟩:=hM2.ix.ps _ _ hgp;have hS:=sw.del s1 id s2 s3 s4;have hM3:=hid ((hM2.ownSet hBb (hM2.ix.pmSet hgp hS)).iff (Q':=λf x=>x∈mG l f/\¬(x=id/\f∈(ps++[(fn,b,bn)]).map (·.1))) λf x _=>by by_cases e:f=fn;subst e;rw[if_pos rfl];simp only[alW,alv,alD,amS,alM,or_true,and_true];constructor;rintro⟨⟨q1,_⟩,q2⟩;exact⟨q1,q2⟩;rintro⟨q1,q2⟩;exact⟨⟨q1,λw=>q2 w.1⟩,q2⟩;rw[if_neg e];simp only[alW,alv,alD,amS,alM,e,or_false])
 have hbl:=(alq.1 s1).1;rcases rV (va:=AV.bool) tD s2 id with⟨j',w,p1,p2,p3⟩|⟨p2,p3⟩;clear p1 s2 s3 s4 hS hM2 hgp hBb;refine aoR ?_;exact aoO hlt.o (CutL (b:=by simp;omega)) ⟨_,_,rfl,hcm',hM3,rfl⟩;have hset:L2.set b (.map (be (AV.int .i64) AV.bool xs) ck)=L2:=adq s1;rw[p3,hset]at hM3;clear p3 s2 s3 s4 hS hM2 hgp hBb;refine aoR ?_;exact aoO hlt.o (CutL (b:=by simp;omega)) ⟨_,_,rfl,hcm',hM3,rfl⟩
set_option maxHeartbeats 8000000
set_option maxRecDepth 100000
theorem aiw{tm:TMp}{l:List bt}(ho:IxO L it tm l B)(hg:IxG tm l){a:List Atr}(hao:Yg a)(h:∀L' B',IxO L' it tm (J4 id a l) B'->bK B L L'->(∀i,B' i->B i\/L.length<=i)->K (.tup []) L'):
  alo 21 [.ptr it 0,.int .i64 id,.sl (bc a) a.length cap] L K:=by
 have kD:Hid (∀{K:alp},(∀L1 B1,Hid (IxO L1 it tm (cQ id l) B1/\bK B (L++[.cells [.ptr it 0],.cells [.int .i64 id]]) L1/\∀i,B1 i->B i\/L.length+2<=i)->K (.tup []) L1)->alo 35 [.ptr it 0,.int .i64 id] (L++[.cells [.ptr it 0],.cells [.int .i64 id]]) K):=@hid _ (by
  intro K q;refine agh (ho.app _) hg λL1 B1 g1 g2 g3=>q L1 B1 (hid ⟨g1,g2,λi hi=>?_⟩)
  have:=g3 i hi;simpa using this)
 have hlt:=hid (λi (hi:B i)=>ho.lt hi);have hri:=hid ho.rise;replace h:=hid h;replace hg:=hid hg;replace hao:=hid hao;clear ho;refine aln KE ?_;refine kD.o λL1 B1 h1=>?_
 clear kD;have hbx:L1[L.length]?=some (.cells [.ptr it 0]):=by
  refine h1.o.2.1.get aoK λe=>?_
  have:=hlt.o _ e;omega
 have hbi:L1[L.length+1]?=some (.cells [.int .i64 id]):=by
  refine h1.o.2.1.get aoK λe=>?_
  have:=hlt.o _ e;omega
 have hM0:Hid (∃im ie ip ii em ec pm pc dm dc,oG L B B1 it im ie ip ii tm em ec pm pc dm dc [(L.length+1,.cells [.int .i64 id]),(L.length,.cells [.ptr it 0])] (λf x=>x∈mG (cQ id l) f) (λk x=>x∈gb (gg tm) (cQ id l) k) L1/\PR em (cQ id l)):=hid (by
  obtain⟨⟨im,ie,ip,ii,em,ec,pm,pc,dm,dc,g1,g2,g3,g4⟩,g5,g6⟩:=h1.o;refine⟨im,ie,ip,ii,em,ec,pm,pc,dm,dc,⟨g1,g4,?_,λi hi=>?_,λp hp=>?_⟩,g2⟩;exact⟨by have:=g5.len;simp at this;omega,λi hi hn=>by rw[g5.eq i (by simp;omega) hn,aly hi]⟩;rcases g6 i hi with e|e;exact .inl e;exact .inr aoJ;have key:∀i,L.length<=i->i<L.length+2->¬B1 i:=λi i1 i2 e=>by rcases g6 i e with e|e;have:=hlt.o i e;omega;omega
  simp only[alu,am3,or_false]at hp;rcases hp with rfl|rfl;exact⟨key _ aoK aoK,hbi,aoK⟩;exact⟨key _ aoK aoK,hbx,aoK⟩)
 clear h1 hbx hbi;have hall:=hid hao.o.len;refine wk ?_;refine bF (l:=[]) (n:=0) 6 2 rfl (alU 2).symm ?_;refine ah (λm T' L'=>∃(k:Nat) (C:List AV) (X:List Blk),m=a.length-k/\k<=a.length/\C=bc (a.take k)/\T'=[(17,.int .i64 (k:Int)),(16,.int .i64 a.length),(15,.sl (bc a) a.length cap),(6,.gsl C k L1.length 2),(4,.ptr (L.length+1) 0),(3,.ptr L.length 0)]/\L'=L1++(.spare k 2::X)) aoN ⟨0,[],[],rfl,alw _,rfl,rfl,rfl⟩ ?_;rintro _ _ _ ⟨k,C,X,rfl,hk,hC,rfl,rfl⟩;have hall2:=hall.o;by_cases hlk:k<a.length;have g1:(k:Int)<(a.length:Int):=aoJ;have g2:=alm k aoJ;have e3:=oO hlk;have e4:k*2+2<=(bc a).length:=by rw[iN];omega
 obtain⟨⟨nm,vs⟩,ha⟩:∃x,a.getD k ([],[])=x:=⟨_,rfl⟩;have htk:bc (a.take (k+1))=bc (a.take k)++[.str nm,.sl (vs.map AV.str) vs.length none]:=by rw[alN hlk,KJ,show a[k]=(nm,vs)by rw[<- ha];simp[hlk]];rfl
 have hvs:=(hao.o.sz (nm,vs) (by rw[<- ha];simp[hlk])).2;simp only at hvs;rw[ha]at e3;simp only[atA]at e3;have e0:AV.frzL (vs.map AV.str)=vs.map AV.str:=eh vs;replace htk:=hid htk;replace hC:=hid hC;have kk1:Hid (∀{c:Option Nat}{L:List Blk}{K:alp},K (.sl (vs.map AV.str) vs.length none) L->alo 51 [.sl (vs.map AV.str) vs.length c] L K):=@hid _ (by intro c L K q;exact ag6 aoJ q);clear ha;refine wk ?_;exact aoO aoJ aoM ⟨k+1,_,_,rfl,hlk,by rw[htk.o,hC.o],rfl,rfl⟩;have hke:k=a.length:=aoJ;subst hke;have g1:¬(a.length:Int)<(a.length:Int):=aoJ;rw[alF]at hC;subst hC;obtain⟨im,ie,ip,ii,em,ec,pm,pc,dm,dc,hM1,hem⟩:=hM0.o;have hM:=hM1.apps (.spare a.length 2::X);obtain⟨L2,hL2⟩:=alj (L1 ++ .spare a.length 2::X);have hl12:L1.length+1<=L2.length:=by rw[<- hL2];simp
 rw[hL2]at hM⊢;clear hM1 hL2 hM0;refine ajb (T':=[(17,.int .i64 a.length),(16,.int .i64 a.length),(6,.sl (AV.frzL (bc a)) a.length none),(4,.ptr (L.length+1) 0),(3,.ptr L.length 0)]) (L':=L2) (CutS (b:=alr _)) ?_;rw[eX];have hno:cO em id=none:=hem.o.2 λb hb=>by have:=gE.1 hb;simp at this
 rcases dk (va:=atV) tD hM.ix.eok id a with⟨j,w,q1,_⟩|⟨_,q2,q3,q4⟩;rw[hno]at q1;cases q1;have hem2:PR (rF em id a ec) (J4 id a l):=hem.put a;have hes:rF em id a ec=em++[(id,a,ec)]:=by unfold rF;rw[if_neg q4]
 rw[hes]at hem2 q3;have hie:ie<L2.length:=(alq.1 hM.ix.en).1;obtain⟨n1,n2,n3,n4,m1,m2,m3,m4,m5,m6,m7,m8,m9,m10⟩:=hM.ix.ne;have hM3:=hM.ownSet ((hM.own ie).2 aoK) (hM.ix.enSet (hM.ix.eok.add q4 (w:=a)));have hM4:=hM3.app (.miter (some im) tm.length [] tm.length);rw[aom]at hM4;have hbx:=hM.at (i:=L.length) (b:=.cells [.ptr it 0]) aoK;have hbi:=hM.at (i:=L.length+1) (b:=.cells [.int .i64 id]) aoK;have hl02:L.length+2<=L2.length:=(alq.1 hbi).1;have hst:=hM.ix.st;have hen:=hM.ix.en;have b1:∀c,(L2.set ie c)[L.length]?=some (.cells [.ptr it 0]):=λc=>by rw[alP λe=>by rw[<- e,hen]at hbx;cases hbx];exact hbx
 have b2:∀c,(L2.set ie c)[it]?=some (.cells [.lmap im,.lmap ie,.lmap ip,.lmap ii]):=λc=>by rw[alP m2.symm];exact hst
 have b3:∀c,(L2.set ie c)[im]?=some (.map (be AV.str tyV tm) tm.length):=λc=>by rw[alP m5.symm];exact hM.ix.ty
 have b5:∀c,(L2.set ie c).length=L2.length:=λc=>aoK
 have hki:bE .int (.int .i64 id)=true:=rfl;replace hM4:=hid hM4;replace hem2:=hid hem2;clear hM3 hM hem hno q4 hes n1 n2 n3 n4 m1 m2 m3 m4 m5 m6 m7 m8 m9 m10 hie hk hlk hall2;refine wk ?_;refine ah (λn T' L'=>∃(seen:List Nat) (ps:TMp),n=(tm.filter λr => !seen.contains r.2.2).length/\Hid (xI tm ps seen)/\Hid (oG L B B1 it im ie ip ii tm (em++[(id,a,ec)]) (ec+1) pm pc dm dc [(L2.length,.miter (some im) tm.length seen tm.length),(L.length+1,.cells [.int .i64 id]),(L.length,.cells [.ptr it 0])] (λf x=>x∈mG (cQ id l) f\/(x=id/\f∈ps.map (·.1)/\cc a f≠[])) (λk x=>x∈gb (gg tm) (cQ id l) k) L')/\T'=[(41,.ptr L2.length 0),(6,.sl (bc a) a.length none),(4,.ptr (L.length+1) 0),(3,.ptr L.length 0)]) aoN ⟨[],[],rfl,hid xI.nil,hid (hM4.o.iff λf x _=>aoK),rfl⟩ ?_;clear hM4 b1 b2 b3 b5 hbx hbi hst hen q2 q3;rintro _ _ L' ⟨seen,ps,rfl,hcm,hM,rfl⟩;have hat:=hM.o.at (i:=L2.length) anq;have hty:=hM.o.ix.ty;have hnl:L2.length+1<=L'.length:=(alq.1 hat).1;refine bd ?_;refine UV (i:=L2.length) (j:=im) (es:=be AV.str tyV tm) aoL rfl hat hty (λe he=>?_) (alr _) (λhal2=>?_) (λe he hs=>?_);obtain⟨p,hp,rfl⟩:=alt.1 he;exact hg.o.ok.lt p hp;have hall2:=hcm.o.all hg.o.ok λx hx=>hal2 (Gb AV.str tyV x) (alt.2 ⟨x,hx,rfl⟩)
 have hx:=hM.o.at (i:=L.length) (b:=.cells [.ptr it 0]) aoK;have kk1:Hid (∀{K:alp},(∀L3,EaI (JX it im ie ip ii tm (em++[(id,a,ec)]) (ec+1) pm pc L.length (L.length+1) id (λf x=>x∈mG (cQ id l) f\/(x=id/\f∈ps.map (·.1)/\cc a f≠[])) (WM (λk x=>x∈gb (gg tm) (cQ id l) k) id)) (λi=>i=L.length\/i=L.length+1\/B1 i) L' [] (λk=>k∈eU (gg tm) a) L3->K (AV.tup []) L3)->alo 53 [.ptr it 0,.sl (bc a) a.length none,.func 54 [.ptr L.length 0,.ptr (L.length+1) 0]] L' K):=@hid _ (λ{K} q=>by refine agW (JX.dok λks B L k K hj hk=>aih hj hk) hao.o.len hao.o.rise hao.o.sz hg.o.ok hg.o.key (hM.o.jx aoK aoK λk x=>?_) q;simp[WM])
 replace hall2:=hid hall2;clear hal2 hcm hat hty;refine aoR ?_;intro L3 he;obtain⟨B',f1,f2,f3⟩:=hM.o.done aoK aoK he (adF hri.o) hem2.o (λf x hf=>by
  have h1:f∈ps.map (·.1):=by obtain⟨e,he,rfl⟩:=alt.1 hf;exact alt.2 ⟨e,(hall2.o e).2 he,rfl⟩
  rw[Xo,afC];simp only[h1,true_and]) (λks hk k x=>afz hk k x)
 refine aO aoL ?_;exact eE rfl trivial (aa (h.o L3 B' f1 f2 f3));obtain⟨p,hp,rfl⟩:=alt.1 he;clear he;have hs':seen.contains p.2.2=false:=hs;have hlt2:=hid (ajy hp hs');have hcm':=hid (hcm.o.next hp);have hmat:=af4 (ka:=AV.str) (va:=tyV) (ck:=tm.length) (seen:=seen) hg.o.ok.born hp;have hfr:=hg.o.key p hp;have hpin:p.1∈tm.map (·.1):=alt.2 ⟨p,hp,rfl⟩;have hM2:=hM.o.turn (.miter (some im) tm.length (seen++[p.2.2]) tm.length) (by simp;omega);obtain⟨fn,ty,bn⟩:=p;simp only[Gb]at *;clear hs hs' hcm hM hat hty hp;obtain⟨L4,hL4⟩:=alj (L'.set L2.length (Blk.miter (some im) tm.length (seen++[bn]) tm.length));have hl4:L'.length=L4.length:=by rw[<- hL4];simp
 rw[hL4]at hM2⊢;clear hL4;have hat:=hM2.at (i:=L2.length) anq;have hty:=hM2.ix.ty;obtain⟨vs,hvs⟩:=alj (cc a fn);have kk1:Hid (Ctr Tryz.prog 52 [.sl (bc a) a.length none,.str fn] (F9 vs)):=@hid _ (λ{L K} q=>abV hao.o.len hao.o.rise hao.o.sz hfr (by rw[hvs];exact q));by_cases hv0:vs=[];have hM3:=hid (hM2.iff (Q':=λf x=>x∈mG (cQ id l) f\/(x=id/\f∈(ps++[(fn,ty,bn)]).map (·.1)/\cc a f≠[])) λf x _=>by
  have:f=fn->cc a f=[]:=λe=>by rw[e,hvs,hv0]
  by_cases e:f=fn;simp[this e];simp[e])
 subst hv0;clear hM2 hvs;refine aoR ?_;exact aoO hlt2.o (CutL (b:=by simp;omega)) ⟨_,_,rfl,hcm',hM3,rfl⟩;obtain⟨b,hgb⟩:∃b,cO pm fn=some b:=by
  cases hq:cO pm fn with
  |some b=>exact⟨b,rfl⟩
  |none=>exact absurd ((hM2.ix.pk fn).2 hpin) (xv.1 hq)
 have hBb:B1 b:=(hM2.own b).2 (by simp only[alu,alv];exact .inr (.inr (.inr (.inr (.inr (.inl (x9 hgb)))))));obtain⟨xs,ck,s1,s2,s3,s4⟩:=hM2.ix.ps _ _ hgb;have hS:=sw.add s1 (hM2.ix.ps _ _ hgb) id s2 s3 s4;have hM3:=hid ((hM2.ownSet hBb (hM2.ix.pmSet hgb hS)).iff (Q':=λf x=>x∈mG (cQ id l) f\/(x=id/\f∈(ps++[(fn,ty,bn)]).map (·.1)/\cc a f≠[])) λf x _=>by by_cases e:f=fn;subst e;rw[if_pos rfl];simp only[alW,alv,alD,amS,alM,or_true,true_and,hvs];constructor;rintro((q|⟨q,_⟩)|q);exact .inl q;exact .inr ⟨q,hv0⟩;exact .inr ⟨q,hv0⟩;rintro(q|⟨q,_⟩);exact .inl (.inl q);exact .inr q;rw[if_neg e];simp only[alW,alv,alD,amS,alM,e,or_false])
 obtain⟨j0,w0,y1,y2,_⟩:=sa (va:=AV.lmap) rm (xs:=pm) (k:=fn) 0 hM2.ix.pok.keys ((hM2.ix.pk fn).2 hpin);rw[hgb]at y1;cases y1;rw[amG]at y2;have hbx:=hM2.at (i:=L.length) (b:=.cells [.ptr it 0]) aoK;have hbi:=hM2.at (i:=L.length+1) (b:=.cells [.int .i64 id]) aoK;have hst:=hM2.ix.st;have hpr:=hM2.ix.pr;have hks:bE .str (.str fn)=true:=rfl;have hv1:(vs.length:Int)>0:=by have:=amH.2 hv0;omega
 have hv2:(0:Int)<(vs.length:Int):=hv1;rcases dk (va:=AV.bool) tD s2 id true with⟨j',w,p1,p2,p3,p4⟩|⟨p1,p2,p3,p4⟩;have hck:ckS xs id ck=ck:=if_pos p4;rw[hck]at hM3;clear hck p1 p4 s2 s3 s4 hS hM2 hgb hBb hvs hv0 hpin;refine aoR ?_;exact aoO hlt2.o (CutL (b:=by simp;omega)) ⟨_,_,rfl,hcm',hM3,rfl⟩;have hck:ckS xs id ck=ck+1:=if_neg p4;rw[hck]at hM3;clear hck p1 p4 s2 s3 s4 hS hM2 hgb hBb hvs hv0 hpin;refine aoR ?_;exact aoO hlt2.o (CutL (b:=by simp;omega)) ⟨_,_,rfl,hcm',hM3,rfl⟩
open Go Go.MapKept
variable {L:List Blk}{K:alp}
theorem aj6{P:Program}{f:FuncId}{fn:Func}(hf:P.funcs[f]?=some fn)(hb:fn.body.isSome=true)(hn:(fn.name == "runtime.NumGoroutine")=false)(args:Array Value)(w:World):(callFunc f args).run P w=.ok (.enter f args) w:=by
 simp only[callFunc,alz,run_program,alB,hf,hn];cases h:fn.body with
 |none=>simp[h]at hb
 |some c=>simp
theorem abn{i:Nat}{es:List (AV×AV×Nat)}(hi:L[i]?=some (.map es ck))(h:K (.lmap L.length) (L++[.map es ck])):alo 40 [.lmap i] L K:=λw0 S0 E w vs hR hv=>by simp only[VRL]at hv;obtain⟨v,_,rfl,hv,rfl⟩:=hv;obtain⟨c,rs,hc,rfl,hb,hmr⟩:=K5 hR hi hv;refine .inl ⟨aj6 Tryz.func40 rfl aoL _ _,(AnyW.maps_Clone Tryz.cloneM c.blk rs ck w hb).mono ?_⟩;rintro e w' ⟨rfl,rfl⟩;have hle:E.le {E with loc:=λj=>if j=L.length then some ⟨w.heap.size,0,0⟩else E.loc j}:=Env.le_loc _ (hR.fresh _ (alr _));have r1:=hR.push (.map rs ck) (.map es ck) ⟨w.heap.size,0,0⟩ rfl rfl ⟨⟨w.heap.size,0,0⟩,rs,aoK,aoK,hmr.mono hle⟩;refine⟨_,_,_,_,rfl,r1.1,h,?_,r1.2⟩;simp only[VR];exact⟨⟨w.heap.size,0,0⟩,aoK,rfl⟩
end Go.Proofs.YtcmfcpjnhephaaaGreatDoor.Av
