/- Joined texts of the walk, made small by a program. -/
import Derived.Test.YtcmfcpjnhephaaaGreatDoorPk11
import Derived.Test.YtcmfcpjnhephaaaGreatDoorPk10
import Derived.Test.YtcmfcpjnhephaaaGreatDoorPk9
import Derived.Test.YtcmfcpjnhephaaaGreatDoorPk7
import Derived.Test.YtcmfcpjnhephaaaGreatDoorPk4
import Derived.Test.YtcmfcpjnhephaaaGreatDoorRows
import Derived.KernelRfl
import Derived.Test.YtcmfcpjnhephaaaGreatDoorPk5
set_option linter.unusedSimpArgs false
set_option linter.unusedVariables false
namespace Go.Proofs.YtcmfcpjnhephaaaGreatDoor.Av
open Go
set_option maxHeartbeats 8000000
set_option maxRecDepth 100000
theorem eX(c:UInt8):(dF c).toNat=if 65<=c.toNat/\c.toNat<=90 then c.toNat+32 else c.toNat:=by by_cases h:65<=c.toNat/\c.toNat<=90;have:=YB h.1 h.2;rw[if_pos h];omega;rw[xR h,if_neg h]
theorem XI(c:UInt8):dF (dF c)=dF c:=by refine xR ?_;rw[eX];split<;>omega
theorem VT(s:List UInt8):af (af s)=af s:=by unfold af;rw[alR];exact amV λc _=>XI c
theorem Vm(s:List UInt8)(c:UInt8):bR (s++[c])=aD (bR s) c:=by simp[bR]
theorem Vn(s:List UInt8):(bR s).length<=s.length:=by have:=rk s s.length;rwa[alt]at this
theorem Yp{b:List UInt8}(c:UInt8)(h:bR b=b):bR (aD b c)=aD b c:=by by_cases hc:c=32/\x8 b=true;simp only[aD,if_pos hc];exact h;simp only[aD,if_neg hc];rw[Vm,h,aD,if_neg hc]
theorem Z9:∀(s b:List UInt8),bR b=b->bR (s.foldl aD b)=s.foldl aD b
 |[],_,h=>h
 |c::s,b,h=>Z9 s (aD b c) (Yp c h)
theorem Ss(s:List UInt8):bR (bR s)=bR s:=Z9 s [] rfl
theorem aiu{b:List UInt8}{c:UInt8}(h:bR (b++[c])=b++[c]):bR b=b/\¬(c=32/\x8 b=true):=by rw[Vm]at h;unfold aD at h;split at h;have:=Vn b;rw[h]at this;simp at this;omega;rename_i hc;have:=List.append_cancel_right h;rw[this]at hc;exact⟨this,hc⟩
theorem So{b:List UInt8}(h:bR b=b):bR (du b)=du b/\du (du b)=du b:=by
 rcases anc b with rfl|⟨d,c,rfl⟩;simp[du,bR];rw[anE]at h⊢;obtain⟨h1,h2⟩:=aiu h;rw[gg];split;rename_i hc;refine⟨h1,?_⟩;have h3:x8 d=false:=by simpa[hc]using h2
 unfold du;rw[if_neg];intro e;simp[x8,e]at h3;rename_i hc;exact⟨h,by rw[gg,if_neg hc]⟩
theorem Yz{b:List UInt8}{c x:UInt8}(h:x∈aD b c):x∈b\/x=c:=by unfold aD at h;split at h;exact .inl h;simpa using h
theorem ZE:∀(s b:List UInt8){x:UInt8},x∈s.foldl aD b->x∈b\/x∈s
 |[],_,_,h=>.inl h
 | c::s,b,x,h=>by
   rcases ZE s (aD b c) h with h1|h1
   .rcases Yz h1 with h2|h2
    .exact .inl h2
    .exact .inr (by simp[h2])
   .exact .inr (by simp[h1])
theorem adx{b:List UInt8}{x:UInt8}(h:x∈du b):x∈b:=by unfold du at h;split at h;exact(List.dropLast_sublist b).subset h;exact h
theorem XF{s:List UInt8}{x:UInt8}(h:x∈bL s):∃c∈s,x=dF c:=by rcases ZE _ _ (adx h)with h1|h1;cases h1;obtain⟨c,hc,rfl⟩:=alg.1 h1;exact⟨c,hc,rfl⟩
theorem aaa(s:List UInt8):af (bL s)=bL s:=by unfold af;rw[amV (g:=id) (λx hx=>?_),List.map_id];obtain⟨c,_,rfl⟩:=XF hx;exact XI c
theorem PF(s:List UInt8):bL (bL s)=bL s:=by
 have h1:bL (bL s)=du (bR (bL s)):=by show du (bR (af (bL s)))=_;rw[aaa]
 rw[h1];have h2:=So (Ss (af s));show du (bR (du (bR (af s))))=du (bR (af s));rw[h2.1,h2.2]
def Chr(q:List UInt8):Prop:=q≠[]/\(∀s,Lib.validD (q++s)=Lib.validD s)/\((∃c:UInt8,q=[c]/\c.toNat<128)\/∀c∈q,128<=c.toNat)
inductive Seg:List UInt8->Prop
 |nil:Seg []
 |cons{q s:List UInt8}:Chr q->Seg s->Seg (q++s)
theorem ol(b:UInt8)(t:List UInt8):Lib.validD (b::t)=if jz (t.length+1) b.toNat (t.getD 0 0).toNat (t.getD 1 0).toNat (t.getD 2 0).toNat=0 then false else Lib.validD ((b::t).drop (jz (t.length+1) b.toNat (t.getD 0 0).toNat (t.getD 1 0).toNat (t.getD 2 0).toNat)):=by rw[<- LY (t.length+1) (b::t) aoA,Ze];split;rfl;rename_i hn;refine LY _ _ ?_;rw[anm,alp];omega
theorem Seg.valid{s:List UInt8}(h:Seg s):Lib.validD s=true:=by
 induction h with
 |nil=>exact Lib.validD_nil
 |cons hq _ ih=>rw[hq.2.1];exact ih
theorem Seg.app{a b:List UInt8}(h:Seg a)(hb:Seg b):Seg (a++b):=by
 induction h with
 |nil=>exact hb
 |cons hq _ ih=>rw[alv];exact .cons hq ih
theorem YV{c:UInt8}(h:c.toNat<128):Chr [c]:=by refine⟨aoA,λs=>?_,.inl ⟨c,rfl,h⟩⟩;rw[an3,ol];rw[show jz (s.length+1) c.toNat (s.getD 0 0).toNat (s.getD 1 0).toNat (s.getD 2 0).toNat=1 by rw[jz,if_pos h]];simp
theorem ajq{n b0 b1 b2 b3:Nat}(h:n<2)(hb:¬b0<128):jz n b0 b1 b2 b3=0:=by rw[jz,if_neg hb,if_pos (show LN n b0 b1 from .inl h),if_pos (show Sg n b0 b1 b2 from .inl aoz),if_pos (show Mx n b0 b1 b2 b3 from .inl aoz)];simp
theorem ajp{n b0 b1 b2 b3:Nat}(h:n<3)(hb:¬b0<224):jz n b0 b1 b2 b3=0:=by rw[jz,if_neg (show ¬b0<128 by omega),if_neg hb,if_pos (show Sg n b0 b1 b2 from .inl h),if_pos (show Mx n b0 b1 b2 b3 from .inl aoz)];simp
theorem ajo{n b0 b1 b2 b3:Nat}(h:n<4)(hb:¬b0<240):jz n b0 b1 b2 b3=0:=by rw[jz,if_neg (show ¬b0<128 by omega),if_neg (show ¬b0<224 by omega),if_neg hb,if_pos (show Mx n b0 b1 b2 b3 from .inl h)];simp
theorem U7:∀(n:Nat) (s:List UInt8),s.length<=n->Lib.validD s=true->Seg s
 |_,[],_,_=>.nil
 |0,_::_,h,_=>by simp at h
 | n+1,b::t,h,hv=>by
   rw[ol]at hv;split at hv
   .cases hv
   rename_i hz;by_cases h1:b.toNat<128
   .rw[show jz (t.length+1) b.toNat (t.getD 0 0).toNat (t.getD 1 0).toNat (t.getD 2 0).toNat=1 by rw[jz,if_pos h1]]at hv;exact Seg.cons (q:=[b]) (YV h1) (U7 n t (by simpa using h) (by simpa using hv))
   have hbb:=b.toNat_lt;obtain⟨k,hk⟩:=ak7 (jz (t.length+1) b.toNat (t.getD 0 0).toNat (t.getD 1 0).toNat (t.getD 2 0).toNat);rw[hk]at hv hz;rcases t with _|⟨x,t⟩
   .exfalso;rw[ajq aoA (by assumption)]at hk;exact hz hk.symm
   by_cases h2:b.toNat<224
   .have hA:128<=b.toNat/\Cn x.toNat/\128<=(b.toNat-192)*64+x.toNat-128/\¬b.toNat<192/\k=2:=by
     simp only[jz,if_neg h1,if_pos h2,amn,LN]at hk
     repeat' split at hk
     all_goals first|(exfalso;omega)|(unfold Cn;rename_i h5 h6;unfold Cn at h6;omega)
    obtain⟨a1,a2,a3,a4,rfl⟩:=hA;refine Seg.cons (q:=[b,x]) ⟨aoA,λs=>?_,.inr (am4.2 ⟨a1,am4.2 ⟨a2.1,λ_ h=>nomatch h⟩⟩)⟩ (U7 n t (by simp at h;omega) (by simpa using hv));show Lib.validD (b::x::s)=_;rw[ol];rw[show jz ((x::s).length+1) b.toNat ((x::s).getD 0 0).toNat ((x::s).getD 1 0).toNat ((x::s).getD 2 0).toNat=2 by
     rw[jz,if_neg h1,if_neg a4,if_pos h2,if_neg];simp only[LN,amn,alp];rintro(e|e|e)
     .omega
     .exact e a2
     .omega]
    simp
   rcases t with _|⟨y,t⟩
   .exfalso;rw[ajp aoA (by assumption)]at hk;exact hz hk.symm
   by_cases h3:b.toNat<240
   .have hA:Cn x.toNat/\Cn y.toNat/\¬Sg (t.length+3) b.toNat x.toNat y.toNat/\k=3:=by
     simp only[jz,if_neg h1,if_neg h2,if_neg (show ¬b.toNat<192 by omega),if_pos h3,amn,am0,alp]at hk;split at hk
     .exfalso;omega
     .rename_i h6;refine⟨?_,?_,h6,hk.symm⟩
      .by_cases e:Cn x.toNat
       .exact e
       .exact absurd (.inr (.inl e)) h6
      .by_cases e:Cn y.toNat
       .exact e
       .exact absurd (.inr (.inr (.inl e))) h6
    obtain⟨a1,a2,a3,rfl⟩:=hA;refine Seg.cons (q:=[b,x,y]) ⟨aoA,λs=>?_,.inr (am4.2 ⟨aoz,am4.2 ⟨a1.1,am4.2 ⟨a2.1,λ_ h=>nomatch h⟩⟩⟩)⟩ (U7 n t (by simp at h;omega) (by simpa using hv));show Lib.validD (b::x::y::s)=_;rw[ol];rw[show jz ((x::y::s).length+1) b.toNat ((x::y::s).getD 0 0).toNat ((x::y::s).getD 1 0).toNat ((x::y::s).getD 2 0).toNat=3 by
     rw[jz,if_neg h1,if_neg (show ¬b.toNat<192 by omega),if_neg h2,if_pos h3,if_neg];simp only[amn,am0,alp];intro e;apply a3;rcases e with e|e
     .omega
     .exact .inr e]
    simp
   rcases t with _|⟨z,t⟩
   .exfalso;rw[ajo aoA (by assumption)]at hk;exact hz hk.symm
   have hA:Cn x.toNat/\Cn y.toNat/\Cn z.toNat/\¬Mx (t.length+4) b.toNat x.toNat y.toNat z.toNat/\k=4:=by
    simp only[jz,if_neg h1,if_neg h2,if_neg (show ¬b.toNat<192 by omega),if_neg h3,amn,am0,alp]at hk;split at hk
    .exfalso;omega
    .rename_i h6;refine⟨?_,?_,?_,h6,hk.symm⟩
     .by_cases e:Cn x.toNat
      .exact e
      .exact absurd (.inr (.inl e)) h6
     .by_cases e:Cn y.toNat
      .exact e
      .exact absurd (.inr (.inr (.inl e))) h6
     .by_cases e:Cn z.toNat
      .exact e
      .exact absurd (.inr (.inr (.inr (.inl e)))) h6
   obtain⟨a1,a2,a4,a3,rfl⟩:=hA;refine Seg.cons (q:=[b,x,y,z]) ⟨aoA,λs=>?_,.inr (am4.2 ⟨aoz,am4.2 ⟨a1.1,am4.2 ⟨a2.1,am4.2 ⟨a4.1,λ_ h=>nomatch h⟩⟩⟩⟩)⟩ (U7 n t (by simp at h;omega) (by simpa using hv));show Lib.validD (b::x::y::z::s)=_;rw[ol];rw[show jz ((x::y::z::s).length+1) b.toNat ((x::y::z::s).getD 0 0).toNat ((x::y::z::s).getD 1 0).toNat ((x::y::z::s).getD 2 0).toNat=4 by
    rw[jz,if_neg h1,if_neg (show ¬b.toNat<192 by omega),if_neg h2,if_neg h3,if_neg];simp only[amn,am0,alp];intro e;apply a3;rcases e with e|e
    .omega
    .exact .inr e]
   simp
theorem Seg.last{s:List UInt8}(h:Seg s):∀d:List UInt8,s=d++[32]->Seg d:=by
 induction h with
 |nil=>intro d e;simp at e
 | @cons q s hq hs ih =>
   intro d e;rcases anc s with rfl|⟨s',c,rfl⟩
   .rw[alJ]at e;subst e;rcases hq.2.2 with⟨c,e2,_⟩|h2
    .have:d=[]:=by have:=congrArg List.length e2;simp at this;exact this
     subst this;exact .nil
    .have:=h2 32 aoA;exact absurd this (by decide)
   .rw[anE]at *;rw[<- alv]at e;obtain⟨e1,e2⟩:=List.append_inj' e rfl;subst e1;rw[e2]at ih hs;exact .cons hq (ih s' rfl)
theorem ags{q:List UInt8}(hq:∀c∈q,128<=c.toNat):∀b,q.foldl aD b=b++q:=by
 induction q with
 |nil=>simp
 | cons c q ih =>
   intro b;have hc:=hq c aoA;have h32:¬(c=32/\x8 b=true):=(by rintro⟨rfl,_⟩;exact absurd hc (by decide));rw[al7,aD,if_neg h32,ih (λc hc=>hq c (by simp[hc]))];simp
theorem aiB{q:List UInt8}(hq:Chr q):Chr (af q)/\((∃c:UInt8,af q=[c]/\c.toNat<128)\/∀c∈af q,128<=c.toNat):=by
 have h:Chr (af q):=by
  rcases hq.2.2 with⟨c,rfl,hc⟩|h2;refine YV (c:=dF c) ?_;rw[eX];split<;>omega;have:af q=q:=by unfold af;rw[amV (g:=id) (λx hx=>?_),List.map_id];refine xR ?_;have:=h2 x hx;omega
  rw[this];exact hq
 exact⟨h,h.2.2⟩
theorem aeX{s:List UInt8}(h:Seg s):∀b,Seg b->Seg ((af s).foldl aD b):=by
 induction h with
 |nil=>exact λb hb=>hb
 | @cons q s hq hs ih =>
   intro b hb;rw[show af (q++s)=af q++af s by simp[af],anb];refine ih _ ?_;obtain⟨h1,⟨c,e,hc⟩|h2⟩:=aiB hq
   .rw[e];simp only[al7,ann,aD];split
    .exact hb
    .exact hb.app (.cons (s:=[]) (YV hc) .nil)
   .rw[ags h2];refine hb.app ?_;have:=Seg.cons h1 .nil;rwa[alJ]at this
theorem Zc{s:List UInt8}(h:Lib.validD s=true):Lib.validD (bL s)=true:=by have h1:=aeX (U7 _ s (ale _) h) [] .nil;refine Seg.valid ?_;show Seg (du (bR (af s)));unfold bR;obtain⟨b,hb⟩:=ak7 ((af s).foldl aD []);rw[hb]at h1⊢;rcases anc b with rfl|⟨d,c,rfl⟩;exact .nil;rw[anE]at h1⊢;rw[gg];split;rename_i hc;subst hc;exact h1.last d rfl;exact h1
def Dif(a b:Ava):Prop:=af a.1≠af b.1
theorem acp{r:Rdn}{t:List UInt8}:lZ r t=false↔∀a∈r,af a.1≠af t:=by simp[lZ]
theorem V6:∀(t done:Rdn),done.length<=8->(dP done t=0↔done.length+t.length<=8/\(∀a∈t,eV a.1=true)/\(∀a∈done,∀b∈t,Dif a b)/\t.Pairwise Dif)
 |[],done,h=>by simp[dP,h]
 | a::t,done,h=>by
   unfold dP;by_cases h8:done.length=8
   .rw[if_pos h8];simp only[alp];constructor
    .intro e;cases e
    .intro e;omega
   rw[if_neg h8];by_cases hty:eV a.1=false
   .rw[if_pos hty];constructor
    .intro e;cases e
    .intro e;have:=e.2.1 a aoA;rw[hty]at this;cases this
   rw[if_neg hty];by_cases hh:lZ done a.1=true
   .rw[if_pos hh];constructor
    .intro e;cases e
    .intro e;have:lZ done a.1=false:=acp.2 λb hb=>e.2.2.1 b hb a aoA
     rw[hh]at this;cases this
   rw[if_neg hh,V6 t (done++[a]) (by simp;omega)];simp only[Bool.not_eq_false]at hty;have hh2:=acp.1 (by simpa using hh);simp only[alw,alp,al9,alh,alB,alj,ana,or_false,forall_eq_or_imp,al2];constructor
   .rintro⟨e1,e2,e3,e4⟩;refine⟨aoz,⟨hty,e2⟩,λx hx=>⟨hh2 x hx,λb hb=>e3 x (.inl hx) b hb⟩,λb hb=>e3 a (.inr rfl) b hb,e4⟩
   .rintro⟨e1,⟨_,e2⟩,e3,e4,e5⟩;refine⟨aoz,e2,?_,e5⟩;rintro x (hx|rfl) b hb
    .exact(e3 x hx).2 b hb
    .exact e4 b hb
theorem acS{t:List UInt8}(h:eV t=true):eV (af t)=true:=by
 simp only[eV,alk,aln,decide_eq_true_eq]at h⊢;obtain⟨⟨⟨h1,h2⟩,h3⟩,h4⟩:=h;have hlet:∀c:UInt8,pZ (c.toNat:Int)=true->pZ ((dF c).toNat:Int)=true:=by intro c hc;have:=eX c;split at this;rw[this];simp only[pZ,alW,alk,decide_eq_true_eq]at hc⊢;omega;rw[this];exact hc
 refine⟨⟨⟨by simpa[af]using h1,by simpa[af]using h2⟩,?_⟩,?_⟩;rcases t with _|⟨c,t⟩;simp at h1;simpa[af]using hlet c (by simpa using h3);intro c hc;obtain⟨x,hx,rfl⟩:=alg.1 hc;have:=h4 x hx;simp only[Qg,alW]at this⊢;rcases this with(e|e)|e;exact .inl (.inl (hlet x e));refine .inl (.inr ?_);simp only[alk,decide_eq_true_eq]at e⊢;rw[eX,if_neg aoz];exact e;refine .inr ?_;simp only[decide_eq_true_eq]at e⊢;rw[eX,if_neg aoz];exact e
theorem Vp(r:Rdn):(fJ r).Perm (r.map tj):=by have:=(R2 r [] List.Pairwise.nil).2;rwa[alL]at this
theorem adr(a:Ava):tj (tj a)=tj a:=by simp[tj,VT,PF]
theorem YW{r:Rdn}(h:dP [] r=0):dP [] (fJ r)=0:=by
 rw[V6 _ _ aoA]at h⊢;obtain⟨h1,h2,_,h4⟩:=h;have hp:=Vp r;refine⟨by simpa[yo]using h1,λa ha=>?_,λa ha=>(by cases ha),?_⟩;obtain⟨b,hb,rfl⟩:=alg.1 (hp.mem_iff.1 ha);exact acS (h2 b hb);refine(hp.pairwise_iff (λ{a b} e=>Ne.symm e)).2 ?_;rw[anQ];refine h4.imp λ{a b} e=>?_
 simpa[Dif,tj,VT]using e
theorem V7:∀(d:List Rdn) (i:Nat),l3 i d=0->l3 i (lH d)=0
 |[],_,h=>h
 | r::d,i,h=>by
   unfold l3 at h;show l3 i (fJ r::lH d)=0;unfold l3;split at h
   .cases h
   rename_i h32;split at h
   .cases h
   rename_i hr;split at h
   .rename_i h5;exact absurd h h5
   rename_i h5;simp only[ne_eq,anB]at h5;rw[if_neg h32,if_neg,if_neg (by simpa using YW h5),V7 d _ h];intro e;have:=congrArg List.length e;rw[yo]at this;exact hr (alS.1 this)
def wtB(c:UInt8):Nat:=if c=0 then 3 else if c∈([34,43,44,59,60,62,92]:List UInt8)then 2 else 1
def wtS(s:List UInt8):Nat:=(s.map wtB).sum
theorem abW(a b:List UInt8):wtS (a++b)=wtS a+wtS b:=by simp[wtS]
theorem ajd:∀c:UInt8,wtB (dF c)=wtB c:=by
 intro c;by_cases h:65<=c.toNat/\c.toNat<=90
 .have h2:=eX c;rw[if_pos h]at h2;have g:∀x:UInt8,65<=x.toNat->x.toNat≠92->wtB x=1:=by
   intro x hx hn;unfold wtB;rw[if_neg (by rintro rfl;exact absurd hx (by decide)),if_neg];simp only[alj,ana,or_false];rintro(rfl|rfl|rfl|rfl|rfl|rfl|rfl)
   all_goals first|exact absurd hx (by decide)|exact absurd rfl hn
  rw[g c aoz aoz,g _ aoz aoz]
 rw[xR h]
theorem Za(s:List UInt8):wtS (af s)=wtS s:=by simp only[wtS,af,alR];rw[show(wtB∘dF)=wtB from funext ajd]
theorem ajh(i n:Nat)(c:UInt8):wtB c<=(wrB i n c).length:=by unfold wtB wrB;by_cases h0:c=0;rw[if_pos h0,if_pos h0];simp;rw[if_neg h0,if_neg h0];by_cases h7:c∈([34,43,44,59,60,62,92]:List UInt8);rw[if_pos h7,if_pos (.inr (.inr h7))];simp;rw[if_neg h7];split<;>simp
theorem aaB(n:Nat):∀(s:List UInt8) (i:Nat),wtS s<=(wrL n i s).length
 |[],_=>by simp[wtS]
 |c::s,i=>by have h1:=aaB n s (i+1);have h2:=ajh i n c;simp only[wrL,alw,wtS,alr,amI]at h1⊢;omega
theorem ajj{i n:Nat}{c:UInt8}(hi:i≠0)(hc:c≠32):(wrB i n c).length=wtB c:=by
 unfold wtB wrB;by_cases h0:c=0;rw[if_pos h0,if_pos h0];simp;rw[if_neg h0,if_neg h0];by_cases h7:c∈([34,43,44,59,60,62,92]:List UInt8);rw[if_pos h7,if_pos (.inr (.inr h7))];simp;rw[if_neg h7,if_neg];· simp
 rintro(e|e|e);exact hi e.1;exact hc e.2;exact h7 e
theorem aji{i n:Nat}(hi:i≠0)(hn:i+1≠n):(wrB i n 32).length=wtB 32:=by
 have e:wrB i n 32=[32]:=by unfold wrB;rw[if_neg (by decide),if_neg];rintro(e|e|e);exact hi e.1;exact hn e.1;exact absurd e (by decide)
 rw[e];decide
theorem aeD(n:Nat):∀(s:List UInt8) (i:Nat),i≠0->n=i+s.length->s.getLast?≠some 32->(wrL n i s).length=wtS s
 |[],_,_,_,_=>by simp[wrL,wtS]
 | c::s,i,hi,hn,hl=>by
   have h1:s.getLast?≠some 32:=by
    rcases s with _|⟨x,s⟩
    .simp
    .rwa[List.getLast?_cons_cons]at hl
   have ih:=aeD n s (i+1) aoz (by simp at hn;omega) h1;have h2:(wrB i n c).length=wtB c:=by
    by_cases hc:c=32
    .subst hc;refine aji hi λe=>?_
     have:s=[]:=alS.1 (by simp at hn;omega);subst this;exact hl rfl
    .exact ajj hi hc
   rw[wrL,alw,ih,h2];simp[wtS]
theorem aeC(s:List UInt8):wtS s<=(eH s).length:=aaB _ _ _
theorem aaA(s:List UInt8):wtS (35::s)+1<=(eH (35::s)).length:=by
 have h1:=aaB (s.length+1) s 1;have e:wrB 0 (s.length+1) 35=[92,35]:=by unfold wrB;rw[if_neg (by decide),if_pos (.inl ⟨rfl,.inr rfl⟩)]
 show _<=(wrB 0 (s.length+1) 35++wrL (s.length+1) 1 s).length;rw[e];have:wtB 35=1:=by decide
 simp only[wtS,alr,amI,alw,alp,al9]at h1⊢;omega
theorem aeB{c:UInt8}{s:List UInt8}(h1:c≠32)(h2:(c::s).getLast?≠some 32):(eH (c::s)).length=wtS (c::s)+(if c=35 then 1 else 0):=by
 have hs:s.getLast?≠some 32:=by rcases s with _|⟨x,s⟩;simp;rwa[List.getLast?_cons_cons]at h2
 have h3:=aeD (s.length+1) s 1 aoz aoz hs;show(wrB 0 (s.length+1) c++wrL (s.length+1) 1 s).length=_;rw[alw,h3];have h4:(wrB 0 (s.length+1) c).length=wtB c+(if c=35 then 1 else 0):=by
  unfold wtB wrB;by_cases h0:c=0;subst h0;rfl;rw[if_neg h0,if_neg h0];by_cases h7:c∈([34,43,44,59,60,62,92]:List UInt8);rw[if_pos h7,if_pos (.inr (.inr h7)),if_neg];rfl;rintro rfl;exact absurd h7 (by decide);rw[if_neg h7];by_cases h35:c=35;rw[if_pos h35,if_pos (.inl ⟨rfl,.inr h35⟩)];rfl;rw[if_neg h35,if_neg];· rfl
  rintro(e|e|e);rcases e.2 with e|e;exact h1 e;exact h35 e;exact h1 e.2;exact h7 e
 rw[h4];simp[wtS];omega
theorem ahq(b:List UInt8)(c:UInt8):wtS (aD b c)<=wtS b+wtB c:=by unfold aD;split;omega;rw[abW];simp[wtS]
theorem Yf:∀(s b:List UInt8),wtS (s.foldl aD b)<=wtS b+wtS s
 |[],b=>by simp[wtS]
 |c::s,b=>by have h1:=Yf s (aD b c);have h2:=ahq b c;simp only[al7,wtS,alr,amI]at h1 h2⊢;omega
theorem abV(b:List UInt8):wtS (du b)<=wtS b:=by rcases anc b with rfl|⟨d,c,rfl⟩;simp[du];rw[anE,gg];split;rw[abW];omega;omega
theorem SJ:∀(s:List UInt8) (x:UInt8) (b:List UInt8),∃t,s.foldl aD (x::b)=x::t
 |[],x,b=>⟨b,rfl⟩
 | c::s,x,b=>by
   rw[al7,aD];split
   .exact SJ s x b
   .exact SJ s x (b++[c])
theorem ahr(c:UInt8):1<=wtB c:=by unfold wtB;split;omega;split<;>omega
theorem abb(s:List UInt8):(bL s).getLast?≠some 32:=by have h:=So (Ss (af s));have e:du (bL s)=bL s:=h.2;intro hl;rcases anc (bL s)with q|⟨d,c,q⟩;rw[q]at hl;cases hl;rw[q,anE]at e hl;rw[gg,if_pos (by simpa using hl)]at e;have:=congrArg List.length e;simp at this
theorem abj{s:List UInt8}{c:UInt8}{t:List UInt8}(h:bL s=c::t):c≠32:=by have e:bR (bL s)=bL s:=(So (Ss (af s))).1;rw[h]at e;rintro rfl;have:=Vn t;have e2:bR (32::t)=t.foldl aD []:=rfl;rw[e2]at e;have:=congrArg List.length e;have h3:(t.foldl aD []).length<=t.length:=Vn t;simp at this;omega
theorem acK(s:List UInt8):(eH (bL s)).length<=(eH s).length:=by
 have hge:=aeC s;have hw:wtS (bL s)<=wtS s:=by have h1:=abV (bR (af s));have h2:=Yf (af s) [];have h3:=Za s;have h4:wtS (bR (af s))=wtS ((af s).foldl aD []):=rfl;have h5:wtS ([]:List UInt8)=0:=rfl;show wtS (du (bR (af s)))<=_;omega
 rcases hp:bL s with _|⟨c,t⟩;simp[eH,wrL];have hl:=abb s;rw[hp]at hl hw;rw[aeB (abj hp) hl];split;rename_i h35;subst h35;rcases s with _|⟨x,s⟩;have:bL []=[]:=rfl;rw[this]at hp;cases hp;by_cases hx:x=35;subst hx;have:=aaA s;omega;by_cases hx2:x=32;subst hx2;have e:bL (32::s)=bL s:=rfl;have h1:=abV (bR (af s));have h2:=Yf (af s) [];have h3:=Za s;have h4:wtS (bR (af s))=wtS ((af s).foldl aD []):=rfl;have h5:wtS ([]:List UInt8)=0:=rfl;have h6:wtS (bL s)=wtS (du (bR (af s))):=rfl;rw[e]at hp;rw[hp]at h6;have h7:wtS (32::s)=wtB 32+wtS s:=by simp[wtS]
 have h8:=ahr 32;omega;exfalso;have hlx:¬(dF x=32):=by
  intro q;have:=eX x;rw[q]at this;apply hx2;have:x.toNat=32:=by split at this;have h9:(32:UInt8).toNat=32:=rfl;omega;exact this.symm
  exact UInt8.toNat.inj this
 have hlx5:¬(dF x=35):=by
  intro q;have:=eX x;rw[q]at this;apply hx;have:x.toNat=35:=by split at this;have h9:(35:UInt8).toNat=35:=rfl;omega;exact this.symm
  exact UInt8.toNat.inj this
 have e1:af (x::s)=dF x::af s:=rfl;obtain⟨u,hu⟩:=SJ (af s) (dF x) [];have e2:bR (af (x::s))=dF x::u:=by rw[e1,<- hu];show(af s).foldl aD (aD [] (dF x))=_;rw[aD,if_neg (λq=>hlx q.1)];rfl
 have e3:du (dF x::u)=35::t:=by rw[<- e2];exact hp
 rcases anc u with rfl|⟨d,y,rfl⟩;have:du ([]++[dF x])=[]++[dF x]:=by rw[gg,if_neg hlx]
 rw[show[dF x]=[]++[dF x]from rfl,this]at e3;exact hlx5 (by simpa using congrArg List.head? e3);rw[anE,<- alN,gg]at e3;split at e3;exact hlx5 (by simpa using congrArg List.head? e3);exact hlx5 (by simpa using congrArg List.head? e3);omega
theorem RU(xs:List (List UInt8))(c:UInt8):(Lib.join xs [c]).length+1=(xs.map List.length).sum+xs.length+(if xs=[]then 1 else 0):=by
 rcases xs with _|⟨x,xs⟩;simp[Lib.join];rw[VD,if_neg aoA];have:(xs.flatMap λy=>[c]++y).length=(xs.map List.length).sum+xs.length:=by
  induction xs with
  |nil=>rfl
  |cons y l ih=>simp only[amm,alw,ih,alr,amI,alp,al9];omega
 simp only[alw,this,alr,amI,alp];omega
theorem aaJ{α:Type}{f g:α->Nat}:∀l:List α,(∀a∈l,f a<=g a)->(l.map f).sum<=(l.map g).sum
 |[],_=>ale _
 | a::l,h=>by
   have h1:=aaJ l λx hx=>h x (by simp[hx])
   have h2:=h a aoA;simp only[alr,amI];omega
theorem afs{l m:List Nat}(h:l.Perm m):l.sum=m.sum:=by
 induction h with
 |nil=>rfl
 |cons _ _ ih=>simp only[amI,ih]
 |swap a b l=>simp only[amI];omega
 |trans _ _ a b=>exact a.trans b
theorem Zp(r:Rdn):(dw true r).length<=(dw false r).length:=by
 have hs:(dO (r.map (avT true))).Perm (r.map (avT true)):=anx _ _;have h1:=RU (dO (r.map (avT true))) 43;have h2:=RU (r.map (avT false)) 43;have h3:((dO (r.map (avT true))).map List.length).sum=((r.map (avT true)).map List.length).sum:=afs (hs.map _);have h4:(dO (r.map (avT true))).length=r.length:=by rw[hs.length_eq];simp
 have h5:((r.map (avT true)).map List.length).sum<=((r.map (avT false)).map List.length).sum:=by
  rw[alR,alR];refine aaJ r λa _=>?_
  have:=acK a.2;simp only[aof,avT,if_true,alx,if_false,alw,alp,al9];simp only[af,alU];omega
 have h6:(if dO (r.map (avT true))=[]then 1 else 0)=(if r.map (avT false)=[]then 1 else 0):=by
  have:dO (r.map (avT true))=[]↔r.map (avT false)=[]:=by rw[<- alS,<- alS,h4];simp
  simp only[this]
 simp only[dw,if_true,alx,if_false];rw[h3,h4,h6]at h1;simp only[alU]at h2;omega
theorem Zi(d:List Rdn):(ee true d).length<=(ee false d).length:=by
 have h1:=RU (d.map (dw true)) 44;have h2:=RU (d.map (dw false)) 44;have h3:((d.map (dw true)).map List.length).sum<=((d.map (dw false)).map List.length).sum:=by rw[alR,alR];exact aaJ d λr _=>Zp r
 have h6:(if d.map (dw true)=[]then 1 else 0)=(if d.map (dw false)=[]then 1 else 0):=by simp only[aoe]
 rw[h6]at h1;simp only[alU]at h1 h2;unfold ee;omega
theorem acY{xs ys:List (List UInt8)}(h:xs.Perm ys):dO xs=dO ys:=by
 have hs:∀zs:List (List UInt8),(dO zs).Pairwise λx y=>x<=y:=λzs=>by
  have:=aoq (le:=λx y:List UInt8=>decide (x<=y)) (λa b c h1 h2=>by
   simp only[decide_eq_true_eq]at *;exact List.le_trans h1 h2) (λa b=>by
   simp only[alW,decide_eq_true_eq];exact List.le_total a b) zs
  exact this.imp λh=>by simpa using h
 refine aog (le:=λx y=>x<=y) (λa b _ _=>aob) (hs xs) (hs ys) ?_;exact(anx _ _).trans (h.trans (anx _ _).symm)
theorem aaL(r:Rdn):dw true (fJ r)=dw true r:=by simp only[dw,if_true];congr 1;refine acY ?_;refine((Vp r).map _).trans ?_;rw[alR];rw[show(avT true∘tj)=avT true from funext λa=>by simp only[aof,acA,adr]]
theorem aaG(d:List Rdn):ee true (lH d)=ee true d:=by unfold ee lH;rw[alR];rw[show(dw true∘fJ)=dw true from funext aaL]
theorem abc{s:List UInt8}(h:(Lh s).2=0):Lh (Lh s).1=Lh s/\(Lh s).1.length<=4096:=by
 unfold Lh at h;split at h;rename_i h1;exact absurd h h1;rename_i h1;have hk:Lh s=Vv (xN s).1:=by rw[Lh,if_neg h1]
 rw[hk];obtain⟨d,hd⟩:=ak7 ((xN s).1);rw[hd]at h⊢;unfold Vv at h;split at h;rename_i h2;exact absurd h h2;rename_i h2;have hn:Vv d=(ee true d,0):=by rw[Vv,if_neg h2]
 rw[hn];simp only[ne_eq,anB]at h2;have hp:l3 0 d=0/\(ee false d).length<=4096:=by unfold prS at h2;split at h2;rename_i h3;exact absurd h2 h3;rename_i h3;split at h2;cases h2;split at h2;cases h2;exact⟨by simpa using h3,aoz⟩
 have hl:=Zi d;have ht:=Vo d;have hc:=V7 d 0 hp.1;have hl2:(ee false (lH d)).length<=4096:=by rw[ht];omega
 refine⟨?_,by simp only;omega⟩;simp only;rw[<- ht];unfold Lh;rw[afw hc hl2];simp only;rw[if_neg aoA];unfold Vv;have hpr:prS (lH d)=(ee false (lH d),0):=by unfold prS;rw[if_neg (by simpa using hc),ZK (Zm (alF (ab1 _) hl2)),if_neg aoA,if_neg aoz]
 rw[hpr];simp only;rw[if_neg aoA,aaG,ht]
theorem aek{v:List UInt8}(h:My v=true):My (bL v)=true:=by simp only[My,aln,decide_eq_true_eq]at h⊢;intro x hx;obtain⟨c,hc,rfl⟩:=XF hx;have:=h c hc;have h2:=eX c;split at h2<;>omega
theorem aa1{syn:Int}{v n:List UInt8}(h:cj syn v=some n)(hx:¬(n=[]/\syn=1)):cj syn n=some n:=by unfold cj at h;split at h;cases h;rename_i hl;have hpl:=xM v;unfold GF at h;split at h;rename_i hs;split at h;cases h;split at h;rename_i hv;cases h;unfold cj GF;rw[if_neg aoz,if_pos hs,if_neg (λe=>hx ⟨e,hs⟩),if_pos (Zc hv),PF];cases h;split at h;rename_i h1 hs;split at h;cases h;rename_i h0;split at h;rename_i hv;cases h;unfold cj GF;rw[if_neg hl,if_neg h1,if_pos hs,if_neg h0,if_pos hv];cases h;split at h;rename_i h1 h2 hs;split at h;rename_i ha;cases h;unfold cj GF;rw[if_neg aoz,if_neg h1,if_neg h2,if_pos hs,if_pos (aek ha),PF];cases h;split at h;rename_i h1 h2 h3 hs;split at h;rename_i ha;cases h;unfold cj GF;rw[if_neg hl,if_neg h1,if_neg h2,if_neg h3,if_pos hs,if_pos ha];cases h;split at h;rename_i h1 h2 h3 h4 hs;split at h;rename_i ha;cases h;unfold cj GF;rw[if_neg hl,if_neg h1,if_neg h2,if_neg h3,if_neg h4,if_pos hs,if_pos ha];cases h;split at h;rename_i h1 h2 h3 h4 h5 hs;split at h;rename_i ha;cases h;have hk:=abc ha;unfold cj GF;rw[if_neg aoz,if_neg h1,if_neg h2,if_neg h3,if_neg h4,if_neg h5,if_pos hs,hk.1,if_pos ha];cases h;split at h;rename_i h1 h2 h3 h4 h5 h6 hs;cases h;unfold cj GF;rw[if_neg hl,if_neg h1,if_neg h2,if_neg h3,if_neg h4,if_neg h5,if_neg h6,if_pos hs];split at h;rename_i h1 h2 h3 h4 h5 h6 h7 hs;split at h;rename_i ha;cases h;unfold cj GF;rw[if_neg hl,if_neg h1,if_neg h2,if_neg h3,if_neg h4,if_neg h5,if_neg h6,if_neg h7,if_pos hs,if_pos ha];cases h;cases h
variable {L:List Blk}{K:alc}
theorem fZ(s:List UInt8):(bq s).length=s.length-2:=by simp[bq]
theorem Mh{s:List UInt8}{i:Nat}(h:i+3<=s.length):(bq s).take (i+1)=(bq s).take i++[(s.drop i).take 3]:=by
 have hi:i<(bq s).length:=by rw[fZ];omega
 rw[aly hi];simp[bq]
theorem ZB{syn:Int}{v n:List UInt8}(h:cj syn v=some n):n.length<=4096:=by by_cases c:n=[]/\syn=1;rw[c.1];simp;exact adv (aa1 h c)
theorem acr{s:List UInt8}(hs:s.length<=100000)(h:K (G9 (bq s)) L):alb 41 [.str s] L K:=by replace h:=hid h;refine ala Tl ?_;refine bt (l:=[]) (n:=0) 3 1 rfl (alG 1).symm ?_;refine ah (λm T' L'=>∃(k:Nat) (C:List AV) (X:List Blk),m=s.length-k/\k<=s.length-2/\C=((bq s).take k).map AV.str/\T'=[(4,.int .i64 (k:Int)),(3,.gsl C k L.length 1),(0,.str s)]/\L'=L++(.spare k 1::X)) aoD ⟨0,[],[],rfl,ali _,rfl,rfl,rfl⟩ ?_;rintro _ _ _ ⟨k,C,X,rfl,hk,hC,rfl,rfl⟩;by_cases hlt:k+3<=s.length;have g2:IntKind.i64.wrap ((k:Int)+3)=(k:Int)+3:=ab aoz aoz;have g3:=ak9 k aoz;have g1:(k:Int)+3<=(s.length:Int):=aoz;have htk:=Mh hlt;replace htk:=hid htk;replace hC:=hid hC;have e3:((k:Int)+3).toNat-k=3:=aoz;refine wk ?_;exact aoE aoz aoC ⟨k+1,_,X,rfl,aoz,by rw[htk.o,alM,hC.o];rfl,rfl,rfl⟩;have g2:IntKind.i64.wrap ((k:Int)+3)=(k:Int)+3:=ab aoz aoz;have g1:¬(k:Int)+3<=(s.length:Int):=aoz;have hke:k=s.length-2:=aoz;have htk:((bq s).take k)=bq s:=amb (by rw[fZ];omega);rw[htk]at hC;subst hC;have hl:=hid (show k=(bq s).length by rw[fZ];exact hke);clear hke htk hk;refine wk ?_;refine aW ?_;simp only[AV.frz,eB];rw[hl.o];exact ae (by simp only[AV.refs,iD]) h.o
end Go.Proofs.YtcmfcpjnhephaaaGreatDoor.Av
set_option maxRecDepth 100000
namespace Go.Proofs.YtcmfcpjnhephaaaGreatDoor.Av
open Go
def Nt:LSO:=[Ag 4]
def Nr:LSO:=[Aa 7 0,Ak 8 7,Ad 9 0]
def Nq:LSO:=[Al 10 9 8]
def Np:LSO:=[An 11 1 7 9,Ab 12 1 11,Aa 6 12]
def No:LSO:=[Aa 13 6,Aa 14 1,AC 15 13 14]
def Nn:LSO:=[Az 4]
def Nm:LSO:=[Af 16 9 1,Aa 9 16]
def Nl:LSO:=[Ag 4]
def LC:aG:=⟨17,(aos Nt [] (.seq (aos Nr [] (aov 0 (aos Nq [] (.seq (aow 10 0) (.seq (.block 1 (aos Np Cv (aos No Cv (aou 15 (.sreg Nn []))))) (.sreg Nm Cu)))))) (aos Nl [] .ret))),[(.tmp 4)]⟩
attribute [push_cast] Nt Nr Nq Np No Nn Nm Nl
theorem We:aox 82=aoy LC:=aoB
attribute [push_cast] LC
end Go.Proofs.YtcmfcpjnhephaaaGreatDoor.Av
set_option maxRecDepth 100000
namespace Go.Proofs.YtcmfcpjnhephaaaGreatDoor.Av
open Go
variable {ts:List Typ}{cap:Option Nat}{n:List UInt8}{l:List (List UInt8)}{k:aU}{it im ie ip ii ec pc:Nat}{L:List Blk}{K:alc}{em:List (bc Int (List Atr))}{pm:List (bc (List UInt8) Nat)}{id:Int}{Q:List UInt8->Int->Prop}{B:Nat->Prop}
def QO:LSO:=[Ad 4 0]
def QN:LSO:=[Aa 6 0,Ak 7 6,Ad 8 0]
def QM:LSO:=[Al 9 8 7]
def QL:LSO:=[Aa 10 8,Aa 5 10]
def QK:LSO:=[Aa 11 0,Aa 12 5,An 13 4 11 12,Ac 14 0 13,Ab 15 1 14,Am 16 39 15,Aa 17 1,Am 18 39 17,AC 19 16 18]
def QJ:LSO:=[Aa 20 5,Aa 4 20]
def QI:LSO:=[Af 21 8 1,Aa 8 21]
def QH:LSO:=[Ad 4 (-1)]
def P0:aG:=⟨22,(aos QO [] (.seq (aos QN Cz (aov 0 (aos QM [] (.seq (aow 9 0) (.seq (.block 1 (aos QL Cu (aos QK CG (aou 19 (.sreg QJ Cu))))) (.sreg QI Cu)))))) (aos QH [] .ret))),[(.tmp 4)]⟩
attribute [push_cast] QO QN QM QL QK QJ QI QH
theorem WW:aox 12=aoy P0:=aoB
def vb:LSO:=[Ah 4]
def u9:LSO:=[Aa 7 0,Ak 8 7,Ad 9 0]
def u7:LSO:=[Al 10 9 8]
def u6:LSO:=[An 11 2 7 9,Ap 12 2 11,Bz 6,Ai 2 6 12]
def u0:LSO:=[Ac 13 0 6,Ab 14 1 13,Am 15 39 14,Aa 16 1,Am 17 39 16,AC 18 15 17]
def uZ:LSO:=[o1 19 (.bslice false 1 0 [] []),Ac 20 1 6,Ab 21 1 20,Bi 22 19 21,Aa 4 22]
def uY:LSO:=[Af 23 9 1,Aa 9 23]
def uX:LSO:=[Ah 4]
def rW:aG:=⟨24,(aos vb [] (.seq (aos u9 [] (aov 0 (aos u7 [] (.seq (aow 10 0) (.seq (.block 1 (aos u6 Cv (aos u0 Cy (aou 18 (.sreg uZ Cx))))) (.sreg uY Cu)))))) (aos uX [] .ret))),[(.tmp 4)]⟩
attribute [push_cast] vb u9 u7 u6 u0 uZ uY uX
theorem Sb:aox 15=aoy rW:=aoB
def HH:LSO:=[Au 4]
def HG:LSO:=[Aa 8 0,Aa 9 1,Aq 10 45 8 9,Aa 7 10,As 11 7,Aw 12 7,Aa 5 11,Aa 6 12]
def HF:LSO:=[Aa 13 5,Aa 4 13]
def yG:aG:=⟨14,(aos HH [] (aos HG CV (aos HF Cu .ret))),[(.tmp 4)]⟩
attribute [push_cast] HH HG HF
theorem Ur:aox 164=aoy yG:=aoB
def QG:LSO:=[Ag 6]
def QF:LSO:=[Aa 9 1,Ak 10 9,Ad 11 0]
def QE:LSO:=[Al 12 11 10]
def QD:LSO:=[An 13 1 9 11,Ab 14 1 13,Aa 8 14]
def QC:LSO:=[Aa 15 0,Aa 16 8,Aq 17 164 15 16,Aa 18 2,AC 19 17 18]
def QB:LSO:=[Az 6]
def QA:LSO:=[Af 20 11 1,Aa 11 20]
def Qz:LSO:=[Ag 6]
def PZ:aG:=⟨21,(aos QG [] (.seq (aos QF [] (aov 0 (aos QE [] (.seq (aow 12 0) (.seq (.block 1 (aos QD Cv (aos QC Cx (aou 19 (.sreg QB []))))) (.sreg QA Cu)))))) (aos Qz [] .ret))),[(.tmp 6)]⟩
attribute [push_cast] QG QF QE QD QC QB QA Qz
theorem WV:aox 127=aoy PZ:=aoB
def HR:LSO:=[Ah 6]
def HQ:LSO:=[Ah 7]
def HP:LSO:=[Ag 8]
def HO:LSO:=[Aa 11 1,Ak 12 11,Ad 13 0]
def HN:LSO:=[Al 14 13 12]
def HM:LSO:=[An 15 1 11 13,Ab 16 1 15,Aa 10 16]
def HL:LSO:=[Aa 17 8,Ay 18 17,Aa 19 18,.grp none 19 true
 [Ae 20 19 0,Ae 21 19 2,B4 22 19 164 20 21,Ae 23 19 0,Ae 24 19 10,B4 25 19 164 23 24,Bn 26 19 22 25]
 27 (tm 26)]
def HK:LSO:=[Aa 28 7,Aa 29 2,Bo 30 29,Bi 31 28 30,Aa 7 31]
def HJ:LSO:=[Az 8]
def HI:LSO:=[Aa 32 7,Aa 33 10,Bo 34 33,Bi 35 32 34,Aa 7 35]
def zF:LSO:=[Af 36 13 1,Aa 13 36]
def zE:LSO:=[Aa 37 8,Ay 38 37]
def zD:LSO:=[Aa 39 7,Aa 40 2,Bo 41 40,Bi 42 39 41,Aa 7 42]
def zC:LSO:=[Aa 43 7,Aa 6 43]
def yH:aG:=⟨44,(aos HR [] (aos HQ [] (aos HP [] (.seq (aos HO [] (aov 0 (aos HN [] (.seq (aow 14 0) (.seq (.block 1 (aos HM Cv (.seq (aos HL Cw (aot 27 (aos HK Cx (.sreg HJ [])) .skip)) (.sreg HI Cx)))) (.sreg zF Cu)))))) (.seq (aos zE Cu (aot 38 (.sreg zD Cx) .skip)) (aos zC Cu .ret)))))),[(.tmp 6)]⟩
attribute [push_cast] HR HQ HP HO HN HM HL HK HJ HI zF zE zD zC
theorem Us:aox 128=aoy yH:=aoB
def M3:LSO:=[A4 3 0,Ah 6,Ad 7 0]
def M2:LSO:=[Aa 12 2,Ak 13 12,Ad 14 0]
def M1:LSO:=[Al 15 14 13]
def M0:LSO:=[An 16 1 12 14,Ab 17 1 16,Aa 9 17]
def MZ:LSO:=[Ac 19 1 3,Ab 20 1 19,Aa 21 9,Aq 22 45 20 21,Aa 18 22,As 23 18,Aw 24 18,Aa 10 23,Aa 11 24]
def MY:LSO:=[Aa 25 11,Ay 26 25]
def MX:LSO:=[Ah 6,Ad 7 21]
def MW:LSO:=[Ac 27 1 3,Ab 28 1 27,Aa 29 1,Aa 30 10,AA 31 127 28 29 30]
def MV:LSO:=[Ah 6,Ad 7 20]
def MU:LSO:=[Ac 32 1 3,Ab 33 1 32,Aa 34 1,Aa 35 9,AA 36 128 33 34 35,Aa 1 36]
def HV:LSO:=[Af 37 14 1,Aa 14 37]
def HU:LSO:=[Ac 38 2 3,Ab 39 1 38,Aa 40 39,.grp none 40 true
 [Ae 41 40 1,AU 42 40 41,BR 43 40 42 1]
 44 (tm 43)]
def HT:LSO:=[Ah 6,Ad 7 19]
def HS:LSO:=[Aa 45 1,Aa 6 45,Ad 7 0]
def Lz:aG:=⟨46,(aos M3 [] (.seq (aos M2 [] (aov 0 (aos M1 [] (.seq (aow 15 0) (.seq (.block 1 (aos M0 Cv (aos MZ CK (.seq (aos MY Cu (aou 26 (.sreg MX []))) (.seq (aos MW Cx (aou 31 (.sreg MV []))) (.sreg MU Cy)))))) (.sreg HV Cu)))))) (.seq (aos HU Cw (aou 44 (.sreg HT []))) (aos HS Cz .ret)))),[(.tmp 6),(.tmp 7)]⟩
attribute [push_cast] M3 M2 M1 M0 MZ MY MX MW MV MU HV HU HT HS
theorem Wb:aox 83=aoy Lz:=aoB
def Nd:LSO:=[Ah 6]
def Nc:LSO:=[Ah 7]
def Nb:LSO:=[Aa 11 2,Ak 12 11,Ao 13 12 0,Aa 8 13]
def Na:LSO:=[Aa 14 0,Ak 15 14,Ad 16 0]
def M9:LSO:=[Al 17 16 15]
def M8:LSO:=[An 18 2 14 16,Ap 19 2 18,Bz 10,Ai 2 10 19]
def M7:LSO:=[Aa 20 8,Ay 21 20,Aa 22 21,.grp none 22 true
 [Ae 23 22 1,AL 24 22 39 23,A6 25 22 0 10,A5 26 22 1 25,AL 27 22 39 26,og 28 22 true (.bin .leq (tm 24) (tm 27))]
 29 (tm 28)]
def M6:LSO:=[Aa 30 7,Aa 31 1,Aa 32 2,o1 33 (.build [(.str []),(.sl [] 0 (some 0))] [(0,(1,(tm 31))),(1,(1,(tm 32)))]),BU 34 33,Cq 35 30 34,Aa 7 35]
def M5:LSO:=[Az 8]
def M4:LSO:=[Aa 36 1,Am 37 39 36,Ac 38 0 10,Ab 39 1 38,Am 40 39 39,BV 41 37 40]
def H8:LSO:=[Aa 42 7,Ap 43 2 10,BU 44 43,Cq 45 42 44,Aa 7 45]
def H7:LSO:=[Af 46 16 1,Aa 16 46]
def H6:LSO:=[Aa 47 8,Ay 48 47]
def H5:LSO:=[Aa 49 7,Aa 50 1,Aa 51 2,o1 52 (.build [(.str []),(.sl [] 0 (some 0))] [(0,(1,(tm 50))),(1,(1,(tm 51)))]),BU 53 52,Cq 54 49 53,Aa 7 54]
def H4:LSO:=[Aa 55 7,Aa 6 55]
def LA:aG:=⟨56,(aos Nd [] (aos Nc [] (aos Nb Cw (.seq (aos Na [] (aov 0 (aos M9 [] (.seq (aow 17 0) (.seq (.block 1 (aos M8 Cv (.seq (.seq (.sdreg M7 [.pure,.pure,.pure,.pure,(.read 0 0),.pure,(.read 0 0)] Cw) (aot 29 (aos M6 C0 (.sreg M5 [])) .skip)) (.seq (.sdreg M4 [.pure,(.read 0 0),.pure,(.read 0 0)] Cy) (aot 41 (.sreg H8 Cx) .skip))))) (.sreg H7 Cu)))))) (.seq (aos H6 Cu (aot 48 (.sreg H5 C0) .skip)) (aos H4 Cu .ret)))))),[(.tmp 6)]⟩
attribute [push_cast] Nd Nc Nb Na M9 M8 M7 M6 M5 M4 H8 H7 H6 H5 H4
theorem Wc:aox 84=aoy LA:=aoB
def Ij:LSO:=[A4 2 0,Ah 4,Ad 5 0]
def Ii:LSO:=[Ah 6]
def Ih:LSO:=[Aa 12 1,Ak 13 12,Ad 14 0]
def Ig:LSO:=[Al 15 14 13]
def If:LSO:=[An 16 2 12 14,Ap 17 2 16,Bz 8,Ai 2 8 17]
def Ie:LSO:=[Ac 18 0 2,Ab 19 1 18,Ac 20 0 8,Ab 21 1 20,Aq 22 12 19 21,Aa 9 22]
def Ic:LSO:=[Aa 23 9,AD 24 23 0]
def Ib:LSO:=[Ah 4,Ad 5 17]
def Ia:LSO:=[Ac 25 1 8,Ab 26 1 25,Ak 27 26,Ao 28 27 0]
def H9:LSO:=[Ah 4,Ad 5 19]
def zM:LSO:=[Ac 30 0 2,Ab 31 1 30,Aa 32 9,An 33 4 31 32,Ap 34 4 33,Aa 35 6,Ac 36 0 8,Ab 37 1 36,Aq 38 15 35 37,Ac 39 1 8,Ab 40 1 39,AA 41 83 34 38 40,Aa 29 41,
 As 42 29,Aw 43 29,Aa 10 42,Aa 11 43]
def zL:LSO:=[Aa 44 11,AE 45 44 0]
def zK:LSO:=[Aa 46 11,Ah 4,Aa 5 46]
def zJ:LSO:=[Aa 47 6,Ac 48 0 2,Ab 49 1 48,Aa 50 9,An 51 4 49 50,Ac 52 0 51,Ab 53 1 52,Aa 54 10,AA 55 84 47 53 54,Aa 6 55]
def zI:LSO:=[Af 56 14 1,Aa 14 56]
def zH:LSO:=[Aa 57 6,Aa 4 57,Ad 5 0]
def yJ:aG:=⟨58,(aos Ij [] (aos Ii [] (.seq (aos Ih [] (aov 0 (aos Ig [] (.seq (aow 15 0) (.seq (.block 1 (aos If Cv (aos Ie Cy (.seq (aos Ic Cu (aou 24 (.sreg Ib []))) (.seq (aos Ia Cw (aou 28 (.sreg H9 []))) (.seq (.sdreg zM [.pure,(.read 0 0),.pure,(.read 0 0),(.read 0 0),.pure,.pure,(.read 0 0),(.read 0 0),.pure,(.read 0 0),(.read 0 0),.pure,.pure,.pure,.pure] [true,true,false,false,false,false,false,false,false,false,false,false,false,false,false,false,false]) (.seq (aos zL Cu (aou 45 (.sreg zK Cz))) (.sreg zJ CI)))))))) (.sreg zI Cu)))))) (aos zH Cz .ret)))),[(.tmp 4),(.tmp 5)]⟩
attribute [push_cast] Ij Ii Ih Ig If Ie Ic Ib Ia H9 zM zL zK zJ zI zH
theorem Uu:aox 34=aoy yJ:=aoB
def Nk:LSO:=[A4 4 0,Ag 8]
def Nj:LSO:=[Ac 12 0 4,Ab 13 1 12,Aa 14 2,Aq 15 12 13 14,Aa 9 15]
def Ni:LSO:=[Aa 16 9,AD 17 16 0]
def Nh:LSO:=[Ag 8]
def Ng:LSO:=[Ac 19 0 4,Ab 20 1 19,Aa 21 9,An 22 4 20 21,Ac 23 1 22,Ab 24 1 23,Aa 25 3,Aq 26 45 24 25,Aa 18 26,As 27 18,Aw 28 18,Aa 10 27,Aa 11 28]
def Nf:LSO:=[Aa 29 11,Aa 30 29,.grp none 30 true
 [A6 31 30 0 4,A5 32 30 1 31,Ae 33 30 9,B8 34 30 4 32 33,A6 35 30 1 34,A5 36 30 1 35,Ae 37 30 1,Ae 38 30 2,B4 39 30 15 37 38,Ae 40 30 10,
 og 41 30 true (.call 127 [(tm 36),(tm 39),(tm 40)])]
 42 (tm 41),Aa 8 42]
def LB:aG:=⟨43,(aos Nk [] (aos Nj Cx (.seq (aos Ni Cu (aou 17 (.sreg Nh []))) (aos Ng CZ (.seq (.sdreg Nf [.pure,.pure,.pure,(.read 0 0),.pure,(.read 0 0),.pure,(.read 0 0),.pure,.pure,(.read 0 0),.pure] Cw) .ret))))),[(.tmp 8)]⟩
attribute [push_cast] Nk Nj Ni Nh Ng Nf
theorem Wd:aox 112=aoy LB:=aoB
attribute [push_cast] P0 rW yG PZ yH Lz LA yJ LB
variable {L:List Blk}{K:alc}
set_option maxHeartbeats 8000000
set_option maxRecDepth 100000
theorem aiJ(hl:ts.length<=1100000)(hts:∀t∈ts,aR t.1)(hn:aR n)(h1:eF ts n=none->K (.int .i64 (-1)) L)(h2:∀k:Nat,k<ts.length->eF ts n=some (ts.getD k lI)->K (.int .i64 k) L):
  alb 12 [.sl (bU ts) ts.length cap,.str n] L K:=by
 replace h1:=hid h1;replace h2:=hid h2;refine ala WW ?_;refine ah (λm T' L'=>∃k:Nat,m=ts.length-k/\k<=ts.length/\T'=[(8,.int .i64 (k:Int)),(7,.int .i64 ts.length),(0,.sl (bU ts) ts.length cap),(1,.str n)]/\L=L' /\
  ∀j,j<k->¬af (ts.getD j lI).1=af n) (CutS (b:=ale _)) ⟨0,rfl,ali _,rfl,rfl,aoA⟩ ?_
 rintro _ _ L' ⟨k,rfl,hk,rfl,e,hr⟩;subst e;replace hr:=hid hr;by_cases hlt:k<ts.length;have g1:(k:Int)<(ts.length:Int):=aoz;have g2:=ak9 k aoz;have e4:k*4<(bU ts).length:=by rw[rx];omega
 have e3:(bU ts).getD (k*4) .undef=.str (ts.getD k lI).1:=by have h3:=congrArg (λl=>l[0]?) (q9 hlt);simp only[amc (show 0<4 by omega),al5,amE]at h3;rw[alD,h3];rfl
 obtain⟨ty,hty⟩:=ak7 (ts.getD k lI);have hm:aR ty.1:=hts _ (by rw[<- hty];simp[hlt]);rw[hty]at e3;replace hty:=hid hty;by_cases hq:af ty.1=af n;have e:eF ts n=some (ts.getD k lI):=PR (d:=lI) hlt (λj hj=>decide_eq_false (hr.o j hj)) (by rw[hty.o];exact decide_eq_true hq);have h':=hid (h2.o k hlt e);have kk1:=@aoG _ _ _ _ (bQ hm);have kk2:=@aoG _ _ _ _ (bQ hn);refine wk ?_;exact aa h'.o;have kk1:=@aoG _ _ _ _ (bQ hm);have kk2:=@aoG _ _ _ _ (bQ hn);refine wk ?_;refine aoE aoz aoC ⟨k+1,rfl,hlt,rfl,rfl,λj hj=>?_⟩;rcases alA j k with h|h;exact hr.o j h;have:j=k:=aoz;subst this;rw[hty.o];exact hq;have g1:¬(k:Int)<(ts.length:Int):=aoz;have h':=hid (h1.o (aoc.2 λty hty=>by obtain⟨j,hj,e⟩:=aml.1 hty;have:=hr.o j aoz;simpa[hj,e]using this))
 refine wk ?_;exact aa h'.o
theorem PC{syn:Int}{v:List UInt8}{L:List Blk}{K:alc}(h:K (.str (fz syn v)) L):alb 164 [.int .i64 syn,.str v] L K:=by
 unfold fz at h;refine ala Ur ?_;refine sg ?_;rcases hm:cj syn v with _|m
 all_goals rw[hm]at h
 replace h:Hid (K (.str []) L):=hid h;simp only[RO];refine aoH ?_;exact aa h.o;replace h:Hid (K (.str m) L):=hid h;simp only[RO];refine aoH ?_;exact aa h.o
theorem ajO{syn:Int}(hl:l.length<=1100000)(h:K (.bool (inM syn l n)) L):
  alb 127 [.int .i64 syn,.sl (l.map AV.str) l.length cap,.str n] L K:=by
 obtain⟨R,hR⟩:=ak7 (inM syn l n);rw[hR]at h;replace h:=hid h;refine ala WV ?_;refine ah (λm T' L'=>∃k:Nat,m=l.length-k/\k<=l.length/\Hid (inM syn (l.drop k) n=R)/\T'=[(11,.int .i64 (k:Int)),(10,.int .i64 l.length),(9,.sl (l.map AV.str) l.length cap),(0,.int .i64 syn),(2,.str n)]/\L=L') (CutS (b:=ale _)) ⟨0,rfl,ali _,hid (by simpa using hR),rfl,rfl⟩ ?_;rintro _ _ L' ⟨k,rfl,hk,hI,rfl,e⟩;subst e;by_cases hlt:k<l.length;have g1:(k:Int)<(l.length:Int):=aoz;have g2:=ak9 k aoz;obtain⟨v,hv⟩:=ak7 (l.getD k []);have g3:(l.map AV.str).getD k .undef=.str v:=by rw[<- hv];simp[hlt]
 have hdr:l.drop k=v::l.drop (k+1):=by rw[al1 hlt,<- hv];simp[hlt]
 have hI2:=hI.o;rw[hdr,inM,List.any_cons]at hI2;clear hv hdr hI hR;by_cases hq:fz syn v=n;rw[decide_eq_true hq,anv]at hI2;have h':=h.o;rw[<- hI2]at h';replace h':=hid h';clear hI2;have kk1:=@hid _ @PC;refine wk ?_;exact aa h'.o;rw[decide_eq_false hq,amP]at hI2;replace hI2:=hid hI2;have kk1:=@hid _ @PC;refine wk ?_;exact aoE aoz aoC ⟨k+1,rfl,hlt,hI2,rfl,rfl⟩;have hke:k=l.length:=aoz;subst hke;have g1:¬(l.length:Int)<(l.length:Int):=aoz;have h':=h.o;rw[<- hI.o,alY]at h';replace h':=hid h';clear hI hR;refine wk ?_;exact aa h'.o
theorem ajB{syn:Int}{v:List UInt8}(hl:l.length<=1100000)(h:K (G9 (hZ syn v false l)) L):
  alb 128 [.int .i64 syn,.sl (l.map AV.str) l.length cap,.str v] L K:=by
 obtain⟨R,hR⟩:=ak7 (hZ syn v false l);rw[hR]at h;replace h:=hid h;refine ala Us ?_;refine bt (l:=[]) (n:=0) 7 1 rfl (alG 1).symm ?_;refine ah (λm T' L'=>∃(k:Nat) (d:Bool) (u:List (List UInt8)) (C:List AV) (n:Nat),m=l.length-k/\k<=l.length/\n<=k+1/\(d=false->n<=k)/\Hid (C=u.map AV.str/\n=u.length)/\Hid (u++hZ syn v d (l.drop k)=R)/\T'=[(13,.int .i64 (k:Int)),(12,.int .i64 l.length),(11,.sl (l.map AV.str) l.length cap),(8,.bool d),(7,.gsl C n L.length 1),(0,.int .i64 syn),(2,.str v)]/\L'=L++[.spare n 1]) aoD ⟨0,false,[],[],0,rfl,ali _,aoA,aoA,hid ⟨rfl,rfl⟩,hid (by simpa using hR),rfl,rfl⟩ ?_;rintro _ _ _ ⟨k,d,u,C,n,rfl,hk,hul,hul2,hC,hI,rfl,rfl⟩;by_cases hlt:k<l.length
 .have g1:(k:Int)<(l.length:Int):=aoz;have g2:=ak9 k aoz;obtain⟨x,hx⟩:=ak7 (l.getD k []);have g3:(l.map AV.str).getD k .undef=.str x:=(by rw[<- hx];simp[hlt]);have hdr:l.drop k=x::l.drop (k+1):=(by rw[al1 hlt,<- hx];simp[hlt]);have hI2:=hI.o;rw[hdr,hZ]at hI2;clear hx hdr hI hR;have fin:∀(y:List UInt8),(C++[.str y]=(u++[y]).map AV.str/\n+1=(u++[y]).length):=λy=>by obtain⟨rfl,rfl⟩:=hC.o;simp
  replace fin:=hid fin;replace hI2:=hid hI2;cases d with
  | true =>
    have hI3:=hI2.o;rw[if_neg aoA]at hI3;simp only[alL,anv]at hI3;replace hI3:=hid hI3;clear hI2;have kk1:=@hid _ @PC;refine wk ?_;refine aoE aoz aoC ⟨k+1,true,u++[x],C++[.str x],n+1,rfl,hlt,aoz,aoA,hid (fin.o x),hid (by simpa using hI3.o),rfl,rfl⟩
  | false =>
    have hul3:=hul2 rfl
    repeat' first
     |refine bu ?_
     | (first|refine bj aoB ?_|refine aJ aoB ?_|refine aM ?_|refine cN ?_|refine bE (fun _=>?_)|refine aC ?_|refine bo ?_|refine PC ?_|refine bh (PC ⟨rfl,rfl⟩) (PC ⟨rfl,rfl⟩) ?_|refine aF (PC ⟨rfl,rfl⟩) ?_)
       refine sm ?_
     | (first|refine a8 aoB ?_|refine ba ?_|refine aL ?_|refine bm ?_|refine bJ (aB ?_))
       refine sl ?_
     |exact bF
     |first|apply bG|apply be|apply bH|apply bf|apply bI|apply bg
     |refine aP ?_
     |refine aK ?_
     |first|refine aN rfl ?_|refine aO rfl ?_|refine ax rfl ?_ ?_|refine aT rfl (λ_=>?_) (λ_=>?_)|refine aS rfl (λ_=>?_) (λ_=>?_)
     |((first|refine au (λ_=>?_) (λ_=>?_)|refine aA (λ_=>?_) (λ_=>?_))<;>try refine sm ?_)
     |refine And.intro trivial ?_
     |refine And.intro aoz ?_
     |refine aY rfl (λ_=>?_) (λ_=>?_)
     |refine And.intro ?_ ?_
    .rename_i hq;rw[bytesLess_eq,decide_eq_true_eq]at hq;have hI3:=hI2.o;rw[if_pos ⟨rfl,hq⟩,decide_eq_true hq,anN]at hI3;refine aoE aoz aoC ⟨k+1,true,u++[v]++[x],C++[.str v]++[.str x],n+1+1,rfl,hlt,aoz,aoA,hid ?_,hid (by simpa using hI3),rfl,rfl⟩;obtain⟨rfl,rfl⟩:=hC.o;simp
    .rename_i hq;rw[bytesLess_eq,decide_eq_false_iff_not]at hq;have hI3:=hI2.o;rw[if_neg (λe=>hq e.2),decide_eq_false hq]at hI3;refine aoE aoz aoC ⟨k+1,false,u++[x],C++[.str x],n+1,rfl,hlt,aoz,aoz,hid (fin.o x),hid (by simpa using hI3),rfl,rfl⟩
 have hke:k=l.length:=aoz;subst hke;have g1:¬(l.length:Int)<(l.length:Int):=aoz;have hI2:=hI.o;rw[alY,hZ]at hI2;have e0:AV.frzL (R.map AV.str)=R.map AV.str:=eB R;have hfin:∀X:List Blk,Fin L (.sl (R.map AV.str) R.length none) (L++X) K:=λX=>ae (by simp only[AV.refs,iD]) h.o
 replace hfin:=hid hfin;cases d with
 | true =>
   rw[if_pos rfl,alJ]at hI2;subst hI2;refine wk ?_;refine aW ?_;simp only[AV.frz];rw[hC.o.1,e0,hC.o.2];exact hfin.o _
 | false =>
   rw[if_neg aoA]at hI2;subst hI2;have hul3:=hul2 rfl;refine wk ?_;refine aW ?_;simp only[AV.frz];rw[show C++[AV.str v]=(u++[v]).map AV.str by rw[hC.o.1];simp,e0,show n+1=(u++[v]).length by rw[hC.o.2];simp];exact hfin.o _
theorem Vx(syn:Int)(v:List UInt8):∀(l:List (List UInt8)) (d:Bool),(hZ syn v d l).length<=l.length+1
 |[],d=>by rw[hZ];split<;>simp
 | x::t,d=>by
   rw[hZ];by_cases h:d=false/\fz syn v<fz syn x
   .rw[if_pos h,decide_eq_true h.2,anN,PH];simp
   .have:=Vx syn v t (d ||decide (fz syn v<fz syn x));rw[if_neg h];simp;omega
theorem ajv{ty:Typ}{vs:List (List UInt8)}{capV:Option Nat}(hl:l.length+vs.length<=1100000){R:List (List UInt8)×Int}(hR:ff ty.2.1 ty.2.2.1 l vs=R)(h:K (.tup [G9 R.1,.int .i64 R.2]) L):
  alb 83 [.agg (tyC ty),.sl (l.map AV.str) l.length cap,.sl (vs.map AV.str) vs.length capV] L K:=by
 replace h:=hid h;replace hR:=hid hR;simp only[tyC];refine ala Wb ?_;refine ah (λm T' L'=>∃(i:Nat) (u:List (List UInt8)) (cu:Option Nat),m=vs.length-i/\i<=vs.length/\u.length<=l.length+i/\Hid (ff ty.2.1 ty.2.2.1 u (vs.drop i)=R)/\T'=[(14,.int .i64 (i:Int)),(13,.int .i64 vs.length),(12,.sl (vs.map AV.str) vs.length capV),(1,.sl (u.map AV.str) u.length cu),(3,.ptr L.length 0)]/\L'=L++[Blk.cells (tyC ty)]) aoD ⟨0,l,cap,rfl,ali _,ale _,hid (by simpa using hR.o),rfl,rfl⟩ ?_;rintro _ _ _ ⟨i,u,cu,rfl,hi,hul,hI,rfl,rfl⟩;simp only[tyC];by_cases hlt:i<vs.length
 .have g1:(i:Int)<(vs.length:Int):=aoz;have g2:=ak9 i aoz;obtain⟨v,hv⟩:=ak7 (vs.getD i []);have g3:(vs.map AV.str).getD i .undef=.str v:=(by rw[<- hv];simp[hlt]);have hdr:vs.drop i=v::vs.drop (i+1):=(by rw[al1 hlt,<- hv];simp[hlt]);have hI2:=hI.o;rw[hdr]at hI2;have hu1:u.length<=1100000:=aoz;clear hv hdr hI hR;refine wk ?_;refine sg ?_;rcases hn:cj ty.2.1 v with _|n;rw[aep hn]at hI2;have h':=h.o;rw[<- hI2]at h';replace h':=hid h';simp only[RO];clear hI2 hn;refine aoH ?_;exact aW (ae rfl h'.o);rw[aeo hn]at hI2;simp only[RO];rcases hb:inM ty.2.1 u n with _|_
  rotate_left
  rw[if_pos hb]at hI2;have h':=h.o;rw[<- hI2]at h';replace h':=hid h';clear hI2 hn;refine sk ?_;have kk1:=@aoG _ _ _ _ (ajO (syn:=ty.2.1) (n:=n) (cap:=cu) hu1);refine wk ?_;exact aW (ae rfl h'.o);rw[if_neg (by rw[hb];simp)]at hI2;obtain⟨u',hu'⟩:=ak7 (hZ ty.2.1 v false u);have hl':=Vx ty.2.1 v u false;rw[hu']at hI2 hl';replace hI2:=hid hI2;clear hn;refine sk ?_;have kk1:=@aoG _ _ _ _ (ajO (syn:=ty.2.1) (n:=n) (cap:=cu) hu1);have kk2:=@aoG _ _ _ _ (ajB (syn:=ty.2.1) (v:=v) (cap:=cu) hu1);refine wk ?_;exact aoE aoz aoC ⟨i+1,u',none,rfl,hlt,aoz,hI2,rfl,rfl⟩
 have hke:i=vs.length:=aoz;subst hke;have g1:¬(vs.length:Int)<(vs.length:Int):=aoz;have hI2:=hI.o;rw[alY,ff]at hI2;by_cases hs:ty.2.2.1=true/\1<u.length;rw[if_pos hs]at hI2;have h':=h.o;rw[<- hI2]at h';replace h':=hid h';obtain⟨hs1,hs2⟩:=hs;have g3:(1:Int)<(u.length:Int):=aoz;clear hI hI2 hR hs2;refine wk ?_;exact aW (ae rfl h'.o);rw[if_neg hs]at hI2;have g3:(ty.2.2.1&&decide ((1:Int)<(u.length:Int)))=false:=by rcases hsg:ty.2.2.1 with _|_;rfl;simp only[al0,decide_eq_false_iff_not];intro e;exact hs ⟨hsg,aoz⟩
 have h':=h.o;rw[<- hI2]at h';replace h':=hid h';clear hI hI2 hR hs;refine wk ?_;refine aW (ae ?_ ?_);simp only[AV.frz,AV.frzL,eB,AV.refs,AV.refsL,iD];rfl;simp only[AV.frz,AV.frzL,eB];exact h'.o
theorem L7{l:List Atr}(hl:l.length<=1100000)(hz:∀a∈l,aR a.1/\a.2.length<=1100000)(hn:aR n)(h:K (G9 (cx l n)) L):
  alb 15 [.sl (bp l) l.length cap,.str n] L K:=by
 obtain⟨R,hR⟩:=ak7 (cx l n);rw[hR]at h;replace h:=hid h;replace hR:=hid hR;refine ala Sb ?_;refine ah (λm T' L'=>∃(k:Nat) (X:List Blk),m=l.length-k/\k<=l.length/\Hid (cx (l.drop k) n=R)/\T'=[(9,.int .i64 (k:Int)),(8,.int .i64 l.length),(7,.sl (bp l) l.length cap),(1,.str n)]/\L'=L++X) aoD ⟨0,[],rfl,ali _,hid (by simpa using hR.o),rfl,aoA⟩ ?_;rintro _ _ _ ⟨k,X,rfl,hk,hI,rfl,rfl⟩;by_cases hlt:k<l.length;have g1:(k:Int)<(l.length:Int):=aoz;have g2:=ak9 k aoz;have e3:=rh hlt;have e4:k*2+2<=(bp l).length:=by rw[p6];omega
 obtain⟨⟨nm,vs⟩,ha⟩:∃a,l.getD k ([],[])=a:=⟨_,rfl⟩;have hdr:l.drop k=(nm,vs)::l.drop (k+1):=by rw[al1 hlt,<- ha];simp[hlt]
 obtain⟨hnm,hvs⟩:=hz (nm,vs) (by rw[<- ha];simp[hlt]);simp only at hnm hvs;rw[ha]at e3;simp only[atA]at e3;have hI2:=hI.o;rw[hdr,cx]at hI2;simp only at hI2;clear hI hdr ha hz hR;by_cases hq:af nm=af n;rw[if_pos hq]at hI2;subst hI2;have e0:AV.frzL (vs.map AV.str)=vs.map AV.str:=eB vs;have kk1:=@aoG _ _ _ _ (bQ hnm);have kk2:=@aoG _ _ _ _ (bQ hn);refine wk ?_;refine aW ?_;simp only[AV.frz,e0];exact ae (by simp only[AV.refs,iD]) h.o;rw[if_neg hq]at hI2;replace hI2:=hid hI2;have kk1:=@aoG _ _ _ _ (bQ hnm);have kk2:=@aoG _ _ _ _ (bQ hn);refine wk ?_;exact aoE aoz aoC ⟨k+1,_,rfl,hlt,hI2,rfl,rfl⟩;have hke:k=l.length:=aoz;subst hke;have g1:¬(l.length:Int)<(l.length:Int):=aoz;have hI2:=hI.o;rw[alY,cx]at hI2;subst hI2;refine wk ?_;exact aW (ae rfl h.o)
theorem ajt{l:List Atr}{capV:Option Nat}{vs:List (List UInt8)}(hl:l.length<=1100000)(hz:∀a∈l,aR a.1/\a.2.length<=1100000)(hn:aR n)(h:K (.sl (bp (rA n vs vs.isEmpty l)) (rA n vs vs.isEmpty l).length none) L):
  alb 84 [.sl (bp l) l.length cap,.str n,.sl (vs.map AV.str) vs.length capV] L K:=by
 obtain⟨R,hR⟩:=ak7 (rA n vs vs.isEmpty l);rw[hR]at h;replace h:=hid h;obtain⟨d0,hd0⟩:=ak7 (vs.isEmpty);have hd1:decide ((vs.length:Int)=0)=d0:=by rw[<- hd0];cases vs<;>simp;omega
 rw[hd0]at hR;replace hR:=hid hR;have ev:AV.frzL (vs.map AV.str)=vs.map AV.str:=eB vs;replace hd0:=hid hd0;refine ala Wc ?_;refine bt (l:=[]) (n:=0) 7 2 rfl (alG 2).symm ?_;refine ah (λm T' L'=>∃(k:Nat) (d:Bool) (u:List Atr) (C:List AV) (z:Nat) (X:List Blk),m=l.length-k/\k<=l.length/\z<=k+1/\(d=false->z<=k)/\Hid (C=bp u/\z=u.length)/\Hid (u++rA n vs d (l.drop k)=R)/\T'=[(16,.int .i64 (k:Int)),(15,.int .i64 l.length),(14,.sl (bp l) l.length cap),(8,.bool d),(7,.gsl C z L.length 2),(1,.str n),(2,.sl (vs.map AV.str) vs.length capV)]/\L'=L++(.spare z 2::X)) aoD ⟨0,d0,[],[],0,[],rfl,ali _,aoA,aoA,hid ⟨rfl,rfl⟩,hid (by simpa using hR.o),rfl,rfl⟩ ?_;rintro _ _ _ ⟨k,d,u,C,z,X,rfl,hk,hul,hul2,hC,hI,rfl,rfl⟩;by_cases hlt:k<l.length;have g1:(k:Int)<(l.length:Int):=aoz;have g2:=ak9 k aoz;have e3:=rh hlt;have e4:k*2+2<=(bp l).length:=by rw[p6];omega
 obtain⟨⟨nm,ws⟩,ha⟩:∃a,l.getD k ([],[])=a:=⟨_,rfl⟩;have hdr:l.drop k=(nm,ws)::l.drop (k+1):=by rw[al1 hlt,<- ha];simp[hlt]
 obtain⟨hnm,hws⟩:=hz (nm,ws) (by rw[<- ha];simp[hlt]);simp only at hnm hws;rw[ha]at e3;simp only[atA]at e3;have ew:AV.frzL (ws.map AV.str)=ws.map AV.str:=eB ws;have hI2:=hI.o;rw[hdr,rA]at hI2;simp only at hI2;have fin:∀(C':List AV) (u':List Atr) (z':Nat) (a:Atr),C'=bp u'/\z'=u'.length->C'++[.str a.1,.sl (a.2.map AV.str) a.2.length none]=bp (u'++[a])/\z'+1=(u'++[a]).length:=λC' u' z' a e=>by obtain⟨rfl,rfl⟩:=e;simp[Sh,bp]
 replace fin:=hid fin;replace hd1:=hid hd1;clear hI hdr ha hz hR;by_cases hx:af nm<af n;have hq:af n≠af nm:=λe=>by rw[e]at hx;exact amw _ hx
 have hb:Op.bytesLess (af n) (af nm)=false:=by rw[bytesLess_eq,decide_eq_false_iff_not];exact λe=>amw _ (anl hx e)
 cases d with
 | true =>
   have hI3:=hI2;rw[if_neg (λe=>by cases e.1),if_pos hq]at hI3;rw[show(true || !decide (af nm<af n))=true by simp[hx]]at hI3;replace hI3:=hid hI3;clear hI2;have kk1:=@aoG _ _ _ _ (bQ hn);have kk2:=@aoG _ _ _ _ (bQ hnm);refine wk ?_;exact aoE aoz aoC ⟨k+1,true,u++[(nm,ws)],C++[.str nm,.sl (ws.map AV.str) ws.length none],z+1,_,rfl,hlt,aoz,aoA,hid (fin.o _ _ _ (nm,ws) hC.o),hid (by simpa using hI3.o),rfl,rfl⟩
 | false =>
   have hul3:=hul2 rfl;have hI3:=hI2;rw[if_neg (λe=>e.2 hx),if_pos hq]at hI3;rw[show(false || !decide (af nm<af n))=false by simp[hx]]at hI3;replace hI3:=hid hI3;clear hI2;have kk1:=@aoG _ _ _ _ (bQ hn);have kk2:=@aoG _ _ _ _ (bQ hnm);refine wk ?_;exact aoE aoz aoC ⟨k+1,false,u++[(nm,ws)],C++[.str nm,.sl (ws.map AV.str) ws.length none],z+1,_,rfl,hlt,aoz,by simp;omega,hid (fin.o _ _ _ (nm,ws) hC.o),hid (by simpa using hI3.o),rfl,rfl⟩
 by_cases hq:af n=af nm;have hb:Op.bytesLess (af n) (af nm)=false:=by rw[bytesLess_eq,decide_eq_false_iff_not,hq];exact amw _
 cases d with
 | true =>
   have hI3:=hI2;rw[if_neg (λe=>by cases e.1),if_neg (λe=>e hq)]at hI3;rw[show(true || !decide (af nm<af n))=true by simp[hx]]at hI3;replace hI3:=hid hI3;clear hI2;have kk1:=@aoG _ _ _ _ (bQ hn);have kk2:=@aoG _ _ _ _ (bQ hnm);refine wk ?_;exact aoE aoz aoC ⟨k+1,true,u,C,z,_,rfl,hlt,aoz,aoA,hid hC.o,hid (by simpa using hI3.o),rfl,rfl⟩
 | false =>
   have hul3:=hul2 rfl;have hI3:=hI2;rw[if_pos ⟨rfl,hx⟩,if_neg (λe=>e hq)]at hI3;rw[show(false || !decide (af nm<af n))=true by simp[hx]]at hI3;replace hI3:=hid hI3;clear hI2;have kk1:=@aoG _ _ _ _ (bQ hn);have kk2:=@aoG _ _ _ _ (bQ hnm);refine wk ?_;exact aoE aoz aoC ⟨k+1,true,u++[(n,vs)],C++[.str n,.sl (vs.map AV.str) vs.length none],z+1,_,rfl,hlt,aoz,aoA,hid (fin.o _ _ _ (n,vs) hC.o),hid (by simpa using hI3.o),rfl,rfl⟩
 have hb:Op.bytesLess (af n) (af nm)=true:=by rw[bytesLess_eq,decide_eq_true_eq];exact(anz.1 (amG.1 hx)).resolve_right hq
 cases d with
 | true =>
   have hI3:=hI2;rw[if_neg (λe=>by cases e.1),if_pos hq]at hI3;rw[show(true || !decide (af nm<af n))=true by simp[hx]]at hI3;replace hI3:=hid hI3;clear hI2;have kk1:=@aoG _ _ _ _ (bQ hn);have kk2:=@aoG _ _ _ _ (bQ hnm);refine wk ?_;exact aoE aoz aoC ⟨k+1,true,u++[(nm,ws)],C++[.str nm,.sl (ws.map AV.str) ws.length none],z+1,_,rfl,hlt,aoz,aoA,hid (fin.o _ _ _ (nm,ws) hC.o),hid (by simpa using hI3.o),rfl,rfl⟩
 | false =>
   have hul3:=hul2 rfl;have hI3:=hI2;rw[if_pos ⟨rfl,hx⟩,if_pos hq]at hI3;rw[show(false || !decide (af nm<af n))=true by simp[hx]]at hI3;replace hI3:=hid hI3;clear hI2;have kk1:=@aoG _ _ _ _ (bQ hn);have kk2:=@aoG _ _ _ _ (bQ hnm);refine wk ?_;exact aoE aoz aoC ⟨k+1,true,u++[(n,vs)]++[(nm,ws)],C++[.str n,.sl (vs.map AV.str) vs.length none]++[.str nm,.sl (ws.map AV.str) ws.length none],z+1+1,_,rfl,hlt,aoz,aoA,hid (fin.o _ _ _ (nm,ws) (fin.o _ _ _ (n,vs) hC.o)),hid (by simpa using hI3.o),rfl,rfl⟩
 have hke:k=l.length:=aoz;subst hke;have g1:¬(l.length:Int)<(l.length:Int):=aoz;have hI2:=hI.o;rw[alY,rA]at hI2;have e0:=lW R;have hfin:∀X:List Blk,Fin L (.sl (bp R) R.length none) (L++X) K:=λX=>ae (by simp only[AV.refs,Ml]) h.o
 replace hfin:=hid hfin;replace hd1:=hid hd1;clear hI hR;cases d with
 | true =>
   rw[if_pos rfl,alJ]at hI2;subst hI2;refine wk ?_;refine aW ?_;simp only[AV.frz];rw[hC.o.1,e0,hC.o.2];exact hfin.o _
 | false =>
   rw[if_neg aoA]at hI2;subst hI2;have hul3:=hul2 rfl;refine wk ?_;refine aW ?_;simp only[AV.frz];rw[show C++[AV.str n,.sl (vs.map AV.str) vs.length none]=bp (u++[(n,vs)])by rw[hC.o.1,Sh];simp[bp],e0,show z+1=(u++[(n,vs)]).length by rw[hC.o.2];simp];exact hfin.o _
theorem ahR{capT:Option Nat}{c2:List AV}{n2:Nat}{cap2:Option Nat}{list:List Atr}(hts:aj8 ts)(hl:list.length<=100)(hv:∀a∈list,aR a.1/\a.2.length<=9000){R:List Atr×Int}(hR:yr ts [] list=R)(h:K (.tup [.sl (bp R.1) R.1.length none,.int .i64 R.2]) L):
  alb 34 [.agg [.sl (bU ts) ts.length capT,.sl c2 n2 cap2],.sl (bp list) list.length cap] L K:=by
 replace h:=hid h;replace hR:=hid hR;refine ala Uu ?_;obtain⟨sC,hsC⟩:=ak7 (AV.sl c2 n2 cap2);rw[hsC];refine ah (λm T' L'=>∃(i:Nat) (out:List Atr) (co:Option Nat) (X:List Blk),m=list.length-i/\i<=list.length/\out.length<=i/\Hid (yr ts out (list.drop i)=R)/\Hid (∀a∈out,aR a.1/\a.2.length<=9000*i)/\T'=[(14,.int .i64 (i:Int)),(13,.int .i64 list.length),(12,.sl (bp list) list.length cap),(6,.sl (bp out) out.length co),(2,.ptr L.length 0)]/\L'=L++(.cells [.sl (bU ts) ts.length capT,sC]::X)) aoD ⟨0,[],some 0,[],rfl,ali _,ale _,hid (by simpa using hR.o),hid aoA,rfl,aoA⟩ ?_;rintro _ _ _ ⟨i,out,co,X,rfl,hi,hol,hI,ho,rfl,rfl⟩;by_cases hlt:i<list.length;have g1:(i:Int)<(list.length:Int):=aoz;have g2:=ak9 i aoz;have e3:=rh hlt;have e4:i*2+2<=(bp list).length:=by rw[p6];omega
 obtain⟨⟨nm,vs⟩,ha⟩:∃a,list.getD i ([],[])=a:=⟨_,rfl⟩;have hdr:list.drop i=(nm,vs)::list.drop (i+1):=by rw[al1 hlt,<- ha];simp[hlt]
 obtain⟨hnm,hvs⟩:=hv (nm,vs) (by rw[<- ha];simp[hlt]);simp only at hnm hvs;rw[ha]at e3;simp only[atA]at e3;have hI2:=hI.o;rw[hdr,yr]at hI2;simp only at hI2;replace hI2:=hid hI2;clear hI hdr ha hv hR;refine wk ?_;refine aiJ hts.1 hts.2.1 hnm (λhty=>?_) (λt ht hty=>?_);have hI3:=hI2.o;rw[hty]at hI3;simp only at hI3;have h':=h.o;rw[<- hI3]at h';replace h':=hid h';clear hI2 hI3 hty;refine aoH ?_;exact aW (ae rfl h'.o);have hI3:=hI2.o;have e5:=q9 ht;have e6:t*4+4<=(bU ts).length:=by rw[rx];omega
 have e8:(bU ts).getD (t*4) .undef=.str (ts.getD t lI).1:=by have h3:=congrArg (λl=>l[0]?) (q9 ht);simp only[amc (show 0<4 by omega),al5,amE]at h3;rw[alD,h3];rfl
 have g3:¬(t:Int)<0:=aoz;have g4:(t:Int)<(ts.length:Int):=aoz;have g6:t*4<(bU ts).length:=aoz;have htn:=Xb hty;obtain⟨ty,hte⟩:=ak7 (ts.getD t lI);rw[hte]at hty e5 e8 htn;rw[hty]at hI3;simp only at hI3;simp only[tyC]at e5;by_cases hvn:vs=[];rw[if_pos hvn]at hI3;have h':=h.o;rw[<- hI3]at h';replace h':=hid h';subst hvn;clear hI2 hI3 hty htn hte;refine aoH ?_;exact aW (ae rfl h'.o);rw[if_neg hvn]at hI3;have g5:¬(vs.length:Int)=0:=by rcases vs with _|⟨x,t⟩;exact absurd rfl hvn;simp;omega
 obtain⟨V,hV⟩:=ak7 (cx out nm);have hVl:V.length<=9000*i:=by rw[<- hV];exact Yg λa ha=>(ho.o a ha).2
 rw[hV]at hI3;obtain⟨A,hA⟩:=ak7 (ff ty.2.1 ty.2.2.1 V vs);rw[hA]at hI3;have kk1:Hid (Ctr Tryz.prog 15 [.sl (bp out) out.length co,.str nm] (.sl (V.map AV.str) V.length none)):=hid λq=>L7 aoz (λa ha=>⟨(ho.o a ha).1,by have:=(ho.o a ha).2;omega⟩) hnm (by rw[hV];exact q)
 have kk2:Hid (Ctr Tryz.prog 83 [.agg [.str ty.1,.int .i64 ty.2.1,.bool ty.2.2.1,.bool ty.2.2.2],.sl (V.map AV.str) V.length none,.sl (vs.map AV.str) vs.length none] (.tup [.sl (A.1.map AV.str) A.1.length none,.int .i64 A.2])):=hid λq=>ajv (ty:=ty) aoz hA q
 have kk3:Hid (Ctr Tryz.prog 84 [.sl (bp out) out.length co,.str ty.1,.sl (A.1.map AV.str) A.1.length none] (.sl (bp (rA ty.1 A.1 A.1.isEmpty out)) (rA ty.1 A.1 A.1.isEmpty out).length none)):=hid λq=>ajt aoz (λa ha=>⟨(ho.o a ha).1,by have:=(ho.o a ha).2;omega⟩) (hts.2.1 ty htn.1) q
 obtain⟨A1,A2⟩:=A;simp only at kk2 kk3 hI3;obtain⟨out',hout'⟩:=ak7 (rA ty.1 A1 A1.isEmpty out);rw[hout']at kk3 hI3;clear hI2 hvn hty;by_cases hc0:A2=0;subst hc0;rw[if_neg aoA]at hI3;have hAl:=Wy (by rw[hA]:(ff ty.2.1 ty.2.2.1 V vs).2=0);rw[hA]at hAl;simp only at hAl;have hol':out'.length<=i+1:=by have:=@Yj ty.1 A1 A1.isEmpty out;rw[hout']at this;split at this<;>omega
 have ho':∀a∈out',aR a.1/\a.2.length<=9000*(i+1):=λa ha=>by rw[<- hout']at ha;rcases U5 ha with e|e;rw[e];exact⟨hts.2.1 ty htn.1,by simp only;omega⟩;have:=ho.o a e;exact⟨this.1,aoz⟩
 replace hI3:=hid hI3;replace ho':=hid ho';clear hA hV hout' hAl htn hte;refine aoH ?_;exact aoE aoz aoC ⟨i+1,out',none,_,rfl,hlt,hol',hI3,ho',rfl,rfl⟩;rw[if_pos hc0]at hI3;have h':=h.o;rw[<- hI3]at h';replace h':=hid h';clear hA hV hout' htn hI3 hte;refine aoH ?_;exact aW (ae rfl h'.o);have hke:i=list.length:=aoz;subst hke;have g1:¬(list.length:Int)<(list.length:Int):=aoz;have hI2:=hI.o;rw[alY,yr]at hI2;have h':=h.o;rw[<- hI2]at h';replace h':=hid h';clear hI hI2 hR hv;have e0:=lW out;refine wk ?_;refine aW ?_;simp only[AV.frz,AV.frzL,e0];exact ae (by simp only[AV.refs,AV.refsL,Ml];rfl) h'.o
theorem ahW{capT:Option Nat}{c2:List AV}{n2:Nat}{cap2:Option Nat}{l:List Atr}{v:List UInt8}(hts:aj8 ts)(hl:l.length<=1100000)(hz:∀a∈l,aR a.1/\a.2.length<=1100000)(hn:aR n)(h:K (.bool (VK ts l n v)) L):
  alb 112 [.agg [.sl (bU ts) ts.length capT,.sl c2 n2 cap2],.sl (bp l) l.length cap,.str n,.str v] L K:=by
 unfold VK at h;refine ala Wd ?_;refine aiJ hts.1 hts.2.1 hn (λhty=>?_) (λt ht hty=>?_);rw[hty]at h;replace h:=hid h;clear hty;refine aoH ?_;exact ae rfl h.o;rw[hty]at h;simp only at h;have e6:t*4+1<(bU ts).length:=by rw[rx];omega
 have e8:(bU ts).getD (t*4+1) .undef=.int .i64 (ts.getD t lI).2.1:=by have h3:=congrArg (λl=>l[1]?) (q9 ht);simp only[amc (show 1<4 by omega),al5]at h3;rw[alD,h3];rfl
 have g3:¬(t:Int)<0:=aoz;have g4:(t:Int)<(ts.length:Int):=aoz;obtain⟨ty,hte⟩:=ak7 (ts.getD t lI);rw[hte]at h e8;clear hty hte;refine aoH ?_;refine sg ?_;rcases hno:cj ty.2.1 v with _|m;rw[hno]at h;replace h:=hid h;simp only[RO];clear hno;refine aoH ?_;exact ae rfl h.o;rw[hno]at h;simp only at h;obtain⟨V,hV⟩:=ak7 (cx l n);have hVl:V.length<=1100000:=by rw[<- hV];exact Yg λa ha=>(hz a ha).2
 rw[hV]at h;replace h:=hid h;have kk1:Hid (Ctr Tryz.prog 15 [.sl (bp l) l.length cap,.str n] (.sl (V.map AV.str) V.length none)):=hid λq=>L7 hl hz hn (by rw[hV];exact q)
 have kk2:Hid (Ctr Tryz.prog 127 [.int .i64 ty.2.1,.sl (V.map AV.str) V.length none,.str m] (.bool (inM ty.2.1 V m))):=hid λq=>ajO hVl q
 simp only[RO];clear hno hV;refine aoH ?_;exact ae rfl h.o
theorem afL{ts:List Typ}{B:Nat}:∀{l out:List Atr}{i:Nat},out.length<=i->(∀a∈out,a.2.length<=B*i)->(∀a∈l,a.2.length<=B)->(yr ts out l).1.length<=i+l.length/\∀a∈(yr ts out l).1,a.2.length<=B*(i+l.length)
 |[],out,i,h1,h2,_=>by rw[yr];exact⟨h1,h2⟩
 | x::t,out,i,h1,h2,h3=>by
   have nil:([]:List Atr).length<=i+(x::t).length/\∀a∈([]:List Atr),a.2.length<=B*(i+(x::t).length):=⟨aoA,λa ha=>by cases ha⟩;rw[yr];rcases hty:eF ts x.1 with _|ty
   .exact nil
   .simp only;split
    .exact nil
    .split
     .exact nil
     .rename_i hd;simp only[ne_eq,anB]at hd;have hl:=Wy hd;have hv:=Yg (l:=out) (n:=x.1) h2;have hx:=h3 x aoA;have hB:=Nat.mul_add_one B i;have:=@afL ts B t (rA ty.1 (ff ty.2.1 ty.2.2.1 (cx out x.1) x.2).1 (ff ty.2.1 ty.2.2.1 (cx out x.1) x.2).1.isEmpty out) (i+1) (by
       have:=@Yj ty.1 (ff ty.2.1 ty.2.2.1 (cx out x.1) x.2).1 (ff ty.2.1 ty.2.2.1 (cx out x.1) x.2).1.isEmpty out;split at this<;>omega) (λa ha=>by
       rcases U5 ha with e|e
       .rw[e];simp only;omega
       .have:=h2 a e;omega) (λa ha=>h3 a (by simp[ha]))
      rw[alp,show i+(t.length+1)=i+1+t.length by omega];exact this
abbrev Cls:=List UInt8×List UInt8×Int×List (List UInt8)×List (List UInt8)
abbrev afE:Cls:=([],[],0,[],[])
def aki(cs:List Cls)(j:Nat):Prop:=eV (cs.getD j afE).1=true/\(∀c∈cs.take j,af c.1≠af (cs.getD j afE).1)/\((cs.getD j afE).2.1≠[]->∃w,w<j/\af (cs.getD w afE).1=af (cs.getD j afE).2.1)
def akj(cs:List Cls):Prop:=∀j,j<cs.length->aki cs j
theorem agK{xs:List (List UInt8)}(hn:xs.length<=2000000)(h:K (.sl (xs.map AV.str) xs.length none) L):
  alb 51 [.sl (xs.map AV.str) xs.length cap] L K:=by
 replace h:=hid h;by_cases h0:xs=[]
 .subst h0;refine ac cr (by simp[aH]) ?_;simp only[aH,am]
  repeat' first
   |refine bu ?_
   | (first|refine bj aoB ?_|refine aJ aoB ?_|refine aM ?_|refine cN ?_|refine bE (fun _=>?_)|refine aC ?_|refine bo ?_)
     refine sm ?_
   | (first|refine a8 aoB ?_|refine ba ?_|refine aL ?_|refine bm ?_|refine bJ (aB ?_))
     refine sl ?_
   |exact bF
   |first|apply bG|apply be|apply bH|apply bf|apply bI|apply bg
   |refine aP ?_
   |refine aK ?_
   |first|refine aN rfl ?_|refine aO rfl ?_|refine ax rfl ?_ ?_|refine aT rfl (λ_=>?_) (λ_=>?_)|refine aS rfl (λ_=>?_) (λ_=>?_)
   |((first|refine au (λ_=>?_) (λ_=>?_)|refine aA (λ_=>?_) (λ_=>?_))<;>try refine sm ?_)
   |refine And.intro trivial ?_
   |refine And.intro aoz ?_
   |refine aY rfl (λ_=>?_) (λ_=>?_)
   |refine And.intro ?_ ?_
  all_goals
   refine aW ?_;rw[show(AV.sl [] 0 (some 0)).frz=.sl (([]:List (List UInt8)).map AV.str) ([]:List (List UInt8)).length none from rfl];exact aa h.o
 have h1:¬xs.length=0:=λc=>h0 (alS.1 c)
 have h2:(xs.map AV.str).all AV.one=true:=by rw[aln];intro a ha;obtain⟨r,_,rfl⟩:=alg.1 ha;rfl
 refine ala cr ?_;refine LQ (i:=L.length) (l:=xs.map AV.str) aoA ?_;rw[show(AV.lsl L.length 0 xs.length none 1).snap L.length (xs.map AV.str)=.sl (xs.map AV.str) xs.length none from by simp[AV.snap,amb],show(L++[Blk.cells (xs.map AV.str)]).set L.length .dead=L++[.dead]by simp];exact ae (by simp only[AV.refs];exact iD _ _) h.o
structure ak5(cs:List Cls):Prop where
 d:akj cs
 l:cs.length<=40
 r:∀c∈cs,aR c.1/\aR c.2.1/\c.2.2.2.1.length<=2000000/\c.2.2.2.2.length<=2000000/\(∀v∈c.2.2.2.1,aR v)/\∀v∈c.2.2.2.2,aR v
theorem ad6(a b:List (List UInt8×Int))(l:List Atr):d9 (a++b) l=d9 a l++d9 b l:=by unfold d9;rw[anF]
theorem aeK(a b:TMp):ed (a++b)=ed a++ed b:=by unfold ed;rw[alM]
theorem ad5(f:List UInt8)(s:Int)(l:List Atr):d9 [(f,s)] l=(cx l f).flatMap (x9 f s):=by unfold d9;simp
theorem XV{t:List (List UInt8×Int)}{l:List Atr}:k∈d9 t l↔∃p∈t,k∈(cx l p.1).flatMap (x9 p.1 p.2):=by unfold d9;rw[List.mem_flatMap]
theorem abX{B:Nat}(n:List UInt8):∀{l:List Atr},(∀x∈l,x.2.length<=B)->(cx l n).length<=B
 |[],_=>by simp[cx]
 | a::l,h=>by
   rw[cx];split
   .exact h a aoA
   .exact abX n λx hx=>h x (by simp[hx])
theorem agz{f:FuncId}{caps:List AV}{tm:TMp}{J:List aU->(Nat->Prop)->List Blk->Prop}(hd:DoK Tryz.prog f caps it im ie ip ii tm J){a:List Atr}(hal:a.length<=1100000)(har:lX dW a)(haz:∀x∈a,aR x.1/\x.2.length<=1100000)(hm:cW tm tm.length)(hf:∀e∈tm,aR e.1){B0:Nat->Prop}(h0:J [] B0 L)(h:∀L',EaI J B0 L [] (λk=>k∈d9 (ed tm) a) L'->K (.tup []) L'):
  alb 53 [.ptr it 0,.sl (bp a) a.length cap,.func f caps] L K:=by
 have hE0:=hid ((EaI.start h0).app hd (.miter (some im) tm.length [] tm.length));obtain⟨st,ty⟩:=(EaI.start h0).st hd;replace h:=hid h;replace hm:=hid hm;replace hf:=hid hf;replace hd:=hid hd;have hvl:Hid (∀n,(cx a n).length<=1100000):=hid (λn=>abX n λx hx=>(haz x hx).2);have kG:Hid (∀{n:List UInt8},aR n->∀{L:List Blk}{K:alc},K (G9 (cx a n)) L->alb 52 [.sl (bp a) a.length cap,.str n] L K):=@hid _ (λ{n} hn {L K} q=>agy hal har haz hn q);clear hal har haz h0;refine ala G0 ?_;refine ah (λn T' L'=>∃(seen:List Nat) (ps:TMp),n=(tm.filter λr => !seen.contains r.2.2).length/\Hid (yh tm ps seen)/\Hid (EaI J B0 L [(L.length,.miter (some im) tm.length seen tm.length)] (λk=>k∈d9 (ed ps) a) L')/\T'=[(18,.ptr L.length 0),(0,.ptr it 0),(1,.sl (bp a) a.length cap),(2,.func f caps)]) aoD ⟨[],[],rfl,hid yh.nil,hid (hE0.o.iff λk=>by simp[d9,ed]),rfl⟩ ?_;clear hE0 st ty;rintro _ _ L' ⟨seen,ps,rfl,hcm,hE,rfl⟩;have hat:=hE.o.at (i:=L.length) (alB.2 rfl);obtain⟨hst,hty⟩:=hE.o.st hd.o;have hnl:(L++[Blk.miter (some im) tm.length [] tm.length]).length<=L'.length:=by have:=(ald.1 hat).1;simp;omega
 refine bu ?_;refine UY (i:=L.length) (j:=im) (es:=a7 AV.str tyV tm) aoB rfl hat hty (λe he=>?_) (ale _) (λhall=>?_) (λe he hs=>?_);obtain⟨p,hp,rfl⟩:=alg.1 he;exact hm.o.lt p hp;have hall2:=hcm.o.all hm.o λx hx=>hall (GU AV.str tyV x) (alg.2 ⟨x,hx,rfl⟩)
 have hfin:=hid (h.o L' ((hE.o.iff λk=>by rw[XV,XV];unfold ed;simp only[alg];constructor;rintro⟨q,⟨e,h1,h2⟩,h3⟩;exact⟨q,⟨e,(hall2 e).1 h1,h2⟩,h3⟩;rintro⟨q,⟨e,h1,h2⟩,h3⟩;exact⟨q,⟨e,(hall2 e).2 h1,h2⟩,h3⟩).sub (F':=[]) aoA))
 clear hall hall2 hE hcm h kG hd hm hf;refine aoH ?_;exact d6 rfl trivial (aa hfin.o);obtain⟨p,hp,rfl⟩:=alg.1 he;clear he;have hs':seen.contains p.2.2=false:=hs;have hlt:=hid (ajk hp hs');have hcm':=hid (hcm.o.next hp);have hmat:=afK (ka:=AV.str) (va:=tyV) (ck:=tm.length) (seen:=seen) hm.o.born hp;have hfr:=hf.o p hp;have hE2:=hid (hE.o.turn hd.o (.miter (some im) tm.length (seen++[p.2.2]) tm.length) aoA);obtain⟨fn,⟨t1,t2,t3,t4⟩,bn⟩:=p;simp only[GU]at *;clear hs hs' hcm hE hat hst hty hp;obtain⟨L2,hL2⟩:=ak7 (L'.set L.length (Blk.miter (some im) tm.length (seen++[bn]) tm.length));have hl2:L'.length=L2.length:=by rw[<- hL2];simp
 rw[hL2]at hE2⊢;clear hL2;have hat:=hE2.o.at (i:=L.length) (alB.2 rfl);obtain⟨hst,hty⟩:=hE2.o.st hd.o;have kk1:Hid (Ctr Tryz.prog 52 [.sl (bp a) a.length cap,.str fn] (G9 (cx a fn))):=@hid _ (λ{L K} q=>kG.o hfr q);obtain⟨vs,hvs⟩:=ak7 (cx a fn);rw[hvs]at kk1;replace hvs:=hid hvs;have hE3:=hid (hE2.o.app hd.o (.cells [.str t1,.int .i64 t2,.bool t3,.bool t4]));have hvn:=hid (show vs.length<=1100000 by rw[<- hvs.o];exact hvl.o fn);clear hE2 hfr;refine aoH ?_;refine ah (λm T' L3=>∃i:Nat,m=vs.length-i/\i<=vs.length/\Hid (EaI J B0 L [(L2.length,.cells [.str t1,.int .i64 t2,.bool t3,.bool t4]),(L.length,.miter (some im) tm.length (seen++[bn]) tm.length)] (λk=>k∈d9 (ed ps) a\/k∈(vs.take i).flatMap (x9 fn t2)) L3)/\T'=[(28,.int .i64 (i:Int)),(27,.int .i64 vs.length),(26,.sl (vs.map AV.str) vs.length none),(6,.str fn),(7,.ptr L2.length 0),(18,.ptr L.length 0),(0,.ptr it 0),(1,.sl (bp a) a.length cap),(2,.func f caps)]) aoD ⟨0,rfl,ali _,hid (hE3.o.iff λk=>aoA),rfl⟩ ?_;clear hE3 kk1 hat hst hty hmat;rintro _ _ L3 ⟨i,rfl,hi,hE,rfl⟩;have hat:=hE.o.at (i:=L2.length) ani;have hl3:L2.length+1<=L3.length:=(ald.1 hat).1;have hvn':=hvn.o;by_cases hiv:i<vs.length;have j1:(i:Int)<(vs.length:Int):=aoz;have j2:=ak9 i aoz;have j3:(vs.map AV.str).getD i .undef=.str (vs.getD i []):=by simp[hiv]
 have j4:i<(vs.map AV.str).length:=by simpa using hiv
 obtain⟨v,hv⟩:=ak7 (vs.getD i []);have htk:vs.take (i+1)=vs.take i++[v]:=by rw[aly hiv,<- hv];simp[hiv]
 rw[hv]at j3;replace htk:=hid htk;obtain⟨VS,hVS⟩:=ak7 (vs.map AV.str);rw[hVS]at j3 j4⊢;clear hv hvn';rcases hno:cj t2 v with _|n;have kk1:Hid (Ctr Tryz.prog 48 [.int .i64 t2,.str v] (.tup [.str [],.bool false])):=@hid _ (λ{L K} q=>PG (by rw[hno];exact q));have hE5:=hid (hE.o.iff (M':=λk=>k∈d9 (ed ps) a\/k∈(vs.take (i+1)).flatMap (x9 fn t2)) λk=>by rw[htk.o,anF,alh];simp[x9,hno])
 clear hE hno htk;refine wk ?_;rw[<- hVS];exact aoE aoz (CutL (b:=hl3)) ⟨i+1,rfl,hiv,hE5,rfl⟩;have kk1:Hid (Ctr Tryz.prog 48 [.int .i64 t2,.str v] (.tup [.str n,.bool true])):=@hid _ (λ{L K} q=>PG (by rw[hno];exact q));have hnl2:=ZB hno;have kk2:Hid (Ctr Tryz.prog 41 [.str n] (G9 (bq n))):=@hid _ (λ{L K} q=>acr aoz q);have hgl:=fZ n;obtain⟨gs,hgs⟩:=ak7 (bq n);rw[hgs]at kk2 hgl;have hgb:gs.length<=100000:=aoz;clear hgl;replace hgb:=hid hgb;have hev:Hid (x9 fn t2 v=(fn,false,n)::gs.map λg=>(fn,true,g)):=hid (by unfold x9;rw[hno];simp only[hgs]);clear hno hgs;refine wk ?_;refine hE.o.go hd.o (k:=(fn,false,n)) λL4 hE4 hl4=>?_
 replace hE4:=hid hE4;replace hl4:=hid (alF hl3 hl4);clear hE hat hl3;refine wk ?_;refine ah (λm T' L5=>∃j:Nat,m=gs.length-j/\j<=gs.length/\Hid (L4.length<=L5.length)/\Hid (EaI J B0 L [(L2.length,.cells [.str t1,.int .i64 t2,.bool t3,.bool t4]),(L.length,.miter (some im) tm.length (seen++[bn]) tm.length)] (λk=>(k∈d9 (ed ps) a\/k∈(vs.take i).flatMap (x9 fn t2))\/k=(fn,false,n)\/k∈(gs.take j).map λg=>(fn,true,g)) L5)/\T'=[(49,.int .i64 (j:Int)),(48,.int .i64 gs.length),(47,.sl (gs.map AV.str) gs.length none),(28,.int .i64 (i:Int)),(27,.int .i64 vs.length),(26,.sl VS vs.length none),(6,.str fn),(7,.ptr L2.length 0),(18,.ptr L.length 0),(0,.ptr it 0),(1,.sl (bp a) a.length cap),(2,.func f caps)]) (CutS (b:=ale _)) ⟨0,rfl,ali _,hid (ale _),hid (hE4.o.iff λk=>by simp[or_assoc]),rfl⟩ ?_;clear hE4 kk1 kk2 j3 j4;rintro _ _ L5 ⟨j,rfl,hj,hl5,hE,rfl⟩;have hat:=hE.o.at (i:=L2.length) ani;have hgb2:=hgb.o;by_cases hjg:j<gs.length;have g1:(j:Int)<(gs.length:Int):=aoz;have g2:=ak9 j aoz;clear hgb2;have g3:(gs.map AV.str).getD j .undef=.str (gs.getD j []):=by simp[hjg]
 have g4:j<(gs.map AV.str).length:=by simpa using hjg
 obtain⟨g,hg⟩:=ak7 (gs.getD j []);have htj:gs.take (j+1)=gs.take j++[g]:=by rw[aly hjg,<- hg];simp[hjg]
 rw[hg]at g3;replace htj:=hid htj;obtain⟨GS,hGS⟩:=ak7 (gs.map AV.str);rw[hGS]at g3 g4⊢;clear hg;refine wk ?_;refine hE.o.go hd.o (k:=(fn,true,g)) λL6 hE6 hl6=>?_
 have hE7:=hid (hE6.iff (M':=λk=>(k∈d9 (ed ps) a\/k∈(vs.take i).flatMap (x9 fn t2))\/k=(fn,false,n)\/k∈(gs.take (j+1)).map λg=>(fn,true,g)) λk=>by rw[htj.o];simp[or_assoc])
 replace hl6:=hid (alF hl5.o hl6);clear hE hE6 hat;refine wk ?_;rw[<- hGS];exact aoE aoz (CutL (b:=hl6.o)) ⟨j+1,rfl,hjg,hl6,hE7,rfl⟩;have hje:j=gs.length:=aoz;subst hje;have g1:¬(gs.length:Int)<(gs.length:Int):=aoz;have hE5:=hid (hE.o.iff (M':=λk=>k∈d9 (ed ps) a\/k∈(vs.take (i+1)).flatMap (x9 fn t2)) λk=>by rw[htk.o,anF,alh,alt];simp[hev.o,or_assoc])
 have hl7:=alF hl4.o hl5.o;clear hE hat;refine wk ?_;rw[<- hVS];exact aoE aoz (CutL (b:=hl7)) ⟨i+1,rfl,hiv,hE5,rfl⟩;have hie:i=vs.length:=aoz;subst hie;have j1:¬(vs.length:Int)<(vs.length:Int):=aoz;have hE5:=hid ((hE.o.sub (F':=[(L.length,.miter (some im) tm.length (seen++[bn]) tm.length)]) aoA).iff (M':=λk=>k∈d9 (ed (ps++[(fn,(t1,t2,t3,t4),bn)])) a) λk=>by rw[alt,aeK,ad6,alh];show _↔_\/k∈d9 [(fn,t2)] a;rw[ad5,hvs.o])
 have hl7:L.length+1<=L3.length:=by rw[alw]at hnl;simp only[alp,al9]at hnl;omega
 clear hE hat;refine wk ?_;exact aoE hlt.o (CutL (b:=hl7)) ⟨_,_,rfl,hcm',hE5,rfl⟩
section
variable {L:List Blk}{it im ie ip ii:Nat}{tm:TMp}{em:List (bc Int (List Atr))}{ec:Nat}{pm:List (bc (List UInt8) Nat)}{pc:Nat}{dm:List (bc aU Nat)}{dc:Nat}{Q:List UInt8->Int->Prop}{R:aU->Int->Prop}
theorem IxH.noOwn(h:IxH L it im ie ip ii tm tm.length em ec pm pc dm dc Q R){j:Nat}{c:List AV}(hj:L[j]?=some (.cells c))(hc:c.length≠4):j∉it::im::ie::ip::ii::(pm.map (·.2.1)++dm.map (·.2.1)):=by intro hm;simp only[alj,alh]at hm;rcases hm with rfl|rfl|rfl|rfl|rfl|hi|hi;rw[h.st]at hj;cases hj;exact hc rfl;rw[h.ty]at hj;cases hj;rw[h.en]at hj;cases hj;rw[h.pr]at hj;cases hj;rw[h.ids]at hj;cases hj;obtain⟨e,he,rfl⟩:=alg.1 hi;obtain⟨xs,ck,q,_⟩:=h.ps e.1 e.2.1 (xQ h.pok.keys he);rw[q]at hj;cases hj;obtain⟨e,he,rfl⟩:=alg.1 hi;obtain⟨xs,ck,q,_⟩:=h.ds e.1 e.2.1 (xQ h.dok.keys he);rw[q]at hj;cases hj
end
def JX(it im ie ip ii:Nat)(tm:TMp)(em:List (bc Int (List Atr)))(ec:Nat)(pm:List (bc (List UInt8) Nat))(pc:Nat)(xb ib:Nat)(id:Int)(Q:List UInt8->Int->Prop)(R:List aU->aU->Int->Prop)(ks:List aU)(B:Nat->Prop)(L:List Blk):Prop :=
 ∃dm dc,IxH L it im ie ip ii tm tm.length em ec pm pc dm dc Q (R ks)/\L[xb]?=some (.cells [.ptr it 0])/\L[ib]?=some (.cells [.int .i64 id])/\∀i,B i↔i=xb\/i=ib\/i∈it::im::ie::ip::ii::(pm.map (·.2.1)++dm.map (·.2.1))
section
variable {it im ie ip ii:Nat}{tm:TMp}{em:List (bc Int (List Atr))}{ec:Nat}{pm:List (bc (List UInt8) Nat)}{pc:Nat}{xb ib:Nat}{id:Int}{Q:List UInt8->Int->Prop}{R:List aU->aU->Int->Prop}
theorem JX.lt{ks:List aU}{B:Nat->Prop}{L:List Blk}(h:JX it im ie ip ii tm em ec pm pc xb ib id Q R ks B L)(i:Nat)(hi:B i):i<L.length:=by obtain⟨dm,dc,h1,h2,h3,h4⟩:=h;rcases(h4 i).1 hi with rfl|rfl|e;exact(ald.1 h2).1;exact(ald.1 h3).1;exact h1.lt i e
theorem JX.keep{ks:List aU}{B:Nat->Prop}{L L':List Blk}(h:JX it im ie ip ii tm em ec pm pc xb ib id Q R ks B L)(hb:bP (λi=>¬B i) L L'):JX it im ie ip ii tm em ec pm pc xb ib id Q R ks B L':=by
 have hlt:=h.lt;obtain⟨dm,dc,h1,h2,h3,h4⟩:=h;have key:∀i,B i->L'[i]?=L[i]?:=λi hi=>hb.eq i (hlt i hi) λe=>e hi
 exact⟨dm,dc,h1.keep λi hi=>key i ((h4 i).2 (.inr (.inr hi))),by rw[key xb ((h4 xb).2 (.inl rfl))];exact h2,by rw[key ib ((h4 ib).2 (.inr (.inl rfl)))];exact h3,h4⟩
theorem JX.dok{f:FuncId}(hg:∀ks B L k (K:AV->List Blk->Prop),JX it im ie ip ii tm em ec pm pc xb ib id Q R ks B L->(∀L' B',JX it im ie ip ii tm em ec pm pc xb ib id Q R (ks++[k]) B' L'->bP B L L'->(∀i,B' i->B i\/L.length<=i)->K (.tup []) L')->alb f [p9 k,.ptr xb 0,.ptr ib 0] L K):DoK Tryz.prog f [.ptr xb 0,.ptr ib 0] it im ie ip ii tm (JX it im ie ip ii tm em ec pm pc xb ib id Q R):=by refine⟨λks B L h=>?_,λks B L h=>?_,λks B L h=>h.lt,λks B L L' h hb=>h.keep hb,hg⟩;obtain⟨dm,dc,h1,_⟩:=h;exact h1.st;obtain⟨dm,dc,h1,_⟩:=h;exact h1.ty
theorem JX.of{ks:List aU}{B:Nat->Prop}{L L':List Blk}{dm dm':List (bc aU Nat)}{dc':Nat}{k:aU}{R':aU->Int->Prop}(h4:∀i,B i↔i=xb\/i=ib\/i∈it::im::ie::ip::ii::(pm.map (·.2.1)++dm.map (·.2.1)))(h1:IxH L' it im ie ip ii tm tm.length em ec pm pc dm' dc' Q R')(hR:∀g x,R' g x↔R (ks++[k]) g x)(h2:L'[xb]?=some (.cells [.ptr it 0]))(h3:L'[ib]?=some (.cells [.int .i64 id]))(hdm:∀b∈dm'.map (·.2.1),b∈dm.map (·.2.1)\/L.length<=b):
  ∃B',JX it im ie ip ii tm em ec pm pc xb ib id Q R (ks++[k]) B' L'/\∀i,B' i->B i\/L.length<=i:=by
 refine⟨_,⟨dm',dc',h1.iff (λ_ _ _=>Iff.rfl) hR,h2,h3,λi=>Iff.rfl⟩,λi hi=>?_⟩;rcases hi with e|e|e;exact .inl ((h4 i).2 (.inl e));exact .inl ((h4 i).2 (.inr (.inl e)));simp only[alj,alh]at e;rcases e with e|e|e|e|e|e|e;exact .inl ((h4 i).2 (.inr (.inr (by simp[e]))));exact .inl ((h4 i).2 (.inr (.inr (by simp[e]))));exact .inl ((h4 i).2 (.inr (.inr (by simp[e]))));exact .inl ((h4 i).2 (.inr (.inr (by simp[e]))));exact .inl ((h4 i).2 (.inr (.inr (by simp[e]))));exact .inl ((h4 i).2 (.inr (.inr (by simp only[alj,alh];exact .inr (.inr (.inr (.inr (.inr (.inl e)))))))));rcases hdm i e with e|e;exact .inl ((h4 i).2 (.inr (.inr (by simp only[alj,alh];exact .inr (.inr (.inr (.inr (.inr (.inr e)))))))));exact .inr e
end
theorem c7{κ υ:Type}[DecidableEq κ]{ka:κ->AV}{va:υ->AV}(hka:WD ka){xs:List (bc κ υ)}{ck:Nat}(h:cW xs ck)(k:κ)(u:υ):
  (∃j w,bB xs k=some w/\d8 (ka k) (a7 ka va xs) 0=some (some (j,va w))/\Yx (ka k) (va u) (a7 ka va xs) j=a7 ka va (rB xs k u ck)/\(k∈xs.map (·.1)))\/(bB xs k=none/\d8 (ka k) (a7 ka va xs) 0=some none/\a7 ka va xs++[(ka k,va u,ck)]=a7 ka va (rB xs k u ck)/\k∉xs.map (·.1)):=by
 by_cases hk:k∈xs.map (·.1);obtain⟨j,w,h1,h2,h3,_⟩:=rQ (va:=va) hka 0 h.keys hk;refine .inl ⟨j,w,h1,by rw[h2,amy],?_,hk⟩;rw[h3];unfold rB;rw[if_pos hk];refine .inr ⟨rn.2 hk,SN hka 0 hk,?_,hk⟩;unfold rB;rw[if_neg hk];simp[a7,GU]
theorem ah2{tm:TMp}{xb ib:Nat}{R0:aU->Int->Prop}{ks:List aU}(hj:JX it im ie ip ii tm em ec pm pc xb ib id Q (WK R0 id) ks B L)(h:∀L' B',JX it im ie ip ii tm em ec pm pc xb ib id Q (WK R0 id) (ks++[k]) B' L'->bP B L L'->(∀i,B' i->B i\/L.length<=i)->K (.tup []) L'):
  alb 54 [p9 k,.ptr xb 0,.ptr ib 0] L K:=by
 obtain⟨dm,dc,h1,h2,h3,h4⟩:=hj;have hii:ii<L.length:=h1.lt ii aoA;have hxl:=(ald.1 h2).1;have hbl:=(ald.1 h3).1;have xn:=h1.noOwn h2 aoA;have bn:=h1.noOwn h3 aoA;have aX:∀(X:List Blk){i:Nat}{b:Blk},L[i]?=some b->(L++X)[i]?=some b:=λX {i b} e=>ak8 e
 obtain⟨f,g,t⟩:=k;have hkf:bD (.st [.str,.bool,.str]) (.agg [.str f,.bool g,.str t])=true:=rfl;have hki:bD .int (.int .i64 id)=true:=rfl;rcases c7 (va:=AV.lmap) xU h1.dok (f,g,t) (L.length+1)with⟨j,b,q1,q2,q3,q4⟩|⟨q1,q2,q3,q4⟩;have hb:=tn q1;have hbo:b∈it::im::ie::ip::ii::(pm.map (·.2.1)++dm.map (·.2.1)):=by simp only[alj,alh];exact .inr (.inr (.inr (.inr (.inr (.inr hb)))))
 have hbL:=h1.lt b hbo;obtain⟨xs,ck,s1,s2,s3,s4⟩:=h1.ds _ _ q1;have hL1:=h1.more [.cells [.str f,.bool g,.str t]];have hs1:(L++[Blk.cells [.str f,.bool g,.str t]])[b]?=some (lY xs ck):=aX _ s1;have hS:=sc.add hs1 (hL1.ds _ _ q1) id s2 s3 s4;have hJ:=hL1.dmSet q1 hS;have hst:∀(X:List Blk) c,(L++X).set b c=L.set b c++X:=λX c=>ama _ _ hbL
 rw[hst]at hJ;obtain⟨B',j1,j2⟩:=JX.of (L:=L) (k:=(f,g,t)) h4 hJ (λy x=>Xp y x) (by
  rw[alm (by simpa using hxl),alE (λe=>xn (by rw[<- e];exact hbo))];exact h2) (by
  rw[alm (by simpa using hbl),alE (λe=>bn (by rw[<- e];exact hbo))];exact h3) (λc hc=>.inl hc)
 have hfin:=h _ B' j1 ((bP.set L (.inl ((h4 b).2 (.inr (.inr hbo)))) _).trans (bP.app (B:=λ_=>False) _ _) λi _ e=>e.elim) j2;replace hfin:=hid hfin;have a1:∀X,(L++X)[xb]?=some (.cells [.ptr it 0]):=λX=>aX X h2
 have a2:∀X,(L++X)[ib]?=some (.cells [.int .i64 id]):=λX=>aX X h3
 have a3:∀X,(L++X)[it]?=some (.cells [.lmap im,.lmap ie,.lmap ip,.lmap ii]):=λX=>aX X h1.st
 have a4:∀X,(L++X)[ii]?=some (.map (a7 p9 AV.lmap dm) dc):=λX=>aX X h1.ids
 have a5:∀X,(L++X)[b]?=some (.map (a7 (AV.int .i64) AV.bool xs) ck):=λX=>aX X s1
 simp only[p9]at q2;clear h aX hJ hS hL1 h1 j1 j2 h4 xn bn s3 s4 q3 hs1 q1;rcases c7 (va:=AV.bool) ta s2 id true with⟨j',w,p1,p2,p3,p4⟩|⟨p1,p2,p3,p4⟩;have hck:ckS xs id ck=ck:=if_pos p4;rw[hck]at hfin;clear hck p1 p4 s2;refine ala fe ?_;exact d6 rfl trivial (aa hfin.o);have hck:ckS xs id ck=ck+1:=if_neg p4;rw[hck]at hfin;clear hck p1 p4 s2;refine ala fe ?_;exact d6 rfl trivial (aa hfin.o);have hL1:=h1.more [.cells [.str f,.bool g,.str t]];have hN:=hL1.dmNew q1;have hlen:(L++[Blk.cells [.str f,.bool g,.str t]]).length=L.length+1:=aoA;have hst:∀(X:List Blk) c,(L++X).set ii c=L.set ii c++X:=λX c=>ama _ _ hii
 rw[hlen,alv,hst]at hN;have hg:bB (dm++[((f,g,t),L.length+1,dc)]) (f,g,t)=some (L.length+1):=by rw[Ll (rn.1 q1),if_pos rfl]
 have hs1:(L.set ii (YH (dm++[((f,g,t),L.length+1,dc)]) (dc+1))++([Blk.cells [.str f,.bool g,.str t]]++[lY [] 0]))[L.length+1]?=some (lY [] 0):=by rw[alH aoA];simp
 have hS:=sc.add hs1 (hN.ds _ _ hg) id cW.nil (λe he=>by cases he) (by
  obtain⟨xs,ck,r1,r2,r3,r4⟩:=hN.ds _ _ hg;rw[hs1]at r1;cases xs with
  |nil=>exact r4
  |cons x xs=>simp[lY,a7]at r1)
 have hJ:=hN.dmSet hg hS;have he:(L.set ii (YH (dm++[((f,g,t),L.length+1,dc)]) (dc+1))++([Blk.cells [.str f,.bool g,.str t]]++[lY [] 0])).set (L.length+1) (lY (rB [] id true 0) (ckS [] id 0))=L.set ii (YH (dm++[((f,g,t),L.length+1,dc)]) (dc+1))++[Blk.cells [.str f,.bool g,.str t],.map [(.int .i64 id,.bool true,0)] 1]:=by rw[al4 _ _ aoA];simp[rB,ckS,a7,GU]
 rw[he]at hJ;have hnx:ii≠xb:=λe=>xn (by rw[<- e];simp)
 have hnb:ii≠ib:=λe=>bn (by rw[<- e];simp)
 have hnt:ii≠it:=λe=>by have:=h1.ids;rw[e,h1.st]at this;cases this
 have gl:∀(X:List Blk) c{i:Nat}{b:Blk},ii≠i->L[i]?=some b->(L.set ii c++X)[i]?=some b:=λX c {i b} n e=>by rw[alm (by simpa using(ald.1 e).1),alE n];exact e
 obtain⟨B',j1,j2⟩:=JX.of (L:=L) (k:=(f,g,t)) h4 hJ (λy x=>Xp y x) (gl _ _ hnx h2) (gl _ _ hnb h3) (λc hc=>by rw[alM,alh]at hc;rcases hc with hc|hc;exact .inl hc;simp only[alr,amH,alB]at hc;exact .inr aoz)
 have hfin:=h _ B' j1 ((bP.set L (.inl ((h4 ii).2 (.inr (.inr aoA)))) _).trans (bP.app (B:=λ_=>False) _ _) λi _ e=>e.elim) j2;replace hfin:=hid hfin;have a1:∀X,(L++X)[xb]?=some (.cells [.ptr it 0]):=λX=>aX X h2
 have a3:∀X,(L++X)[it]?=some (.cells [.lmap im,.lmap ie,.lmap ip,.lmap ii]):=λX=>aX X h1.st
 have a4:∀X,(L++X)[ii]?=some (.map (a7 p9 AV.lmap dm) dc):=λX=>aX X h1.ids
 have b1:∀X c,(L.set ii c++X)[xb]?=some (.cells [.ptr it 0]):=λX c=>gl X c hnx h2
 have b2:∀X c,(L.set ii c++X)[ib]?=some (.cells [.int .i64 id]):=λX c=>gl X c hnb h3
 have b3:∀X c,(L.set ii c++X)[it]?=some (.cells [.lmap im,.lmap ie,.lmap ip,.lmap ii]):=λX c=>gl X c hnt h1.st
 have b4:∀X c,(L.set ii c++X)[ii]?=some c:=λX c=>by rw[alm (by simpa using hii),amf hii]
 have b5:∀a c d (X:List Blk),(L.set ii c++a::d::X)[L.length+1]?=some d:=λa c d X=>by rw[alH aoA];simp
 have b6:∀a c d e (X:List Blk),(L.set ii c++a::d::X).set (L.length+1) e=L.set ii c++a::e::X:=λa c d e X=>by rw[al4 _ _ aoA];simp
 have b7:∀a c (X:List Blk),(L.set ii c++a::X)[L.length]?=some a:=λa c X=>by rw[alH aoA];simp
 obtain⟨j,w,r1,r2,_⟩:=rQ (va:=AV.lmap) xU (xs:=dm++[((f,g,t),L.length+1,dc)]) (k:=(f,g,t)) 0 (hN.dok.keys) aoA;rw[hg]at r1;simp only[alf]at r1;subst r1;have q3':a7 p9 AV.lmap dm++[(.agg [.str f,.bool g,.str t],.lmap (L.length+1),dc)]=a7 p9 AV.lmap (dm++[((f,g,t),L.length+1,dc)]):=by simp[a7,GU,p9]
 rw[amy]at r2;simp only[p9]at q2 r2;clear h aX hJ hS hL1 j1 j2 h4 xn bn q3 q4 hs1 hg gl he hnx hnb hnt hN hlen h1 q1;refine ala fe ?_;exact d6 rfl trivial (aa hfin.o)
theorem rN{κ υ:Type}[DecidableEq κ]{ka:κ->AV}{va:υ->AV}(hka:WD ka){xs:List (bc κ υ)}{ck:Nat}(h:cW xs ck)(k:κ):
  (∃j w,bB xs k=some w/\d8 (ka k) (a7 ka va xs) 0=some (some (j,va w))/\(a7 ka va xs).eraseIdx j=a7 ka va (ij xs k))\/(d8 (ka k) (a7 ka va xs) 0=some none/\ij xs k=xs):=by
 by_cases hk:k∈xs.map (·.1);obtain⟨j,w,h1,h2,_,h3⟩:=rQ (va:=va) hka 0 h.keys hk;exact .inl ⟨j,w,h1,by rw[h2,amy],h3⟩;refine .inr ⟨SN hka 0 hk,?_⟩;unfold ij;refine anC.2 λe he=>?_
 have:e.1≠k:=λq=>hk (alg.2 ⟨e,he,q⟩)
 simpa using this
theorem agB{tm:TMp}{xb ib:Nat}{R0:aU->Int->Prop}{ks:List aU}(hj:JX it im ie ip ii tm em ec pm pc xb ib id Q (SW R0 id) ks B L)(h:∀L' B',JX it im ie ip ii tm em ec pm pc xb ib id Q (SW R0 id) (ks++[k]) B' L'->bP B L L'->(∀i,B' i->B i\/L.length<=i)->K (.tup []) L'):
  alb 85 [p9 k,.ptr xb 0,.ptr ib 0] L K:=by
 obtain⟨dm,dc,h1,h2,h3,h4⟩:=hj;have hii:ii<L.length:=h1.lt ii aoA;have hxl:=(ald.1 h2).1;have hbl:=(ald.1 h3).1;have xn:=h1.noOwn h2 aoA;have bn:=h1.noOwn h3 aoA;have aX:∀(X:List Blk){i:Nat}{b:Blk},L[i]?=some b->(L++X)[i]?=some b:=λX {i b} e=>ak8 e
 obtain⟨f,g,t⟩:=k;have hkf:bD (.st [.str,.bool,.str]) (.agg [.str f,.bool g,.str t])=true:=rfl;have hki:bD .int (.int .i64 id)=true:=rfl;have a1:∀X,(L++X)[xb]?=some (.cells [.ptr it 0]):=λX=>aX X h2
 have a2:∀X,(L++X)[ib]?=some (.cells [.int .i64 id]):=λX=>aX X h3
 have a3:∀X,(L++X)[it]?=some (.cells [.lmap im,.lmap ie,.lmap ip,.lmap ii]):=λX=>aX X h1.st
 have a4:∀X,(L++X)[ii]?=some (.map (a7 p9 AV.lmap dm) dc):=λX=>aX X h1.ids
 have hL1:=h1.more [.cells [.str f,.bool g,.str t]];rcases rN (va:=AV.lmap) xU h1.dok (f,g,t)with⟨j,b,q1,q2,q3⟩|⟨q2,q3⟩
 rotate_left
 have q1:bB dm (f,g,t)=none:=by have:=Lk (xs:=dm) (k:=(f,g,t)) (j:=(f,g,t));rw[q3,if_pos rfl]at this;exact this
 have hset:∀X,(L++X).set ii (.map (a7 p9 AV.lmap dm) dc)=L++X:=λX=>by apply amN;intro i;by_cases e:ii=i;subst e;rw[amf (by simp;omega),a4];rw[alE e]
 obtain⟨B',j1,j2⟩:=JX.of (L:=L) (k:=(f,g,t)) h4 hL1 (λy x=>by refine Iff.trans ?_ (SV (R:=R0) (id:=id) (ks:=ks) (j:=(f,g,t)) y x);by_cases e:y=(f,g,t);subst e;rw[if_pos rfl];have:=h1.dn _ q1 x;simp[this];rw[if_neg e]) (a1 _) (a2 _) (λc hc=>.inl hc)
 have hfin:=h _ B' j1 (bP.app _ _) j2;replace hfin:=hid hfin;simp only[p9]at q2;clear h aX hL1 h1 j1 j2 h4 xn bn q3 q1;refine ala cM ?_;exact d6 rfl trivial (aa hfin.o);have hb:=tn q1;have hbo:b∈it::im::ie::ip::ii::(pm.map (·.2.1)++dm.map (·.2.1)):=by simp only[alj,alh];exact .inr (.inr (.inr (.inr (.inr (.inr hb)))))
 have hbL:=h1.lt b hbo;obtain⟨xs,ck,s1,s2,s3,s4⟩:=h1.ds _ _ q1;have hs1:(L++[Blk.cells [.str f,.bool g,.str t]])[b]?=some (lY xs ck):=aX _ s1;have hS:=sc.del hs1 id s2 s3 s4;have hJ:=hL1.dmSet q1 hS;have hst:∀(X:List Blk) c,(L++X).set b c=L.set b c++X:=λX c=>ama _ _ hbL
 rw[hst]at hJ;have hbx:b≠xb:=λe=>xn (by rw[<- e];exact hbo)
 have hbb:b≠ib:=λe=>bn (by rw[<- e];exact hbo)
 have hbt:b≠it:=λe=>by rw[e,h1.st]at s1;cases s1
 have hbi:b≠ii:=(h1.ne.2.2.2.1 b hb).2.2.2.2;have gl:∀(X:List Blk) c{i:Nat}{d:Blk},b≠i->L[i]?=some d->(L.set b c++X)[i]?=some d:=λX c {i d} n e=>by rw[alm (by simpa using(ald.1 e).1),alE n];exact e
 have a5:∀X,(L++X)[b]?=some (.map (a7 (AV.int .i64) AV.bool xs) ck):=λX=>aX X s1
 have b1:∀X c,(L.set b c++X)[xb]?=some (.cells [.ptr it 0]):=λX c=>gl X c hbx h2
 have b2:∀X c,(L.set b c++X)[ib]?=some (.cells [.int .i64 id]):=λX c=>gl X c hbb h3
 have b3:∀X c,(L.set b c++X)[it]?=some (.cells [.lmap im,.lmap ie,.lmap ip,.lmap ii]):=λX c=>gl X c hbt h1.st
 have b4:∀X c,(L.set b c++X)[ii]?=some (.map (a7 p9 AV.lmap dm) dc):=λX c=>gl X c hbi h1.ids
 have b5:∀X c,(L.set b c++X)[b]?=some c:=λX c=>by rw[alm (by simpa using hbL),amf hbL]
 have b7:∀a c (X:List Blk),(L.set b c++a::X)[L.length]?=some a:=λa c X=>by rw[alH aoA];simp
 have hB1:bP B L (L.set b (lY (ij xs id) ck)++[Blk.cells [.str f,.bool g,.str t]]):=(bP.set L (.inl ((h4 b).2 (.inr (.inr hbo)))) _).trans (bP.app (B:=λ_=>False) _ _) λi _ e=>e.elim
 simp only[p9]at q2;by_cases hz:ij xs id=[];have hno:∀x,¬(if((f,g,t):aU)=(f,g,t)then SW R0 id ks (f,g,t) x/\x≠id else SW R0 id ks (f,g,t) x):=λx=>by rw[if_pos rfl,<- s4 x,<- XY,hz];simp
 have hD:=hJ.dmDel hno;have hst2:∀(X:List Blk) c d,(L.set b c++X).set ii d=(L.set b c).set ii d++X:=λX c d=>ama _ _ (by simpa using hii)
 rw[hst2]at hD;have hnx:ii≠xb:=λe=>xn (by rw[<- e];simp)
 have hnb:ii≠ib:=λe=>bn (by rw[<- e];simp)
 obtain⟨B',j1,j2⟩:=JX.of (L:=L) (k:=(f,g,t)) h4 hD (λy x=>SV y x) (by
  rw[alm (by simpa using hxl),alE hnx,alE hbx];exact h2) (by
  rw[alm (by simpa using hbl),alE hnb,alE hbb];exact h3) (λc hc=>.inl (by
  obtain⟨e,he,rfl⟩:=alg.1 hc;exact alg.2 ⟨e,(alO.1 he).1,rfl⟩))
 have hfin:=h _ B' j1 (by rw[<- hst2];exact hB1.trans (bP.set (B:=λi=>i=ii) _ (.inl rfl) _) λi _ e=>by rw[e];exact(h4 ii).2 (.inr (.inr aoA))) j2
 rw[hz]at hfin;replace hfin:=hid hfin;have hz0:(a7 (AV.int .i64) AV.bool (ij xs id)).length=0:=by rw[hz];rfl
 have hzn:a7 (AV.int .i64) AV.bool (ij xs id)=[]:=by rw[hz];rfl
 clear h aX hJ hS hL1 h1 j1 j2 h4 xn bn s3 s4 hs1 q1 hD hno hB1 hb hbo gl;rcases rN (va:=AV.bool) ta s2 id with⟨j',w,p1,p2,p3⟩|⟨p2,p3⟩;clear p1 s2 hz hz0;refine ala cM ?_;exact d6 rfl trivial (aa hfin.o);rw[p3]at hz;subst hz;clear s2 hz0 hzn p3;refine ala cM ?_;exact d6 rfl trivial (aa hfin.o);have hfinJ:∃B',JX it im ie ip ii tm em ec pm pc xb ib id Q (SW R0 id) (ks++[(f,g,t)]) B' (L.set b (lY (ij xs id) ck)++[Blk.cells [.str f,.bool g,.str t]])/\∀i,B' i->B i\/L.length<=i :=
  JX.of (L:=L) (k:=(f,g,t)) h4 hJ (λy x=>SV y x) (gl _ _ hbx h2) (gl _ _ hbb h3) (λc hc=>.inl hc)
 obtain⟨B',j1,j2⟩:=hfinJ;have hfin:=h _ B' j1 hB1 j2;replace hfin:=hid hfin;have hz0:¬((a7 (AV.int .i64) AV.bool (ij xs id)).length:Int)=0:=λe=>hz (by have:(a7 (AV.int .i64) AV.bool (ij xs id)).length=0:=aoz;unfold a7 at this;rw[alU]at this;exact alS.1 this)
 clear h aX hJ hS hL1 h1 j1 j2 h4 xn bn s3 s4 hs1 q1 hB1 hb hbo gl hz;rcases rN (va:=AV.bool) ta s2 id with⟨j',w,p1,p2,p3⟩|⟨p2,p3⟩;clear p1 s2;refine ala cM ?_;refine ba ?_;exact d6 rfl trivial (aa hfin.o);rw[p3]at hfin hz0;clear s2 p3;refine ala cM ?_;refine ba ?_;exact d6 rfl trivial (aa hfin.o)
set_option maxHeartbeats 8000000
set_option maxRecDepth 100000
structure p8(a:List Atr):Prop where
 len:a.length<=1100000
 rise:lX dW a
 sz:∀x∈a,aR x.1/\x.2.length<=1100000
structure IxG(tm:TMp)(l:List aQ):Prop where
 ok:cW tm tm.length
 key:∀e∈tm,aR e.1
 ats:∀e∈l,p8 e.2
theorem bP.app2{L1:List Blk}(h:bP B L L1)(X:List Blk):bP B L (L1++X):=h.trans (bP.app (B:=λ_=>False) _ _) λi _ e=>e.elim
structure n9(L0:List Blk)(B0 B:Nat->Prop)(it im ie ip ii:Nat)(tm:TMp)(em:List (bc Int (List Atr)))(ec:Nat)(pm:List (bc (List UInt8) Nat))(pc:Nat)(dm:List (bc aU Nat))(dc:Nat)(F:List (Nat×Blk))(Q:List UInt8->Int->Prop)(R:aU->Int->Prop)(L:List Blk):Prop where
 ix:IxH L it im ie ip ii tm tm.length em ec pm pc dm dc Q R
 own:∀i,B i↔i∈it::im::ie::ip::ii::(pm.map (·.2.1)++dm.map (·.2.1))
 bes:bP B0 L0 L
 sub:∀i,B i->B0 i\/L0.length<=i
 fr:∀p∈F,¬B p.1/\L[p.1]?=some p.2/\L0.length<=p.1
section
variable {L0:List Blk}{B0 B:Nat->Prop}{it im ie ip ii:Nat}{tm:TMp}{em:List (bc Int (List Atr))}{ec:Nat}{pm:List (bc (List UInt8) Nat)}{pc:Nat}{dm:List (bc aU Nat)}{dc:Nat}{F:List (Nat×Blk)}{Q:List UInt8->Int->Prop}{R:aU->Int->Prop}{L:List Blk}
theorem n9.at(h:n9 L0 B0 B it im ie ip ii tm em ec pm pc dm dc F Q R L){i:Nat}{b:Blk}(e:(i,b)∈F):L[i]?=some b:=(h.fr _ e).2.1
theorem n9.lt(h:n9 L0 B0 B it im ie ip ii tm em ec pm pc dm dc F Q R L){i:Nat}(hi:B i):i<L.length:=h.ix.lt i ((h.own i).1 hi)
theorem n9.app(h:n9 L0 B0 B it im ie ip ii tm em ec pm pc dm dc F Q R L)(b:Blk):n9 L0 B0 B it im ie ip ii tm em ec pm pc dm dc ((L.length,b)::F) Q R (L++[b]):=by refine⟨h.ix.more _,h.own,h.bes.app2 _,h.sub,λp hp=>?_⟩;rcases alj.1 hp with rfl|hp;exact⟨λe=>absurd (h.lt e) aoA,aoA,h.bes.len⟩;obtain⟨g1,g2,g3⟩:=h.fr p hp;exact⟨g1,ak8 g2,g3⟩
theorem n9.turn{i:Nat}{b:Blk}(h:n9 L0 B0 B it im ie ip ii tm em ec pm pc dm dc ((i,b)::F) Q R L)(b':Blk)(hF:∀p∈F,p.1≠i):n9 L0 B0 B it im ie ip ii tm em ec pm pc dm dc ((i,b')::F) Q R (L.set i b'):=by obtain⟨q1,q2,q3⟩:=h.fr (i,b) aoA;simp only at q1 q2 q3;refine⟨h.ix.keep λj hj=>?_,h.own,h.bes.trans (bP.set (B:=λj=>j=i) L (.inl rfl) b') (λj hj e=>absurd hj aoz),h.sub,λp hp=>?_⟩;rw[alE λe=>q1 ((h.own i).2 (by rw[e];exact hj))];rcases alj.1 hp with rfl|hp;exact⟨q1,amf (ald.1 q2).1,q3⟩;obtain⟨g1,g2,g3⟩:=h.fr p (by simp[hp]);exact⟨g1,by rw[alE (λe=>hF p hp e.symm)];exact g2,g3⟩
theorem n9.ownSet(h:n9 L0 B0 B it im ie ip ii tm em ec pm pc dm dc F Q R L){i:Nat}(hi:B i){k:Blk}{em':List (bc Int (List Atr))}{ec':Nat}{Q':List UInt8->Int->Prop}(hx:IxH (L.set i k) it im ie ip ii tm tm.length em' ec' pm pc dm dc Q' R):n9 L0 B0 B it im ie ip ii tm em' ec' pm pc dm dc F Q' R (L.set i k):=
 ⟨hx,h.own,h.bes.trans (bP.set (B:=λj=>j=i) L (.inl rfl) k) (λj hj e=>(h.sub j (by rw[e];exact hi)).resolve_right aoz),h.sub,λp hp=>by obtain⟨g1,g2,g3⟩:=h.fr p hp;exact⟨g1,by rw[alE λe=>g1 (by rw[<- e];exact hi)];exact g2,g3⟩⟩
theorem n9.iff{Q':List UInt8->Int->Prop}(h:n9 L0 B0 B it im ie ip ii tm em ec pm pc dm dc F Q R L)(hq:∀f x,f∈tm.map (·.1)->(Q f x↔Q' f x)):n9 L0 B0 B it im ie ip ii tm em ec pm pc dm dc F Q' R L:=⟨h.ix.iff hq λ_ _=>Iff.rfl,h.own,h.bes,h.sub,h.fr⟩
theorem n9.apps(h:n9 L0 B0 B it im ie ip ii tm em ec pm pc dm dc F Q R L)(X:List Blk):n9 L0 B0 B it im ie ip ii tm em ec pm pc dm dc F Q R (L++X):=
 ⟨h.ix.more _,h.own,h.bes.app2 _,h.sub,λp hp=>by obtain⟨g1,g2,g3⟩:=h.fr p hp;exact⟨g1,ak8 g2,g3⟩⟩
theorem n9.jx{xb ib:Nat}{id:Int}(h:n9 L0 B0 B it im ie ip ii tm em ec pm pc dm dc F Q R L)(hx:(xb,.cells [.ptr it 0])∈F)(hi:(ib,.cells [.int .i64 id])∈F){R':List aU->aU->Int->Prop}(hR:∀k x,R k x↔R' [] k x):JX it im ie ip ii tm em ec pm pc xb ib id Q R' [] (λi=>i=xb\/i=ib\/B i) L:=by refine⟨dm,dc,h.ix.iff (λ_ _ _=>Iff.rfl) hR,h.at hx,h.at hi,λi=>?_⟩;show i=xb\/i=ib\/B i↔_;rw[h.own]
theorem n9.done{xb ib:Nat}{id:Int}(h:n9 L0 B0 B it im ie ip ii tm em ec pm pc dm dc F Q R L)(hx:(xb,.cells [.ptr it 0])∈F)(hi:(ib,.cells [.int .i64 id])∈F){R':List aU->aU->Int->Prop}{M:aU->Prop}{L2:List Blk}(he:EaI (JX it im ie ip ii tm em ec pm pc xb ib id Q R') (λi=>i=xb\/i=ib\/B i) L [] M L2){l':List aQ}(hr:eE l')(hem:P9 em l')(hQ:∀f x,f∈tm.map (·.1)->(Q f x↔x∈lG l' f))(hR:∀ks,(∀k,k∈ks↔M k)->∀k x,R' ks k x↔x∈fP (ed tm) l' k):∃B',IxO L2 it tm l' B'/\bP B0 L0 L2/\∀i,B' i->B0 i\/L0.length<=i:=by
 obtain⟨ks,B2,⟨dm2,dc2,g1,g2,g3,g4⟩,h2,h3,h4,_⟩:=he;have hxl:=(h.fr _ hx).2.2;have hil:=(h.fr _ hi).2.2;refine⟨_,⟨im,ie,ip,ii,em,ec,pm,pc,dm2,dc2,g1.iff hQ (hR ks h2),hem,hr,λi=>Iff.rfl⟩,h.bes.trans h3 (λi hi' e=>?_),λi hi'=>?_⟩;rcases e with e|e|e;simp only at hxl;omega;simp only at hil;omega;exact(h.sub i e).resolve_right aoz;rcases h4 i ((g4 i).2 (.inr (.inr hi')))with(e|e|e)|e;simp only at hxl;right;omega;simp only at hil;right;omega;exact h.sub i e;exact .inr (alF h.bes.len e)
end
theorem ac5{i:Nat}{k:Blk}(h:L[i]?=some k):L.set i k=L:=by have hi:=(ald.1 h).1;apply amN;intro j;by_cases e:i=j;subst e;rw[amf hi,h];rw[alE e]
theorem ajw{tm:TMp}{tc:Nat}{dm:List (bc aU Nat)}{dc:Nat}{R:aU->Int->Prop}(h:IxH L it im ie ip ii tm tc em ec pm pc dm dc Q R){p:bc (List UInt8) Nat}(hp:p∈pm):bB pm p.1=some p.2.1:=xQ h.pok.keys hp
theorem afW{tm:TMp}{l:List aQ}(ho:IxO L it tm l B)(hg:IxG tm l)(h:∀L' B',IxO L' it tm (cG id l) B'->bP B L L'->(∀i,B' i->B i\/L.length<=i)->K (.tup []) L'):
  alb 35 [.ptr it 0,.int .i64 id] L K:=by
 obtain⟨im,ie,ip,ii,em,ec,pm,pc,dm,dc,h1,h2,h3,h4⟩:=ho;have hM0:n9 L B B it im ie ip ii tm em ec pm pc dm dc [] (λf x=>x∈lG l f) (λk x=>x∈fP (ed tm) l k) L:=⟨h1,h4,.refl _,λi hi=>.inl hi,λp hp=>by cases hp⟩;have hM1:=hM0.app (.cells [.ptr it 0]);have hM2:=hM1.app (.cells [.int .i64 id]);have hki:bD .int (.int .i64 id)=true:=rfl;have a1:∀X,(L++X)[it]?=some (.cells [.lmap im,.lmap ie,.lmap ip,.lmap ii]):=λX=>ak8 h1.st
 have a2:∀X,(L++X)[ie]?=some (.map (a7 (AV.int .i64) atV em) ec):=λX=>ak8 h1.en
 rcases rN (va:=atV) ta h1.eok id with⟨j,a,q1,q2,q3⟩|⟨q2,q3⟩
 rotate_left
 have hno:∀a,(id,a)∉l:=h2.o.1 (by have:=Lk (xs:=em) (k:=id) (j:=id);rw[q3,if_pos rfl]at this;exact this)
 rw[ad7 hno]at h;have hfin:=hid (h _ B ⟨im,ie,ip,ii,em,ec,pm,pc,dm,dc,hM2.ix,h2,h3,h4⟩ hM2.bes λi hi=>.inl hi);rw[alv]at hfin;clear h hM0 hM1 hM2 h1 h2 h3 h4 hg q3 hno;refine ala nO ?_;exact aa hfin.o;have ha:(id,a)∈l:=(h2 id a).1 q1;have hao:=hg.ats _ ha;have hem:=h2.drop id;have hok2:cW (ij em id) ec:=h1.eok.filter _;have hie:ie<L.length:=(ald.1 h1.en).1;have hBie:B ie:=(h4 ie).2 aoA;obtain⟨n1,n2,n3,n4,m1,m2,m3,m4,m5,m6,m7,m8,m9,m10⟩:=h1.ne;rw[show(L++[Blk.cells [.ptr it 0]]).length=L.length+1 by simp]at hM2;have hM3:=hM2.ownSet hBie (hM2.ix.enSet hok2);have hst:∀(X:List Blk) c,(L++X).set ie c=L.set ie c++X:=λX c=>ama _ _ hie
 have gl:∀(X:List Blk) c{i:Nat}{b:Blk},ie≠i->L[i]?=some b->(L.set ie c++X)[i]?=some b:=λX c {i b} n e=>by rw[alm (by simpa using(ald.1 e).1),alE n];exact e
 have b1:∀X c,(L.set ie c++X)[it]?=some (.cells [.lmap im,.lmap ie,.lmap ip,.lmap ii]):=λX c=>gl X c m2.symm h1.st
 have b5:∀c,(L.set ie c).length=L.length:=λc=>aoA
 have b2:∀X c,(L.set ie c++X)[ip]?=some (.map (a7 AV.str AV.lmap pm) pc):=λX c=>gl X c m8 h1.pr
 have b3:∀a c (X:List Blk),(L.set ie c++a::X)[L.length]?=some a:=λa c X=>by rw[alH aoA];simp
 have b4:∀a c d (X:List Blk),(L.set ie c++a::d::X)[L.length+1]?=some d:=λa c d X=>by rw[alH aoA];simp
 have hM4:=hM3.app (.miter (some ip) pc [] pc);rw[alv,hst,show(L.set ie (agx (ij em id) ec)++([Blk.cells [.ptr it 0]]++[Blk.cells [.int .i64 id]])).length=L.length+2 by simp,alv]at hM4;replace hM4:=hid hM4;replace h:=hid h;replace hg:=hid hg;replace hao:=hid hao;replace hem:=hid hem;replace hpo:=hid h1.pok;replace hri:=hid h3;have hpk:=hid h1.pk;replace ha:=hid ha;clear hM0 hM1 hM2 hM3 h1 h2 h3 h4 hok2 hBie n1 n2 n3 n4 m1 m2 m3 m4 m5 m6 m7 m8 m9 m10 gl q1;refine ala nO ?_;refine ah (λn T' L'=>∃(seen:List Nat) (ps:List (bc (List UInt8) Nat)),n=(pm.filter λr => !seen.contains r.2.2).length/\Hid (yh pm ps seen)/\Hid (n9 L B B it im ie ip ii tm (ij em id) ec pm pc dm dc [(L.length+2,.miter (some ip) pc seen pc),(L.length+1,.cells [.int .i64 id]),(L.length,.cells [.ptr it 0])] (λf x=>x∈lG l f/\¬(x=id/\f∈ps.map (·.1))) (λk x=>x∈fP (ed tm) l k) L')/\T'=[(30,.ptr (L.length+2) 0),(2,.ptr L.length 0),(3,.ptr (L.length+1) 0),(4,.sl (bp a) a.length none)]) aoD ⟨[],[],rfl,hid yh.nil,hid (hM4.o.iff λf x _=>aoA),rfl⟩ ?_;clear hM4 b1 b2 b3 b4 b5 a1 a2 q2 q3 hst;rintro _ _ L' ⟨seen,ps,rfl,hcm,hM,rfl⟩;have hat:=hM.o.at (i:=L.length+2) ani;have hpr:=hM.o.ix.pr;have hnl:L.length+3<=L'.length:=(ald.1 hat).1;refine bu ?_;refine UY (i:=L.length+2) (j:=ip) (es:=a7 AV.str AV.lmap pm) aoB rfl hat hpr (λe he=>?_) (ale _) (λhall=>?_) (λe he hs=>?_);obtain⟨p,hp,rfl⟩:=alg.1 he;exact hpo.o.lt p hp;have hall2:=hcm.o.all hpo.o λx hx=>hall (GU AV.str AV.lmap x) (alg.2 ⟨x,hx,rfl⟩)
 have hx:=hM.o.at (i:=L.length) (b:=.cells [.ptr it 0]) aoA;have kk1:Hid (∀{K:alc},(∀L2,EaI (JX it im ie ip ii tm (ij em id) ec pm pc L.length (L.length+1) id (λf x=>x∈lG l f/\¬(x=id/\f∈ps.map (·.1))) (SW (λk x=>x∈fP (ed tm) l k) id)) (λi=>i=L.length\/i=L.length+1\/B i) L' [] (λk=>k∈d9 (ed tm) a) L2->K (.tup []) L2)->alb 53 [.ptr it 0,.sl (bp a) a.length none,.func 85 [.ptr L.length 0,.ptr (L.length+1) 0]] L' K):=@hid _ (λ{K} q=>by refine agz (JX.dok λks B L k K hj hk=>agB hj hk) hao.o.len hao.o.rise hao.o.sz hg.o.ok hg.o.key (hM.o.jx aoA aoA λk x=>?_) q;simp[SW])
 replace hall2:=hid hall2;clear hall hcm hat hpr;refine aoH ?_;intro L2 he;obtain⟨B',f1,f2,f3⟩:=hM.o.done aoA aoA he (VZ hri.o) hem.o (λf x hf=>by
  have h1:f∈ps.map (·.1):=by obtain⟨e,he,rfl⟩:=alg.1 ((hpk.o f).2 hf);exact alg.2 ⟨e,(hall2.o e).2 he,rfl⟩
  rw[Xq];simp only[h1,and_true,ne_eq]) (λks hk k x=>agA hri.o ha.o hk k x)
 refine a8 aoB ?_;exact d6 rfl trivial (aa (h.o L2 B' f1 f2 f3));obtain⟨p,hp,rfl⟩:=alg.1 he;clear he;have hs':seen.contains p.2.2=false:=hs;have hlt:=hid (ajk hp hs');have hcm':=hid (hcm.o.next hp);have hmat:=afK (ka:=AV.str) (va:=AV.lmap) (ck:=pc) (seen:=seen) hpo.o.born hp;have hgp:=ajw hM.o.ix hp;have hM2:=hM.o.turn (.miter (some ip) pc (seen++[p.2.2]) pc) aoA;obtain⟨fn,b,bn⟩:=p;simp only[GU]at *;clear hs hs' hcm hM hat hpr hp;obtain⟨L2,hL2⟩:=ak7 (L'.set (L.length+2) (Blk.miter (some ip) pc (seen++[bn]) pc));have hl2:L'.length=L2.length:=by rw[<- hL2];simp
 rw[hL2]at hM2⊢;clear hL2;have hat:=hM2.at (i:=L.length+2) ani;have hib:=hM2.at (i:=L.length+1) (b:=.cells [.int .i64 id]) aoA;have hpr:=hM2.ix.pr;have hBb:B b:=(hM2.own b).2 (by simp only[alj,alh];exact .inr (.inr (.inr (.inr (.inr (.inl (yy hgp)))))));obtain⟨xs,ck,s1,s2,s3,s4⟩:=hM2.ix.ps _ _ hgp;have hS:=sc.del s1 id s2 s3 s4;have hM3:=hid ((hM2.ownSet hBb (hM2.ix.pmSet hgp hS)).iff (Q':=λf x=>x∈lG l f/\¬(x=id/\f∈(ps++[(fn,b,bn)]).map (·.1))) λf x _=>by by_cases e:f=fn;subst e;rw[if_pos rfl];simp only[alM,alh,alr,amH,alB,or_true,and_true];constructor;rintro⟨⟨q1,_⟩,q2⟩;exact⟨q1,q2⟩;rintro⟨q1,q2⟩;exact⟨⟨q1,λw=>q2 w.1⟩,q2⟩;rw[if_neg e];simp only[alM,alh,alr,amH,alB,e,or_false])
 have hbl:=(ald.1 s1).1;rcases rN (va:=AV.bool) ta s2 id with⟨j',w,p1,p2,p3⟩|⟨p2,p3⟩;clear p1 s2 s3 s4 hS hM2 hgp hBb;refine aoH ?_;exact aoE hlt.o (CutL (b:=by simp;omega)) ⟨_,_,rfl,hcm',hM3,rfl⟩;have hset:L2.set b (.map (a7 (AV.int .i64) AV.bool xs) ck)=L2:=ac5 s1;rw[p3,hset]at hM3;clear p3 s2 s3 s4 hS hM2 hgp hBb;refine aoH ?_;exact aoE hlt.o (CutL (b:=by simp;omega)) ⟨_,_,rfl,hcm',hM3,rfl⟩
set_option maxHeartbeats 8000000
set_option maxRecDepth 100000
theorem acj{tm:TMp}{l:List aQ}(ho:IxO L it tm l B)(hg:IxG tm l){a:List Atr}(hao:p8 a)(h:∀L' B',IxO L' it tm (GR id a l) B'->bP B L L'->(∀i,B' i->B i\/L.length<=i)->K (.tup []) L'):
  alb 21 [.ptr it 0,.int .i64 id,.sl (bp a) a.length cap] L K:=by
 have kD:Hid (∀{K:alc},(∀L1 B1,Hid (IxO L1 it tm (cG id l) B1/\bP B (L++[.cells [.ptr it 0],.cells [.int .i64 id]]) L1/\∀i,B1 i->B i\/L.length+2<=i)->K (.tup []) L1)->alb 35 [.ptr it 0,.int .i64 id] (L++[.cells [.ptr it 0],.cells [.int .i64 id]]) K):=@hid _ (by
  intro K q;refine afW (ho.app _) hg λL1 B1 g1 g2 g3=>q L1 B1 (hid ⟨g1,g2,λi hi=>?_⟩)
  have:=g3 i hi;simpa using this)
 have hlt:=hid (λi (hi:B i)=>ho.lt hi);have hri:=hid ho.rise;replace h:=hid h;replace hg:=hid hg;replace hao:=hid hao;clear ho;refine ala LL ?_;refine kD.o λL1 B1 h1=>?_
 clear kD;have hbx:L1[L.length]?=some (.cells [.ptr it 0]):=by
  refine h1.o.2.1.get aoA λe=>?_
  have:=hlt.o _ e;omega
 have hbi:L1[L.length+1]?=some (.cells [.int .i64 id]):=by
  refine h1.o.2.1.get aoA λe=>?_
  have:=hlt.o _ e;omega
 have hM0:Hid (∃im ie ip ii em ec pm pc dm dc,n9 L B B1 it im ie ip ii tm em ec pm pc dm dc [(L.length+1,.cells [.int .i64 id]),(L.length,.cells [.ptr it 0])] (λf x=>x∈lG (cG id l) f) (λk x=>x∈fP (ed tm) (cG id l) k) L1/\P9 em (cG id l)):=hid (by
  obtain⟨⟨im,ie,ip,ii,em,ec,pm,pc,dm,dc,g1,g2,g3,g4⟩,g5,g6⟩:=h1.o;refine⟨im,ie,ip,ii,em,ec,pm,pc,dm,dc,⟨g1,g4,?_,λi hi=>?_,λp hp=>?_⟩,g2⟩;exact⟨by have:=g5.len;simp at this;omega,λi hi hn=>by rw[g5.eq i (by simp;omega) hn,alm hi]⟩;rcases g6 i hi with e|e;exact .inl e;exact .inr aoz;have key:∀i,L.length<=i->i<L.length+2->¬B1 i:=λi i1 i2 e=>by rcases g6 i e with e|e;have:=hlt.o i e;omega;omega
  simp only[alj,ana,or_false]at hp;rcases hp with rfl|rfl;exact⟨key _ aoA aoA,hbi,aoA⟩;exact⟨key _ aoA aoA,hbx,aoA⟩)
 clear h1 hbx hbi;have hall:=hid hao.o.len;refine wk ?_;refine bt (l:=[]) (n:=0) 6 2 rfl (alG 2).symm ?_;refine ah (λm T' L'=>∃(k:Nat) (C:List AV) (X:List Blk),m=a.length-k/\k<=a.length/\C=bp (a.take k)/\T'=[(17,.int .i64 (k:Int)),(16,.int .i64 a.length),(15,.sl (bp a) a.length cap),(6,.gsl C k L1.length 2),(4,.ptr (L.length+1) 0),(3,.ptr L.length 0)]/\L'=L1++(.spare k 2::X)) aoD ⟨0,[],[],rfl,ali _,rfl,rfl,rfl⟩ ?_;rintro _ _ _ ⟨k,C,X,rfl,hk,hC,rfl,rfl⟩;have hall2:=hall.o;by_cases hlk:k<a.length;have g1:(k:Int)<(a.length:Int):=aoz;have g2:=ak9 k aoz;have e3:=rh hlk;have e4:k*2+2<=(bp a).length:=by rw[p6];omega
 obtain⟨⟨nm,vs⟩,ha⟩:∃x,a.getD k ([],[])=x:=⟨_,rfl⟩;have htk:bp (a.take (k+1))=bp (a.take k)++[.str nm,.sl (vs.map AV.str) vs.length none]:=by rw[aly hlk,Sh,show a[k]=(nm,vs)by rw[<- ha];simp[hlk]];rfl
 have hvs:=(hao.o.sz (nm,vs) (by rw[<- ha];simp[hlk])).2;simp only at hvs;rw[ha]at e3;simp only[atA]at e3;have e0:AV.frzL (vs.map AV.str)=vs.map AV.str:=eB vs;replace htk:=hid htk;replace hC:=hid hC;have kk1:Hid (∀{c:Option Nat}{L:List Blk}{K:alc},K (.sl (vs.map AV.str) vs.length none) L->alb 51 [.sl (vs.map AV.str) vs.length c] L K):=@hid _ (by intro c L K q;exact agK aoz q);clear ha;refine wk ?_;exact aoE aoz aoC ⟨k+1,_,_,rfl,hlk,by rw[htk.o,hC.o],rfl,rfl⟩;have hke:k=a.length:=aoz;subst hke;have g1:¬(a.length:Int)<(a.length:Int):=aoz;rw[alt]at hC;subst hC;obtain⟨im,ie,ip,ii,em,ec,pm,pc,dm,dc,hM1,hem⟩:=hM0.o;have hM:=hM1.apps (.spare a.length 2::X);obtain⟨L2,hL2⟩:=ak7 (L1 ++ .spare a.length 2::X);have hl12:L1.length+1<=L2.length:=by rw[<- hL2];simp
 rw[hL2]at hM⊢;clear hM1 hL2 hM0;refine aiX (T':=[(17,.int .i64 a.length),(16,.int .i64 a.length),(6,.sl (AV.frzL (bp a)) a.length none),(4,.ptr (L.length+1) 0),(3,.ptr L.length 0)]) (L':=L2) (CutS (b:=ale _)) ?_;rw[lW];have hno:bB em id=none:=hem.o.2 λb hb=>by have:=gn.1 hb;simp at this
 rcases c7 (va:=atV) ta hM.ix.eok id a with⟨j,w,q1,_⟩|⟨_,q2,q3,q4⟩;rw[hno]at q1;cases q1;have hem2:P9 (rB em id a ec) (GR id a l):=hem.put a;have hes:rB em id a ec=em++[(id,a,ec)]:=by unfold rB;rw[if_neg q4]
 rw[hes]at hem2 q3;have hie:ie<L2.length:=(ald.1 hM.ix.en).1;obtain⟨n1,n2,n3,n4,m1,m2,m3,m4,m5,m6,m7,m8,m9,m10⟩:=hM.ix.ne;have hM3:=hM.ownSet ((hM.own ie).2 aoA) (hM.ix.enSet (hM.ix.eok.add q4 (w:=a)));have hM4:=hM3.app (.miter (some im) tm.length [] tm.length);rw[aod]at hM4;have hbx:=hM.at (i:=L.length) (b:=.cells [.ptr it 0]) aoA;have hbi:=hM.at (i:=L.length+1) (b:=.cells [.int .i64 id]) aoA;have hl02:L.length+2<=L2.length:=(ald.1 hbi).1;have hst:=hM.ix.st;have hen:=hM.ix.en;have b1:∀c,(L2.set ie c)[L.length]?=some (.cells [.ptr it 0]):=λc=>by rw[alE λe=>by rw[<- e,hen]at hbx;cases hbx];exact hbx
 have b2:∀c,(L2.set ie c)[it]?=some (.cells [.lmap im,.lmap ie,.lmap ip,.lmap ii]):=λc=>by rw[alE m2.symm];exact hst
 have b3:∀c,(L2.set ie c)[im]?=some (.map (a7 AV.str tyV tm) tm.length):=λc=>by rw[alE m5.symm];exact hM.ix.ty
 have b5:∀c,(L2.set ie c).length=L2.length:=λc=>aoA
 have hki:bD .int (.int .i64 id)=true:=rfl;replace hM4:=hid hM4;replace hem2:=hid hem2;clear hM3 hM hem hno q4 hes n1 n2 n3 n4 m1 m2 m3 m4 m5 m6 m7 m8 m9 m10 hie hk hlk hall2;refine wk ?_;refine ah (λn T' L'=>∃(seen:List Nat) (ps:TMp),n=(tm.filter λr => !seen.contains r.2.2).length/\Hid (yh tm ps seen)/\Hid (n9 L B B1 it im ie ip ii tm (em++[(id,a,ec)]) (ec+1) pm pc dm dc [(L2.length,.miter (some im) tm.length seen tm.length),(L.length+1,.cells [.int .i64 id]),(L.length,.cells [.ptr it 0])] (λf x=>x∈lG (cG id l) f\/(x=id/\f∈ps.map (·.1)/\cx a f≠[])) (λk x=>x∈fP (ed tm) (cG id l) k) L')/\T'=[(41,.ptr L2.length 0),(6,.sl (bp a) a.length none),(4,.ptr (L.length+1) 0),(3,.ptr L.length 0)]) aoD ⟨[],[],rfl,hid yh.nil,hid (hM4.o.iff λf x _=>aoA),rfl⟩ ?_;clear hM4 b1 b2 b3 b5 hbx hbi hst hen q2 q3;rintro _ _ L' ⟨seen,ps,rfl,hcm,hM,rfl⟩;have hat:=hM.o.at (i:=L2.length) ani;have hty:=hM.o.ix.ty;have hnl:L2.length+1<=L'.length:=(ald.1 hat).1;refine bu ?_;refine UY (i:=L2.length) (j:=im) (es:=a7 AV.str tyV tm) aoB rfl hat hty (λe he=>?_) (ale _) (λhal2=>?_) (λe he hs=>?_);obtain⟨p,hp,rfl⟩:=alg.1 he;exact hg.o.ok.lt p hp;have hall2:=hcm.o.all hg.o.ok λx hx=>hal2 (GU AV.str tyV x) (alg.2 ⟨x,hx,rfl⟩)
 have hx:=hM.o.at (i:=L.length) (b:=.cells [.ptr it 0]) aoA;have kk1:Hid (∀{K:alc},(∀L3,EaI (JX it im ie ip ii tm (em++[(id,a,ec)]) (ec+1) pm pc L.length (L.length+1) id (λf x=>x∈lG (cG id l) f\/(x=id/\f∈ps.map (·.1)/\cx a f≠[])) (WK (λk x=>x∈fP (ed tm) (cG id l) k) id)) (λi=>i=L.length\/i=L.length+1\/B1 i) L' [] (λk=>k∈d9 (ed tm) a) L3->K (AV.tup []) L3)->alb 53 [.ptr it 0,.sl (bp a) a.length none,.func 54 [.ptr L.length 0,.ptr (L.length+1) 0]] L' K):=@hid _ (λ{K} q=>by refine agz (JX.dok λks B L k K hj hk=>ah2 hj hk) hao.o.len hao.o.rise hao.o.sz hg.o.ok hg.o.key (hM.o.jx aoA aoA λk x=>?_) q;simp[WK])
 replace hall2:=hid hall2;clear hal2 hcm hat hty;refine aoH ?_;intro L3 he;obtain⟨B',f1,f2,f3⟩:=hM.o.done aoA aoA he (ado hri.o) hem2.o (λf x hf=>by
  have h1:f∈ps.map (·.1):=by obtain⟨e,he,rfl⟩:=alg.1 hf;exact alg.2 ⟨e,(hall2.o e).2 he,rfl⟩
  rw[Xq,afn];simp only[h1,true_and]) (λks hk k x=>afk hk k x)
 refine a8 aoB ?_;exact d6 rfl trivial (aa (h.o L3 B' f1 f2 f3));obtain⟨p,hp,rfl⟩:=alg.1 he;clear he;have hs':seen.contains p.2.2=false:=hs;have hlt2:=hid (ajk hp hs');have hcm':=hid (hcm.o.next hp);have hmat:=afK (ka:=AV.str) (va:=tyV) (ck:=tm.length) (seen:=seen) hg.o.ok.born hp;have hfr:=hg.o.key p hp;have hpin:p.1∈tm.map (·.1):=alg.2 ⟨p,hp,rfl⟩;have hM2:=hM.o.turn (.miter (some im) tm.length (seen++[p.2.2]) tm.length) (by simp;omega);obtain⟨fn,ty,bn⟩:=p;simp only[GU]at *;clear hs hs' hcm hM hat hty hp;obtain⟨L4,hL4⟩:=ak7 (L'.set L2.length (Blk.miter (some im) tm.length (seen++[bn]) tm.length));have hl4:L'.length=L4.length:=by rw[<- hL4];simp
 rw[hL4]at hM2⊢;clear hL4;have hat:=hM2.at (i:=L2.length) ani;have hty:=hM2.ix.ty;obtain⟨vs,hvs⟩:=ak7 (cx a fn);have kk1:Hid (Ctr Tryz.prog 52 [.sl (bp a) a.length none,.str fn] (G9 vs)):=@hid _ (λ{L K} q=>agy hao.o.len hao.o.rise hao.o.sz hfr (by rw[hvs];exact q));by_cases hv0:vs=[];have hM3:=hid (hM2.iff (Q':=λf x=>x∈lG (cG id l) f\/(x=id/\f∈(ps++[(fn,ty,bn)]).map (·.1)/\cx a f≠[])) λf x _=>by
  have:f=fn->cx a f=[]:=λe=>by rw[e,hvs,hv0]
  by_cases e:f=fn;simp[this e];simp[e])
 subst hv0;clear hM2 hvs;refine aoH ?_;exact aoE hlt2.o (CutL (b:=by simp;omega)) ⟨_,_,rfl,hcm',hM3,rfl⟩;obtain⟨b,hgb⟩:∃b,bB pm fn=some b:=by
  cases hq:bB pm fn with
  |some b=>exact⟨b,rfl⟩
  |none=>exact absurd ((hM2.ix.pk fn).2 hpin) (rn.1 hq)
 have hBb:B1 b:=(hM2.own b).2 (by simp only[alj,alh];exact .inr (.inr (.inr (.inr (.inr (.inl (yy hgb)))))));obtain⟨xs,ck,s1,s2,s3,s4⟩:=hM2.ix.ps _ _ hgb;have hS:=sc.add s1 (hM2.ix.ps _ _ hgb) id s2 s3 s4;have hM3:=hid ((hM2.ownSet hBb (hM2.ix.pmSet hgb hS)).iff (Q':=λf x=>x∈lG (cG id l) f\/(x=id/\f∈(ps++[(fn,ty,bn)]).map (·.1)/\cx a f≠[])) λf x _=>by by_cases e:f=fn;subst e;rw[if_pos rfl];simp only[alM,alh,alr,amH,alB,or_true,true_and,hvs];constructor;rintro((q|⟨q,_⟩)|q);exact .inl q;exact .inr ⟨q,hv0⟩;exact .inr ⟨q,hv0⟩;rintro(q|⟨q,_⟩);exact .inl (.inl q);exact .inr q;rw[if_neg e];simp only[alM,alh,alr,amH,alB,e,or_false])
 obtain⟨j0,w0,y1,y2,_⟩:=rQ (va:=AV.lmap) rb (xs:=pm) (k:=fn) 0 hM2.ix.pok.keys ((hM2.ix.pk fn).2 hpin);rw[hgb]at y1;cases y1;rw[amy]at y2;have hbx:=hM2.at (i:=L.length) (b:=.cells [.ptr it 0]) aoA;have hbi:=hM2.at (i:=L.length+1) (b:=.cells [.int .i64 id]) aoA;have hst:=hM2.ix.st;have hpr:=hM2.ix.pr;have hks:bD .str (.str fn)=true:=rfl;have hv1:(vs.length:Int)>0:=by have:=amv.2 hv0;omega
 have hv2:(0:Int)<(vs.length:Int):=hv1;rcases c7 (va:=AV.bool) ta s2 id true with⟨j',w,p1,p2,p3,p4⟩|⟨p1,p2,p3,p4⟩;have hck:ckS xs id ck=ck:=if_pos p4;rw[hck]at hM3;clear hck p1 p4 s2 s3 s4 hS hM2 hgb hBb hvs hv0 hpin;refine aoH ?_;exact aoE hlt2.o (CutL (b:=by simp;omega)) ⟨_,_,rfl,hcm',hM3,rfl⟩;have hck:ckS xs id ck=ck+1:=if_neg p4;rw[hck]at hM3;clear hck p1 p4 s2 s3 s4 hS hM2 hgb hBb hvs hv0 hpin;refine aoH ?_;exact aoE hlt2.o (CutL (b:=by simp;omega)) ⟨_,_,rfl,hcm',hM3,rfl⟩
end Go.Proofs.YtcmfcpjnhephaaaGreatDoor.Av
