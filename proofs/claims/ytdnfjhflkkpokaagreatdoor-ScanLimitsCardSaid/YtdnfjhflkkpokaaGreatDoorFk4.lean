/- Joined texts of the walk, made small by a program. -/
import Derived.Test.YtdnfjhflkkpokaaGreatDoorFk3
import Derived.Scope
import Derived.Test.YtdnfjhflkkpokaaGreatDoorProg
set_option linter.unusedSimpArgs false
set_option linter.unusedVariables false
namespace Go.Proofs.YtdnfjhflkkpokaaGreatDoor.Av
open Go
variable {T':Tm}{L2 L':List Blk}{v:AV}{α:Type}{B:Nat}
def EQv(P:Program)(o:aw)(T:Tm)(L:List Blk)(v:AV)(L2:List Blk):Prop :=
 match o.op with
 | .call f xs=>match je T xs with
   |some args=>af P f args L λav L'=>av=v/\L'=L2
   |none=>False
 | .callv f xs=>match evX T f,je T xs with
   |some (.func g caps),some args=>af P g (args++caps) L λav L'=>av=v/\L'=L2
   |_,_=>False
 | lo=>match au T L lo with
   |some (c,av,L')=>c/\av=v/\L'=L2
   |none=>False
def EQ(P:Program)(o:aw)(T:Tm)(L:List Blk)(v:AV)(L2:List Blk):Prop :=
 match o.guard with
 |none=>EQv P o T L v L2
 | some (t,b)=>match ay T t with
   |some (.bool x)=>if x=b then EQv P o T L v L2 else v=.tup []/\L2=L
   |some (.tup [])=>v=.tup []/\L2=L
   |_=>False
theorem EQv.congr{P:Program}{o:aw}{T:Tm}{L:List Blk}(a:∀t∈o.op.tmps,ay T t=ay T' t)(b:EQv P o T L v L2):EQv P o T' L v L2:=by unfold EQv at b⊢;split at b;rename_i f xs e;rw[e]at a;rw[<- jJ (l:=xs) a];exact b;rename_i f xs e;rw[e]at a;simp only[LOp.tmps,apy]at a;rw[<- jJ (l:=xs) (λt c=>a t (.inr c)),<- aH (x:=f) (λt c=>a t (.inl c))];exact b;rw[<- Wd a];exact b
theorem EQ.congr{P:Program}{o:aw}{T:Tm}{L:List Blk}(h:∀t∈o.reads,ay T t=ay T' t)(a:EQ P o T L v L2):EQ P o T' L v L2:=by
 have c:∀t∈o.op.tmps,ay T t=ay T' t:=λt f=>h t (by simp[aw.reads,f])
 unfold EQ at a⊢;split at a;exact a.congr c;rename_i t b d;rw[<- h t (by simp[aw.reads,d])];split at a;split at a;rename_i e;rw[if_pos e];exact a.congr c;simp[*];omega;omega
theorem EQv.aop{P:Program}{o:aw}{T:Tm}{L:List Blk}(a:EQv P o T L v L2):AOp P o (λT' L'=>T'=dj o.dst v T/\L'=L2) T L:=by
 unfold EQv at a;unfold AOp;split at a;rename_i f xs e;simp only[e];split at a;rename_i args h;rw[h];exact af.mono a λav L' ⟨b,d⟩=>⟨by rw[b],d⟩
 simp_all;rename_i f xs e;simp only[e];split at a;rename_i g caps args l h;rw[l,h];exact af.mono a λav L' ⟨b,d⟩=>⟨by rw[b],d⟩
 simp_all;rename_i m b d;split at a;rename_i c av L' k;have i:Res (λT' L'=>T'=dj o.dst v T/\L'=L2) o.dst T (au T L o.op):=by rw[k];obtain⟨j,rfl,rfl⟩:=a;exact⟨j,rfl,rfl⟩
 simp_all;simp_all
theorem EQ.aops{P:Program}{o:aw}{T:Tm}{L:List Blk}(a:EQ P o T L v L2):nG P (λT' L'=>T'=dj o.dst v T/\L'=L2) [o] T L:=by unfold EQ at a;simp only[nG];split at a;rename_i c;simp only[c];exact a.aop;rename_i t b c;simp only[c];split at a;rename_i x d;rw[d,ED];split at a;rename_i e;rw[if_pos e];exact a.aop;simp[*];rename_i d;rw[d,ac9];exact⟨by rw[a.1],a.2.symm⟩;simp_all
def done(es:List Nat)(listed:Array Bool):Nat:=es.countP λe=>listed.getD e false
theorem Yi:∀(es:List Nat) (f:Nat->Bool) (m:Nat),(∀(j e:Nat),es[j]?=some e->f e=decide (j<m))->m<=es.length->es.countP f=m
 |[],f,m,_,hm=>by simp at hm;simp[hm]
 | e::es,f,0,h,_=>by
   refine asB.2 λx a=>?_
   obtain⟨j,b,rfl⟩:=aqn.1 a;have:=h j _ (apD b);simp[*]
 |e::es,f,m+1,h,hm=>by rw[List.countP_cons_of_pos (by have:=h 0 e rfl;simpa using this)];rw[Yi es f m (λj x a=>by have:=h (j+1) x (by simpa using a);rw[this];congr 1;simp) (by simpa using hm)]
theorem X8:∀(es:List Nat) (f:Nat->Bool),(∀(j i e d:Nat),es[j]?=some e->es[i]?=some d->j<i->f d=true->f e=true)->∀(j e:Nat),es[j]?=some e->f e=decide (j<es.countP f)
 |[],f,_,j,e,h=>by simp at h
 | x::es,f,hp,j,e,h=>by
   have o:=X8 es f λa b y z l m p=>hp (a+1) (b+1) y z (by simpa using l) (by simpa using m) asP
   by_cases g:f x=true
   .grind
   .have all:∀y∈es,f y=false:=λy c=>by
     obtain⟨k,n,rfl⟩:=aqn.1 c;rcases hf:f es[k]with _|_
     .rfl
     .exact absurd (hp 0 (k+1) x es[k] rfl asQ asP hf) g
    rw[List.countP_cons_of_neg g,asB.2 (λy c=>by simp[all y c])]
    grind
section
variable {P:Program}{r:Option Nat}{w0:World}{S0:SB}{N:Nat}{own:Nat->Nat}{ops:Array Oper}{L:List Blk}
theorem afY{O:List aw}{n:Nat}(a5:cR P N own ops (List.range ops.size)=some O)(a9:Oc ops O n=true){qs ts:List aw}(u:O=qs++ts)(hn:qs.length=n){es:List Nat}{Ms:Nat->List Blk}(bb:∀e∈es,e<qs.length)(a0:∀(j j' e e':Nat),es[j]?=some e->es[j']?=some e'->j<j'->((pl ops.toList []).getD e' 0).testBit e=true){K:Tm->List Blk->Prop}{T:Tm}{Q:Exit->Act->World->Prop}{E0:Env}{tr:List AV}(a3:tr.length=qs.length)(hq:∀(i:Nat) (o:aw) (v:AV),qs[i]?=some o->tr[i]?=some v->(∃m,es[m]?=some i/\EQ P o (TL T qs tr 0 λj=>decide (j<i)) (Ms m) v (Ms (m+1))) \/
   (i∉es/\∀m,m<=es.length->(∀(j e:Nat),es[j]?=some e->j<m->((pl ops.toList []).getD e 0).testBit i=false)->(∀(j e:Nat),es[j]?=some e->m<=j->((pl ops.toList []).getD i 0).testBit e=false)->AQ P o (TL T qs tr 0 λj=>decide (j<i)) (Ms m) v))(hK:nG P K ts (TL T qs tr 0 λ_=>true) (Ms es.length))(hQ:∀E' T' L' a' w',E0.le E'->K T' L'->St w0 S0 N E' T' L' a' w'->Q .normal a' w'):
  ∀(g:Nat) (b:Array Bool) (a:Act) (w:World) (E:Env),b.size=ops.size->b.toList.count false=g->Xo ops b->E0.le E ->
   (∀i,qs.length<=i->b.getD i false=false)->St w0 S0 N E (TL T qs tr 0 λj=>b.getD j false) (Ms (done es b)) a w->wpAnyIn (gR r) 0 P .any ops Q g b a w:=by
 simp only[Oc,apw]at a9;generalize htbl:pl ops.toList []=tbl at a9 a0 hq;obtain⟨⟨⟨⟨bl,bk⟩,c⟩,f⟩,S⟩:=a9;have a6:=EN a5;have bn:O.length=ops.size:=by simpa using a6.1
 have b1:∀i,i<ops.size->∃lo,O[i]?=some lo/\nJ P N own ops i=some lo:=λi hi=>a6.2 i i (by simp[hi])
 have hD:aeS qs:=by
  have:=aab bl;rw[u]at this;have sub:∀(qs ts:List aw),aeS (qs++ts)->aeS qs:=by
   intro qs;induction qs with
   |nil=>intro _ _;trivial
   |cons q qs ih=>intro ts h;exact⟨λp M=>h.1 p (by simp[M]),ih ts h.2⟩
  grind
 have an:qs.length+ts.length=ops.size:=by rw[<- bn,u];simp
 have z:∀b:Array Bool,b.size=ops.size->Region.ready .any ops b=[]->∀i,i<ops.size->b.getD i false=true:=by
  intro b y hr i;induction i using Nat.strongRecOn with
  | _ i ih =>
    intro hi;rcases Z:b.getD i false with _|_
    .exfalso;have:i∈Region.ready .any ops b:=by
      refine mem_ready.2 ⟨?_,ops[i],aqp hi,λe G b0=>?_⟩
      .have F:i<b.size:=asP;simp[aqV,F]at Z⊢;exact Z
      .have:=apF.1 c (ops[i],i) (by rw[arK];simp[hi])
       have:=apF.1 this e (by simpa using G);simp only[b0,arg,aqG,decide_eq_true_eq]at this;exact ih e.on this asP
     rw[hr]at this;cases this
    .rfl
 have Y:∀(b:Array Bool) (i:Nat),b.size=ops.size->i<ops.size->b.getD i true=b.getD i false:=λb i d X=>by have:i<b.size:=asP;simp[aqV,this]
 have R:∀(b:Array Bool) (a:Act) (w:World) (E:Env) (g:Nat),b.size=ops.size->b.toList.count false=g->Xo ops b->E0.le E->(∀i,qs.length<=i->b.getD i false=false)->St w0 S0 N E (TL T qs tr 0 λj=>b.getD j false) (Ms (done es b)) a w ->
   (∀i,i<qs.length->b.getD i false=true)->wpAnyIn (gR r) 0 P .any ops Q g b a w:=by
  intro b a w E g y B l hE C I x;have b6:TL T qs tr 0 (λj=>b.getD j false)=TL T qs tr 0 λ_=>true:=ac7 λj hj=>by simp only[aqA];exact x j hj
  have hL:Ms (done es b)=Ms es.length:=by congr 1;exact List.countP_eq_length.2 λe G=>x e (bb e G)
  rw[b6,hL]at I;have bi:O.drop qs.length=ts:=(by rw[u];simp);have a8:g=ts.length:=by
   rw[<- B,<- Nat.add_left_cancel_iff (n:=qs.length),an,<- y];have e:b.toList=List.replicate qs.length true++List.replicate (b.size-qs.length) false:=by
    apply arr;intro i;rcases apV i qs.length with d|d
    .have:=x i d;have D:i<b.size:=asP;rw[apx (by simpa using d)];simp[aqV,D]at this;simp[D,d,this]
    .rw[apH (by simpa using d)];have:=C i d;rcases apV i b.size with X|X
     .simp[aqV,X]at this;simp only[List.length_replicate];rw[List.getElem?_replicate];rw[if_pos asP];simp[X,this]
     .rw[ard (by simpa using X),ard (by simp;omega)]
   rw[e];simp[List.count_append,List.count_replicate];omega
  rw[a8];exact ae2 a5 c f S hQ ts qs.length b _ _ a w E asP an bi y (λi hi=>by
   rcases apV i qs.length with d|d
   .rw[x i d];simpa using d
   .rw[C i d];simpa using d) l hE I hK
 intro g;induction g with
 | zero =>
   intro b a w E y B l hE C I;have hr:Region.ready .any ops b=[]:=by
    refine List.eq_nil_iff_forall_not_mem.2 λi hi=>?_
    obtain⟨d,o,ho,_⟩:=mem_ready.1 hi;have F:i<ops.size:=(aqh.1 ho).1;have:false∈b.toList:=by have D:i<b.size:=asP;simp[aqV,D]at d;rw[<- d];simp
    rw[List.count_eq_zero]at B;exact B this
   exact R b a w E 0 y B l hE C I λi hi=>z b y hr i asP
 | succ g ih =>
   intro b a w E y B l hE C I;by_cases x:∀i,i<qs.length->b.getD i false=true
   .exact R b a w E _ y B l hE C I x
   refine⟨λhr=>absurd (λi hi=>z b y hr i asP) x,λi hi=>?_⟩;obtain⟨b4,o,ho,a1⟩:=mem_ready.1 hi;have F:i<ops.size:=(aqh.1 ho).1;have J:b.getD i false=false:=(by rw[<- Y b i y F];exact b4);obtain⟨lo,av,a7⟩:=b1 i F;have s:∀V,ops[i]?=some V->∀e∈V.after,Region.binds .any e=true->b.getD e.on false=true:=λV A=>by rw[ho]at A;cases A;exact a1
   have H:∀k,(b.setIfInBounds i true).getD k false=if k=i then true else b.getD k false:=λk=>by
    by_cases e:k=i
    .subst e;have:k<b.size:=asP;simp[aqV,this]
    .rw[if_neg e];exact getD_set_ne false (Ne.symm e)
   have al:(b.setIfInBounds i true).toList.count false=g:=by
    have D:i<b.size:=asP;have:=ah4 b.toList i (by simp[aqV,D]at J;simp[D,J])
    rw[Array.toList_setIfInBounds];omega
   have a4:Xo ops (b.setIfInBounds i true):=λk V hk A e G Z=>by
    rw[H]at hk⊢;by_cases U:e.on=i
    .rw[if_pos U]
    .rw[if_neg U];by_cases e2:k=i
     .subst e2;exact s V A e G Z
     .rw[if_neg e2]at hk;exact l k V hk A e G Z
   rcases apV i qs.length with bo|bo
   .
    have a2:qs[i]?=some lo:=by rw[u,apx bo]at av;exact av
    have bs:i<tr.length:=asP;have ad:∀t∈lo.reads,ay (TL T qs tr 0 λj=>decide (j<i)) t=ay (TL T qs tr 0 λj=>b.getD j false) t:=by
     intro t ht;by_cases hw:∃(j:Nat) (p:aw),qs[j]?=some p/\p.dst=some t
     .obtain⟨j,p,M,W⟩:=hw;have bt:j<qs.length:=(aps.1 M).1;rw[ac5 hD a3 M W,ac5 hD a3 M W];have b5:O[j]?=some p:=(by rw[u,apx bt];exact M);have:=apF.1 bk (lo,i) (by rw[arK];simpa using av);have:=apF.1 this t ht;have:=apF.1 this (p,j) (by rw[arK];simpa using b5);simp only[W,beq_self_eq_true,arg,aqG,aqf,aqW]at this;rcases this with d|d
      .have U:=acY c f _ _ asP d;have e2:=gT c f l i j F s d;simp only[decide_eq_true_eq,if_pos U,if_pos e2]
      .have U:=acY c f _ _ asP d;have e2:b.getD j false=false:=by
        rcases Z:b.getD j false with _|_
        .rfl
        .have:=gT c f l j i asP (λV A=>l j V Z A) d;rw[J]at this;cases this
       simp only[decide_eq_true_eq,if_neg (show ¬j<i by omega),e2,apL,if_false]
     .have hno:∀(j:Nat) (p:aw),qs[j]?=some p->p.dst≠some t:=λj p M W=>hw ⟨j,p,M,W⟩
      rw[ac6 hno,ac6 hno]
    have ar:∀(t:Nat) (v:AV),ay (TL T qs tr 0 λj=>(b.setIfInBounds i true).getD j false) t=some v->ay (dj lo.dst tr[i] (TL T qs tr 0 λj=>b.getD j false)) t=some v:=by
     intro t v hv;by_cases hw:∃(j:Nat) (p:aw),qs[j]?=some p/\p.dst=some t
     .obtain⟨j,p,M,W⟩:=hw;rw[ac5 hD a3 M W]at hv;by_cases e:j=i
      .subst e;rw[a2]at M;cases M;rw[W,V1];rw[if_pos (by rw[H,if_pos rfl]),apD bs]at hv;exact hv
      .have hne:lo.dst≠some t:=λe'=>e (OC hD M a2 W e')
       rw[EP hne,ac5 hD a3 M W];simp only[H,if_neg e]at hv;exact hv
     .have hno:∀(j:Nat) (p:aw),qs[j]?=some p->p.dst≠some t:=λj p M W=>hw ⟨j,p,M,W⟩
      rw[ac6 hno]at hv;rw[EP (hno i lo a2),ac6 hno];exact hv
    have ap:∀k,qs.length<=k->(b.setIfInBounds i true).getD k false=false:=λk hk=>by rw[H,if_neg asP];exact C k hk
    have L:∀j e,es[j]?=some e->b.getD e false=decide (j<done es b):=X8 es _ λj j' e e' d X h3 h4=>by have D:e'<ops.size:=(by have:=bb e' (aqj X);omega);exact gT c f l e' e D (λV A=>l e' V h4 A) (a0 j j' e e' d X h3)
    have b3:done es b<=es.length:=List.countP_le_length;rcases hq i lo tr[i] a2 (apD bs)with⟨m,g1,g2⟩|⟨g1,g2⟩
    .have hm:done es b=m:=by
      have d:=L m i g1;rw[J]at d;have X:¬m<done es b:=(by simpa using d.symm);rcases apV (done es b) m with h3|h3
      .obtain⟨e,G⟩:∃e,es[done es b]?=some e:=⟨_,apD (by have:=(aps.1 g1).1;omega)⟩;have h4:=L _ e G;rw[gT c f l i e F s (a0 _ _ e i G g1 h3)]at h4;simp at h4
      .omega
     have b2:done es (b.setIfInBounds i true)=m+1:=by
      refine Yi es _ (m+1) (λj e G=>?_) (by have:=(aps.1 g1).1;omega);rw[H];by_cases U:e=i
      .subst U;rw[if_pos rfl];rcases arL j m with h3|h3|h3
       .simp;omega
       .simp;omega
       .have:=acY c f e e F (a0 m j e e g1 G h3);omega
      .rw[if_neg U,L j e G,hm];have:j≠m:=λe2=>by subst e2;rw[g1]at G;cases G;exact U rfl
       congr 1;simp only[eq_iff_iff];omega
     rw[hm]at I;refine aaL a7 I (EQ.aops (EQ.congr ad g2)) λE' T' L' a' w' a_ ⟨U,e2⟩ ai=>ih _ a' w' E' (by simpa using y) al a4 (hE.trans a_) ap ?_
     subst U;subst e2;rw[b2];exact ai.weak ar rfl λ_ _ e=>.inr e
    .have hL:done es (b.setIfInBounds i true)=done es b:=by
      unfold done;refine List.countP_congr λe G=>?_
      rw[H,if_neg (λU:e=i=>g1 (U▸G))]
     have bx:=g2 (done es b) b3 (λj e G hj=>by
      rcases Z:(tbl.getD e 0).testBit i with _|_
      .rfl
      .have d:=L j e G;rw[decide_eq_true hj]at d;have D:e<ops.size:=(by have:=bb e (aqj G);omega);have:=gT c f l e i D (λV A=>l e V d A) Z;rw[J]at this;cases this) (λj e G hj=>by
      rcases Z:(tbl.getD i 0).testBit e with _|_
      .rfl
      .have d:=L j e G;rw[gT c f l i e F s Z]at d;have:=of_decide_eq_true d.symm;omega)
     refine akC a7 I (bx.congr ad) λE' a' w' a_ ai=>ih _ a' w' E' (by simpa using y) al a4 (hE.trans a_) ap ?_
     rw[hL];exact ai.weak ar rfl λ_ _ e=>.inr e
   .
    refine absurd (λj hj=>?_) x;have d:=apF.1 S i (by simpa using F);simp only[aqf,decide_eq_true_eq]at d;rcases d with X|X
    .omega
    .have h3:=apF.1 X j (by simp;omega);exact gT c f l i j F s h3
end
inductive Kd where
 |pure
 |read (n f:Nat)
 |eff
 deriving Inhabited,DecidableEq
abbrev pi:=Nat×aw×Tm×AV
def J0(P:Program)(L:List Blk):List pi->Prop
 |[]=>True
 |(_,o,T,v)::h=>AQ P o T L v/\J0 P L h
def ST:List pi->List pi
 |[]=>[]
 |(0,_)::h=>ST h
 |(1,_)::h=>ST h
 |(n+2,y)::h=>(n+1,y)::ST h
def afs(f:Nat)(o:aw)(T:Tm)(v:AV)(H:List pi):List pi :=
 match f with
 |0=>H
 |f+1=>(f+1,o,T,v)::H
def AG(P:Program)(K:Tm->List Blk->Prop):List (aw×Kd)->List (List Blk)->List pi->Tm->Prop
 |[],L::_,_,T=>K T L
 |(o,.pure)::r,L::Ls,H,T=>∃v,AQ P o T L v/\AG P K r (L::Ls) H (dj o.dst v T)
 |(o,.read n f)::r,L::Ls,H,T=>∃v,(∀L'∈(L::Ls).take (n+1),AQ P o T L' v)/\AG P K r (L::Ls) (afs f o T v H) (dj o.dst v T)
 |(o,.eff)::r,L::Ls,H,T=>∃v L2,EQ P o T L v L2/\J0 P L2 H/\AG P K r (L2::L::Ls) (ST H) (dj o.dst v T)
 |_,[],_,_=>False
def oX:List (aw×Kd)->Nat
 |[]=>0
 |(_,.eff)::r=>oX r+1
 |_::r=>oX r
def mem(Ns:List (List Blk))(m:Nat):List Blk:=Ns.reverse.getD m []
theorem EM{X Ls:List (List Blk)}{m:Nat}(h:m<Ls.length):mem (X++Ls) m=Ls.getD (Ls.length-1-m) []:=by
 simp only[mem,List.reverse_append,apO]
 grind
theorem ace{P:Program}{L:List Blk}:∀{H:List pi},J0 P L H->∀y∈H,AQ P y.2.1 y.2.2.1 L y.2.2.2
 |[],_,y,a=>by cases a
 | (f,o,T,v)::h,hr,y,a=>by
   rcases apP.1 a with rfl|a
   .exact hr.1
   .exact ace hr.2 y a
theorem Wg:∀{H:List pi}{y:pi},y∈H->1<y.1->(y.1-1,y.2)∈ST H
 |[],y,a,_=>by cases a
 | (0,z)::h,y,a,h1=>by
   rcases apP.1 a with rfl|a
   .omega
   .show(y.1-1,y.2)∈ST h;exact Wg a h1
 | (1,z)::h,y,a,h1=>by
   rcases apP.1 a with rfl|a
   .omega
   .show(y.1-1,y.2)∈ST h;exact Wg a h1
 | (n+2,z)::h,y,a,h1=>by
   rcases apP.1 a with rfl|a
   .simp[ST]
   .exact aqU _ (Wg a h1)
def agS(P:Program)(o:aw)(T:Tm)(Ns:List (List Blk))(v:AV)(c:Nat):Kd->Prop
 |.pure=>AQ P o T (mem Ns c) v
 |.read n f=>∀m,c-n<=m->m<=c+f->m<Ns.length->AQ P o T (mem Ns m) v
 |.eff=>EQ P o T (mem Ns c) v (mem Ns (c+1))
theorem akV{P:Program}{K:Tm->List Blk->Prop}:∀(qk:List (aw×Kd)) (Ls:List (List Blk)) (H:List pi) (T:Tm) (k:Nat),AG P K qk Ls H T ->
  ∃(tr:List AV) (X:List (List Blk)),tr.length=qk.length/\X.length=oX qk /\
   (∀y∈H,∀m,Ls.length<=m->m<Ls.length+y.1->m<(X++Ls).length->AQ P y.2.1 y.2.2.1 (mem (X++Ls) m) y.2.2.2) /\
   (∀i o kd v,qk[i]?=some (o,kd)->tr[i]?=some v->agS P o (TL T (qk.map (·.1)) tr k λj=>decide (j<k+i)) (X++Ls) v (Ls.length-1+oX (qk.take i)) kd) /\
   K (TL T (qk.map (·.1)) tr k λ_=>true) (mem (X++Ls) ((X++Ls).length-1)):=by
 intro qk;induction qk with
 | nil =>
   intro Ls H T k h;cases Ls with
   |nil=>exact h.elim
   | cons L Ls =>
     refine⟨[],[],rfl,rfl,λy _ m s _ I=>?_,λi o kd v a=>by simp at a,?_⟩
     .grind
     .rw[apZ,<- apZ (L::Ls),EM asQ];have F:K T L:=h;simpa[TL]using F
 | cons q qk ih =>
   intro Ls H T k h;cases Ls with
   |nil=>rcases q with⟨o,_|_|_⟩<;>exact h.elim
   | cons L Ls =>
     obtain⟨o,kd⟩:=q;have g:∀(v:AV) (tr:List AV),TL T (((o,kd)::qk).map (·.1)) (v::tr) k (λj=>decide (j<k+0))=T:=λv tr=>by
      have e:TL T (((o,kd)::qk).map (·.1)) (v::tr) k (λj=>decide (j<k+0))=TL T (((o,kd)::qk).map (·.1)) (v::tr) k (λ_=>false):=ac7 λj _=>asQ
      rw[e];exact aeJ _ _ _ _
     have d:∀(v:AV) (tr:List AV) (i:Nat),TL T (((o,kd)::qk).map (·.1)) (v::tr) k (λj=>decide (j<k+(i+1)))=TL (dj o.dst v T) (qk.map (·.1)) tr (k+1) (λj=>decide (j<k+1+i)):=λv tr i=>by
      simp only[apX,TL]
      grind
     have r:∀(v:AV) (tr:List AV),TL T (((o,kd)::qk).map (·.1)) (v::tr) k (λ_=>true)=TL (dj o.dst v T) (qk.map (·.1)) tr (k+1) (λ_=>true):=λv tr=>by rfl
     cases kd with
     | pure =>
       obtain⟨v,s,w⟩:=h;obtain⟨tr,X,g1,x,g3,g4,t⟩:=ih _ _ _ (k+1) w;refine⟨v::tr,X,by simp[g1],x,g3,λi p kd u a b=>?_,by rw[r];exact t⟩;cases i with
       | zero =>
         simp only[aqm,apu,apI]at a b;obtain⟨rfl,rfl⟩:=a;subst b;rw[g];simp only[aqX,oX,aqz,agS];rw[EM asQ];simpa using s
       | succ i =>
         rw[d];exact g4 i p kd u (by simpa using a) (by simpa using b)
     | read n f =>
       obtain⟨v,s,w⟩:=h;obtain⟨tr,X,g1,x,g3,g4,t⟩:=ih _ _ _ (k+1) w;have D:∀y∈H,y∈afs f o T v H:=λy l=>by
        unfold afs;split
        .exact l
        .exact aqU _ l
       refine⟨v::tr,X,by simp[g1],x,λy l=>g3 y (D y l),λi p kd u a b=>?_,by rw[r];exact t⟩;cases i with
       | zero =>
         simp only[aqm,apu,apI]at a b;obtain⟨rfl,rfl⟩:=a;subst b;rw[g];simp only[aqX,oX,aqz,agS];intro m B A z;rcases apV m (L::Ls).length with c|c
         .rw[EM c];refine s _ ?_;have C:(L::Ls).length-1-m<(L::Ls).length:=asP;rw[apO,apD C,aql];rw[List.mem_take_iff_getElem];refine⟨(L::Ls).length-1-m,?_,rfl⟩;simp only[apC]at B c C⊢;omega
         .cases f with
          |zero=>simp only[apC]at A c;omega
          |succ f=>exact g3 (f+1,o,T,v) (by simp[afs]) m c (by simp only[apC]at A c⊢;omega) z
       | succ i =>
         rw[d];exact g4 i p kd u (by simpa using a) (by simpa using b)
     | eff =>
       obtain⟨v,L2,s,G,w⟩:=h;obtain⟨tr,X,g1,x,g3,g4,t⟩:=ih _ _ _ (k+1) w;have e:(X++[L2])++(L::Ls)=X++(L2::L::Ls):=asQ;refine⟨v::tr,X++[L2],by simp[g1],by simp[oX,x],λy l m B A z=>?_,λi p kd u a b=>?_,by rw[r,e];exact t⟩
       .rw[e]at z⊢;rcases Nat.eq_or_lt_of_le B with c|c
        .subst c;rw[EM asQ];have:=ace G y l;simpa using this
        .exact g3 _ (Wg l asP) m (by simp only[apC]at c⊢;omega) (by simp only[apC]at A⊢;omega) z
       rw[e];cases i with
       | zero =>
         simp only[aqm,apu,apI]at a b;obtain⟨rfl,rfl⟩:=a;subst b;rw[g];simp only[aqX,oX,aqz,agS];rw[EM (by simp only[apC];omega),EM (by simp only[apC];omega)];simpa using s
       | succ i =>
         rw[d];have:=g4 i p kd u (by simpa using a) (by simpa using b);have E:(L2::L::Ls).length-1+oX (qk.take i)=(L::Ls).length-1+oX (((o,Kd.eff)::qk).take (i+1)):=by simp only[apC,aq4,oX];omega
         rw[E]at this;exact this
def LOp.pureB:LOp->Bool
 |.mv _|.pick .. |.build .. |.bin .. |.un .. |.faddr .. |.extract .. |.mkfn .. |.conv .. |.sconv .. |.eqk .. |.eq2 ..=>true
 |_=>false
theorem alK{P:Program}{o:aw}{T:Tm}{L:List Blk}(f:o.op.pureB=true)(h:AQ P o T L v):AQ P o T L' v:=by
 have key:∀{c:Prop}{av:AV}{L2:List Blk},au T L o.op=some (c,av,L2)->au T L' o.op=some (c,av,L'):=λ{c av L2} b=>by
  have e:au T L' o.op=(au T L o.op).map λx=>(x.1,x.2.1,L'):=by obtain⟨d,op,g⟩:=o;cases op<;>simp only[LOp.pureB,apL]at f<;>simp only[au]<;>(repeat' split)<;>simp[Option.map_map,Function.comp_def]
  simp[*]
 have a:AQv P o T L v->AQv P o T L' v:=λa=>by
  unfold AQv at a⊢;obtain⟨d,op,g⟩:=o;cases op<;>simp only[LOp.pureB,apL]at f<;>simp only at a⊢<;>(
   split at a
   .rename_i c av L2 b;rw[key b];exact⟨a.1,a.2.1,rfl⟩
   .exact a.elim)
 unfold AQ at h⊢;split at h;simp[*]
 grind
def fc:List (aw×Kd)->Nat->List Nat
 |[],_=>[]
 |(_,.eff)::r,k=>k::fc r (k+1)
 |_::r,k=>fc r (k+1)
theorem nL:∀(qk:List (aw×Kd)) (k:Nat),(fc qk k).length=oX qk
 |[],_=>rfl
 |(_,.pure)::r,k=>nL r (k+1)
 |(_,.read _ _)::r,k=>nL r (k+1)
 |(_,.eff)::r,k=>by simp[fc,oX,nL r (k+1)]
theorem aaa:∀(qk:List (aw×Kd)) (k i:Nat) (o:aw),qk[i]?=some (o,.eff)->(fc qk k)[oX (qk.take i)]?=some (k+i)
 |[],_,i,o,h=>by simp at h
 |(p,kd)::r,k,0,o,h=>by obtain⟨rfl,rfl⟩:=h;rfl
 |(p,kd)::r,k,i+1,o,h=>by have a:=aaa r (k+1) i o (by simpa using h);rw[show k+1+i=k+(i+1)by omega]at a;cases kd<;>simpa[fc,oX]using a
theorem Z9:∀(qk:List (aw×Kd)) (k e:Nat),e∈fc qk k->∃i o,e=k+i/\qk[i]?=some (o,.eff)
 |[],_,e,h=>by simp[fc]at h
 | (p,kd)::r,k,e,h=>by
   have go:e∈fc r (k+1)->∃i o,e=k+i/\((p,kd)::r)[i]?=some (o,.eff):=λa=>by
    obtain⟨i,o,rfl,b⟩:=Z9 r (k+1) e a
    grind
   cases kd with
   |pure=>exact go h
   |read _ _=>exact go h
   | eff =>
     rcases apP.1 h with rfl|h
     .simp
     simp_all
def WF(tbl:List Nat)(qk:List (aw×Kd)):Bool :=
 let es:=fc qk 0
 ((List.range es.length).all λj'=>(List.range j').all λj=>(tbl.getD (es.getD j' 0) 0).testBit (es.getD j 0)) &&
 qk.zipIdx.all λ((o,kd),i)=>match kd with
  |.pure=>o.op.pureB
  |.eff=>true
  | .read n f=>let c:=oX (qk.take i)
    (List.range es.length).all λj=>(!decide (j<c-n) ||(tbl.getD i 0).testBit (es.getD j 0))&&(!decide (c+f<=j) ||(tbl.getD (es.getD j 0) 0).testBit i)
section
variable {P:Program}{r:Option Nat}{w0:World}{S0:SB}{N:Nat}{own:Nat->Nat}{ops:Array Oper}{L:List Blk}
theorem aeG{y:List aw}{n:Nat}(C:cR P N own ops (List.range ops.size)=some y)(H:Oc ops y n=true){qk:List (aw×Kd)}{ts:List aw}(p:y=qk.map (·.1)++ts)(hn:qk.length=n)(V:WF (pl ops.toList []) qk=true){K:Tm->List Blk->Prop}{T:Tm}{Q:Exit->Act->World->Prop}{E0:Env}(h:AG P (nG P K ts) qk [L] [] T)(hQ:∀E' T' L' a' w',E0.le E'->K T' L'->St w0 S0 N E' T' L' a' w'->Q .normal a' w')(a:Act)(w:World)(E:Env)(hE:E0.le E)(J:St w0 S0 N E T L a w):
  wpAnyIn (gR r) 0 P .any ops Q ops.size (Array.replicate ops.size false) a w:=by
 obtain⟨tr,X,g1,g2,-,g4,W⟩:=akV qk [L] [] T 0 h;have b:∀i,(Array.replicate ops.size false).getD i false=false:=λi=>by
  rw[aqV,Array.getElem?_replicate]
  grind
 simp only[WF,apw]at V;obtain⟨O,S⟩:=V;have s:=nL qk 0;have U:∀e∈fc qk 0,∃o,qk[e]?=some (o,.eff):=λe F=>by obtain⟨i,o,rfl,D⟩:=Z9 qk 0 e F;simp[*]
 have t:(X++[L]).length=oX qk+1:=by simp[g2]
 refine afY (T:=T) (K:=K) (qs:=qk.map (·.1)) (ts:=ts) (tr:=tr) (es:=fc qk 0) (Ms:=mem (X++[L])) C H p (by simpa using hn) (λe F=>?_) (λj Z e e' h1 D h3=>?_) (by simpa using g1) (λi o v A hv=>?_) ?_ hQ ops.size _ a w E asQ (by simp[List.count_replicate]) (λi o Y=>by rw[b]at Y;cases Y) hE (λi _=>b i) ?_
 grind
 have l2:Z<(fc qk 0).length:=(aps.1 D).1;have:=apF.1 (apF.1 O Z (by simpa using l2)) j (by simpa using h3);simp_all;rw[aqk,ap6]at A;obtain⟨⟨M,kd⟩,A,rfl⟩:=A;have G:=g4 i M kd v A hv;simp only[asC,aqR,aqA]at G;have z:=apF.1 S ((M,kd),i) (by rw[arK];simpa using A);have k:kd≠.eff->i∉fc qk 0:=λR F=>by obtain⟨o2,D⟩:=U i F;rw[A]at D;cases D;exact R rfl
 cases kd with
 | eff =>
   refine .inl ⟨oX (qk.take i),?_,G⟩;simpa using aaa qk 0 i M A
 |pure=>exact .inr ⟨k asQ,λm _ _ _=>alK (by simpa using z) G⟩
 | read n f =>
   refine .inr ⟨k asQ,λm hm p1 p2=>?_⟩;simp only at z;have B:=λj (hj:j<(fc qk 0).length)=>apF.1 z j (by simpa using hj)
   have ad:oX (qk.take i)<=(fc qk 0).length:=by
    have:∀(l:List (aw×Kd)) (i:Nat),oX (l.take i)<=oX l:=by
     intro l;induction l with
     |nil=>intro i;simp
     | cons q l ih =>
       intro i;cases i with
       |zero=>simp[oX]
       |succ i=>obtain⟨o,_|_|_⟩:=q<;>simp only[aq4,oX]<;>have:=ih i<;>omega
    rw[s];exact this qk i
   refine G m ?_ ?_ (by rw[t];omega)
   .rcases apV m (oX (qk.take i)-n)with d|u
    .have hme:m<(fc qk 0).length:=asP;have:=B m hme;simp only[apw,aqf,aqd,decide_eq_false_iff_not]at this;have I:=p2 m _ (apD hme) (apt _);rcases this.1 with c|c
     .exact absurd d c
     .rw[apO (l:=fc qk 0),apD hme]at c;simp only[aql]at c;rw[I]at c;cases c
    .exact u
   .rcases apV (oX (qk.take i)+f) m with d|u
    .have hme:oX (qk.take i)+f<(fc qk 0).length:=asP;have:=B _ hme;simp only[apw,aqf,aqd,decide_eq_false_iff_not]at this;have I:=p1 _ _ (apD hme) d;rcases this.2 with c|c
     .exact absurd (apt _) c
     .rw[apO (l:=fc qk 0),apD hme]at c;simp only[aql]at c;rw[I]at c;cases c
    .exact u
 rw[t]at W;rw[s];simpa using W
 .have e:TL T (qk.map (·.1)) tr 0 (λj=>(Array.replicate ops.size false).getD j false)=T:=by refine Eq.trans (ac7 (g:=λ_=>false) λj _=>b _) (aeJ _ tr T 0)
  have e2:done (fc qk 0) (Array.replicate ops.size false)=0:=asB.2 λx _=>by rw[b];simp
  rw[e,e2,EM asQ];simpa using J
end
inductive SOp where
 |op (o:aw)
 |grp (g:Option (Nat×Bool)) (t:Nat) (b:Bool) (body:List SOp) (d:Nat) (x:Opd)
 deriving Inhabited
def eD(g:Option (Nat×Bool))(t:Nat)(b:Bool)(d:Nat)(x:Opd):aw :=
 ⟨some d,.pick (.tmp t) (if b then x else .av (.bool true)) (if b then .av (.bool false)else x),g⟩
mutual
def SOp.flat:SOp->List aw
 |.op o=>[o]
 |.grp g t b body d x=>SOp.flatL body++[eD g t b d x]
def SOp.flatL:List SOp->List aw
 |[]=>[]
 |s::r=>SOp.flat s++SOp.flatL r
end
def bU(l:List aw):List Nat:=l.filterMap (·.dst)
def gds:List SOp->List Nat
 |[]=>[]
 |.op _::r=>gds r
 |.grp _ _ _ body _ _::r=>bU (SOp.flatL body)++gds r
def du:SOp->List Nat
 |.op o=>o.dst.toList
 |.grp _ _ _ _ d _=>[d]
mutual
def okO(g:Nat×Bool)(seen:List Nat):SOp->Bool
 |.op o=>decide (o.guard=some g)
 |.grp g' t b body d x=>decide (g'=some g)&&seen.contains t && !(bU (SOp.flatL body)).contains t && !(bU (SOp.flatL body)).contains g.1&&okB (t,b) [] body
def okB(g:Nat×Bool)(seen:List Nat):List SOp->Bool
 |[]=>true
 |s::r=>okO g seen s&&(du s).all (λd => !(gds r).contains d&&d != g.1)&&okB g (du s++seen) r
end
def okS:List SOp->Bool
 |[]=>true
 |.op o::r=>o.dst.toList.all (λd => !(gds r).contains d)&&okS r
 |.grp g t b body d x::r=>decide (g=none) && !(bU (SOp.flatL body)).contains t&&okB (t,b) [] body && !(gds r).contains d&&okS r
def mrg(b p q:Bool):Bool:=if b then p&&q else p ||q
def akR(P:Program)(f:FuncId)(args:List AV)(L:List Blk)(k:AV->Prop):Prop:=∃v,af P f args L (λav L'=>av=v/\L'=L)/\k v
theorem aM{P:Program}{f:FuncId}{args:List AV}{L:List Blk}{k:AV->Prop}(h:af P f args L (λav L'=>av=v/\L'=L))(a:k v):akR P f args L k:=⟨v,h,a⟩
def IsB:Option AV->Bool->Prop:=λo q=>o=some (.bool q)
theorem bK{q:Bool}:IsB (some (.bool q)) q:=rfl
def IsX(x:Opd)(q:Bool)(T:Tm):Prop:=IsB (evX T x) q
def akP(k:Tm->Prop)(d:Option Nat)(T:Tm)(v:AV):Prop:=k (dj d v T)
def ao3(P:Program)(f:FuncId)(L:List Blk)(k:AV->Prop):Option (List AV)->Prop
 |some args=>akR P f args L k
 |none=>False
def agU(P:Program)(L:List Blk)(k:AV->Prop):Option AV->Option (List AV)->Prop
 |some (.func g caps),some args=>akR P g (args++caps) L k
 |_,_=>False
def aoZ(L:List Blk)(k:AV->Prop):Option (Prop×AV×List Blk)->Prop
 |some (c,av,L')=>c/\L'=L/\k av
 |none=>False
def GOp(P:Program)(L:List Blk)(o:aw)(k:Tm->Prop)(T:Tm):Prop :=
 match o.op with
 |.call f xs=>ao3 P f L (akP k o.dst T) (je T xs)
 |.callv f xs=>agU P L (akP k o.dst T) (evX T f) (je T xs)
 |lo=>aoZ L (akP k o.dst T) (au T L lo)
mutual
def GL(P:Program)(L:List Blk):List SOp->(Tm->Prop)->Tm->Prop
 |[],k,T=>k T
 |s::r,k,T=>GO P L s (GL P L r k) T
def GO(P:Program)(L:List Blk):SOp->(Tm->Prop)->Tm->Prop
 |.op o,k,T=>GOp P L o k T
 | .grp _ t b body d x,k,T=>match ay T t with
   |some (.bool p)=>∃q,(p=b->GL P L body (IsX x q) T)/\k ((d,.bool (mrg b p q))::T)
   |_=>False
end
def GQ(P:Program)(L:List Blk)(b:Bool)(body:List SOp)(d:Nat)(x:Opd)(k:Tm->Prop)(T:Tm)(p:Bool):Prop :=
 ∃q,(p=b->GL P L body (IsX x q) T)/\k ((d,.bool (mrg b p q))::T)
def GG(P:Program)(L:List Blk)(b:Bool)(body:List SOp)(d:Nat)(x:Opd)(k:Tm->Prop)(T:Tm):Option AV->Prop
 |some (.bool p)=>GQ P L b body d x k T p
 |_=>False
theorem an3{P:Program}{L:List Blk}{k:Tm->Prop}{T:Tm}:GL P L [] k T=k T:=by rw[GL]
theorem ao2{P:Program}{L:List Blk}{o:aw}{r:List SOp}{k:Tm->Prop}{T:Tm}:GL P L (.op o::r) k T=GOp P L o (GL P L r k) T:=by rw[GL,GO]
theorem an4{P:Program}{L:List Blk}{g:Option (Nat×Bool)}{t d:Nat}{b:Bool}{body r:List SOp}{x:Opd}{k:Tm->Prop}{T:Tm}:GL P L (.grp g t b body d x::r) k T=GG P L b body d x (GL P L r k) T (ay T t):=by rw[GL,GO];rfl
theorem amz{P:Program}{L:List Blk}{d:Nat}{b p:Bool}{body:List SOp}{x:Opd}{k:Tm->Prop}{T:Tm}:GG P L b body d x k T (some (.bool p))=GQ P L b body d x k T p:=rfl
theorem ao1{P:Program}{L:List Blk}{d:Nat}{body:List SOp}{x:Opd}{k:Tm->Prop}{T:Tm}:GQ P L true body d x k T false=k ((d,.bool false)::T):=by simp[GQ,mrg]
theorem ao0{P:Program}{L:List Blk}{d:Nat}{body:List SOp}{x:Opd}{k:Tm->Prop}{T:Tm}:GQ P L false body d x k T true=k ((d,.bool true)::T):=by simp[GQ,mrg]
def SL(P:Program):List SOp->(Tm->List Blk->Prop)->Tm->List Blk->Prop
 |[],K,T,L=>K T L
 | .op o::r,K,T,L=>match o.guard with
   |none=>AOp P o (SL P r K) T L
   |some (t,b)=>Grd P o (SL P r K) b T L (ay T t)
 |.grp _ t b body d x::r,K,T,L=>GG P L b body d x (λT'=>SL P r K T' L) T (ay T t)
def SK(P:Program)(r:List SOp)(K:Tm->List Blk->Prop)(L:List Blk)(T:Tm):Prop:=SL P r K T L
theorem aoW{P:Program}{r:List SOp}{K:Tm->List Blk->Prop}{L:List Blk}{T:Tm}:SK P r K L T=SL P r K T L:=rfl
theorem anY{P:Program}{K:Tm->List Blk->Prop}{L:List Blk}{T:Tm}:SL P [] K T L=K T L:=rfl
theorem aoV{P:Program}{d:Option Nat}{op:LOp}{r:List SOp}{K:Tm->List Blk->Prop}{L:List Blk}{T:Tm}:SL P (.op ⟨d,op,none⟩::r) K T L=AOp P ⟨d,op,none⟩ (SL P r K) T L:=rfl
theorem anX{P:Program}{d:Option Nat}{op:LOp}{t:Nat}{b:Bool}{r:List SOp}{K:Tm->List Blk->Prop}{L:List Blk}{T:Tm}:SL P (.op ⟨d,op,some (t,b)⟩::r) K T L=Grd P ⟨d,op,some (t,b)⟩ (SL P r K) b T L (ay T t):=rfl
theorem anZ{P:Program}{g:Option (Nat×Bool)}{t d:Nat}{b:Bool}{body r:List SOp}{x:Opd}{K:Tm->List Blk->Prop}{L:List Blk}{T:Tm}:SL P (.grp g t b body d x::r) K T L=GG P L b body d x (SK P r K L) T (ay T t):=rfl
def sel:List Bool->Tm->Tm
 |[],T=>T
 |true::m,x::T=>x::sel m T
 |false::m,_::T=>sel m T
 |_::_,[]=>[]
theorem agn{T:Tm}:sel [] T=T:=by cases T<;>rfl
theorem amG{m:List Bool}{x:Nat×AV}{T:Tm}:sel (true::m) (x::T)=x::sel m T:=rfl
theorem amH{m:List Bool}{x:Nat×AV}{T:Tm}:sel (false::m) (x::T)=sel m T:=rfl
section
variable {P:Program}{ro:Option Nat}{w0:World}{S0:SB}{N:Nat}
def Fr(ds:List Nat)(T:Tm):Prop:=∀d∈ds,ay T d=none
theorem oZ{d:Option Nat}{v:AV}{T:Tm}{t:Nat}(h:d≠some t):ay (dj d v T) t=ay T t:=by
 cases d with
 |none=>rfl
 |some d=>simp only[dj,ay];rw[if_neg (λe=>h (by rw[e]))]
theorem iU{own:Nat->Nat}{ops:Array Oper}:∀{l m:List aw}{is:List Nat},cR P N own ops is=some (l++m)->∃a ks,is=a++ks/\cR P N own ops a=some l/\cR P N own ops ks=some m
 |[],m,is,h=>⟨[],is,rfl,rfl,h⟩
 | o::l,m,is,h=>by
   cases is with
   |nil=>simp[cR]at h
   | cons i is =>
     simp only[cR]at h;split at h<;>try cases h
     rename_i f e d c;obtain⟨a,ks,rfl,b,h4⟩:=iU (l:=l) (m:=m) c;refine⟨i::a,ks,rfl,?_,h4⟩;simp only[cR,d,b]
theorem ny{own:Nat->Nat}{ops:Array Oper}{o:aw}{is:List Nat}(h:cR P N own ops is=some [o]):∃i,is=[i]/\nJ P N own ops i=some o:=by
 cases is with
 |nil=>simp[cR]at h
 | cons i is =>
   simp only[cR]at h;split at h<;>try cases h
   rename_i d c b a;cases is with
   |nil=>exact⟨i,rfl,b⟩
   | cons j is =>
     simp only[cR]at a;split at a<;>cases a
theorem YV{own:Nat->Nat}{ops:Array Oper}{K:Tm->List Blk->Prop}{Q:Exit->Act->World->Prop}{i:Nat}{f:aw}{rest:List Nat}(v:nJ P N own ops i=some f){T:Tm}{L:List Blk}{E:Env}{a:Act}{w:World}(d:St w0 S0 N E T L a w)(l:f.guard=none\/∃t b,f.guard=some (t,b)/\ay T t=some (.bool b))(h:AOp P f K T L)(u:∀E' T' L' n w',E.le E'->K T' L'->St w0 S0 N E' T' L' n w'->wpOpsIn (gR ro) 0 P ops Q rest n w'):wpOpsIn (gR ro) 0 P ops Q (i::rest) a w:=by
 obtain⟨o,x,g,c,y,k⟩:=jc v;obtain⟨z,r,A⟩:=f;simp only at g c k l;subst c;simp only[wpOpsIn,x];have s:Region.wanted o (yielded ops a.tmps)=true:=by rcases k with⟨g1,m⟩|⟨j,b,t,g1,m,g3,g4⟩;simp[Region.wanted,g1];subst g4;rcases l with l|⟨t',B,e,p⟩;cases l;cases e;have q:=kz (E:=E) (T:=T) (a:=a) (ops:=ops) d.2.1 m (by rw[d.2.2.1];exact g3);simp[Region.wanted,g1,q.1 b p]
 rw[if_pos s];exact OS g y d h u
theorem ZF{own:Nat->Nat}{ops:Array Oper}{Q:Exit->Act->World->Prop}{i:Nat}{h:aw}{rest:List Nat}(q:nJ P N own ops i=some h){T:Tm}{L:List Blk}{E:Env}{a:Act}{w:World}(d:St w0 S0 N E T L a w){t:Nat}{b:Bool}(g:h.guard=some (t,b))(e:ay T t=some (.bool (!b))\/ay T t=some (.tup []))(n:∀p,St w0 S0 N E (dj h.dst (.tup []) T) L p w->wpOpsIn (gR ro) 0 P ops Q rest p w):wpOpsIn (gR ro) 0 P ops Q (i::rest) a w:=by
 obtain⟨o,v,k,c,r,f⟩:=jc q;obtain⟨x,s,y⟩:=h;simp only at k c f g n;subst c;simp only[wpOpsIn,v];have u:Region.wanted o (yielded ops a.tmps)=false:=by rcases f with⟨g1,l⟩|⟨j,z,t',g1,l,g3,g4⟩;rw[l]at g;cases g;rw[g4]at g;cases g;have m:=kz (E:=E) (T:=T) (a:=a) (ops:=ops) d.2.1 l (by rw[d.2.2.1];exact g3);rcases e with e|e;simp[Region.wanted,g1,m.1 _ e];simp[Region.wanted,g1,m.2 e]
 rw[if_neg (by simp[u])];exact⟨λ_ _=>trivial,n _ (TB d r)⟩
def Ext(ds:List Nat)(T T':Tm):Prop:=∀t v,t∉ds->ay T t=some v->ay T' t=some v
mutual
theorem am7{own:Nat->Nat}{ops:Array Oper}{Q:Exit->Act->World->Prop}{L:List Blk}{E:Env}{w:World}(s:SOp){g:Nat×Bool}{seen:List Nat}{is rest:List Nat}{T:Tm}{a:Act}(c:okO g seen s=true)(A:cR P N own ops is=some s.flat)(q:St w0 S0 N E T L a w)(I:ay T g.1=some (.bool (!g.2))\/ay T g.1=some (.tup []))(l:∀d∈seen,ay T d=some (.tup []))(z:∀T' u,Ext (bU s.flat) T T'->(∀d,ay T d=some (.tup [])->ay T' d=some (.tup []))->(∀d∈du s,ay T' d=some (.tup []))->St w0 S0 N E T' L u w->wpOpsIn (gR ro) 0 P ops Q rest u w):wpOpsIn (gR ro) 0 P ops Q (is++rest) a w:=by
 have r:∀(y:Option Nat) (T:Tm) (d:Nat),ay T d=some (.tup [])->ay (dj y (.tup []) T) d=some (.tup []):=λy T d h=>by
  cases y with
  |none=>exact h
  | some y =>
    simp only[dj,ay];split
    .rfl
    .exact h
 cases s with
 | op o =>
   simp only[SOp.flat]at A z;obtain⟨i,rfl,C⟩:=ny A;simp only[okO,decide_eq_true_eq]at c;refine ZF C q (t:=g.1) (b:=g.2) c I λu F=>z _ u (λt v n D=>?_) (r _ _) (λd m=>?_) F
   .rw[oZ (λe=>n (by simp[bU,e]))];exact D
   .simp only[du,asi]at m;rw[m];simp[dj,ay]
 | grp g' t b body d x =>
   simp only[okO,apw,decide_eq_true_eq,aqW,aqd,aqv,decide_eq_false_iff_not]at c;obtain⟨⟨⟨⟨G,n⟩,O⟩,B⟩,J⟩:=c;simp only[SOp.flat]at A z;obtain⟨S,ks,rfl,C,R⟩:=iU A;obtain⟨i,rfl,M⟩:=ny R;rw[apG];refine YQ body J C q (.inr (l t (by simpa using n))) asQ λT' u j f p=>?_
   refine ZF M p (t:=g.1) (b:=g.2) (by simp[eD,G]) ?_ λH k=>z _ H (λt v n D=>?_) (λd m=>r _ _ _ (f d m)) (λd m=>?_) k
   .exact I.imp (λh=>j _ _ B h) (λh=>f _ h)
   .rw[oZ (λe=>n (by simp only[eD]at e;simp[bU,eD,e]))];exact j t v (λK=>n (by simp only[bU,aqY,apy];exact .inl K)) D
   .simp only[du,apT]at m;subst m;simp[eD,dj,ay]
theorem YQ{own:Nat->Nat}{ops:Array Oper}{Q:Exit->Act->World->Prop}{L:List Blk}{E:Env}{w:World}(l:List SOp){g:Nat×Bool}{seen:List Nat}{is rest:List Nat}{T:Tm}{a:Act}(n:okB g seen l=true)(k:cR P N own ops is=some (SOp.flatL l))(p:St w0 S0 N E T L a w)(F:ay T g.1=some (.bool (!g.2))\/ay T g.1=some (.tup []))(e:∀d∈seen,ay T d=some (.tup []))(q:∀T' D,Ext (bU (SOp.flatL l)) T T'->(∀d,ay T d=some (.tup [])->ay T' d=some (.tup []))->St w0 S0 N E T' L D w->wpOpsIn (gR ro) 0 P ops Q rest D w):wpOpsIn (gR ro) 0 P ops Q (is++rest) a w:=by
 cases l with
 | nil =>
   simp only[SOp.flatL]at k q;have:is=[]:=by
    cases is with
    |nil=>rfl
    | cons i is =>
      simp only[cR]at k;split at k<;>cases k
   subst this;exact q T a (λ_ _ _ h=>h) (λ_ h=>h) p
 | cons s r =>
   simp only[okB,apw,apF,aqd,bne_iff_ne]at n;obtain⟨⟨u,H⟩,M⟩:=n;simp only[SOp.flatL]at k q;obtain⟨S,ks,rfl,h4,R⟩:=iU k;rw[apG];refine am7 s u h4 p F e λT' D G y O m=>?_
   have A:ay T' g.1=some (.bool (!g.2))\/ay T' g.1=some (.tup []):=by
    by_cases c:g.1∈bU s.flat
    .cases s with
     | op o =>
       simp only[bU,SOp.flat,List.filterMap_cons,List.filterMap_nil]at c;cases f:o.dst with
       |none=>simp[f]at c
       | some d =>
         simp[f]at c;exact absurd c.symm (H d (by simp[du,f])).2
     | grp g' t b body d x =>
       simp only[okO,apw,aqd,aqv,decide_eq_false_iff_not]at u;simp only[bU,SOp.flat,aqY,apy]at c;rcases c with c|c
       .exact absurd c u.1.2
       .simp[eD]at c;exact absurd c.symm (H d (by simp[du])).2
    .exact F.imp (G _ _ c) (y _)
   refine YQ r M R m A (λd f=>?_) λz C I K j=>q z C (λt v B J=>?_) (λd f=>K d (y d f)) j
   .rcases apy.1 f with f|f
    .exact O d f
    .exact y d (e d f)
   .simp only[bU,aqY,apy,not_or]at B;exact I t v B.2 (G t v B.1 J)
end
theorem Fr.put{ds:List Nat}{T:Tm}{d:Option Nat}{v:AV}(h:Fr ds T)(b:∀k,d=some k->k∉ds):Fr ds (dj d v T):=λk a=>by rw[oZ (λe=>b k e a)];exact h k a
mutual
theorem akd(s:SOp):∀d∈gds [s],d∈bU s.flat:=by
 cases s with
 |op o=>simp[gds]
 | grp g t b body d x =>
   intro u a;simp only[gds,ap4]at a;simp only[SOp.flat,bU,aqY,apy];exact .inl a
end
theorem V7(s:SOp)(r:List SOp):gds (s::r)=gds [s]++gds r:=by cases s<;>simp[gds]
theorem V6:∀(l:List SOp),∀d∈gds l,d∈bU (SOp.flatL l)
 |[],d,h=>by simp[gds]at h
 |s::r,d,h=>by rw[V7,apy]at h;simp only[SOp.flatL,bU,aqY,apy];exact h.imp (akd s d) (V6 r d)
theorem adL(s:SOp):∀d∈du s,d∈bU s.flat:=by
 cases s with
 | op o =>
   intro d a;simp only[du,asi]at a;simp[SOp.flat,bU,a]
 | grp g t b body d x =>
   intro u c;simp only[du,apT]at c;subst c;simp[SOp.flat,bU,eD]
mutual
theorem anD{own:Nat->Nat}{ops:Array Oper}{Q:Exit->Act->World->Prop}{L:List Blk}(s:SOp){g:Nat×Bool}{seen:List Nat}{is rest:List Nat}{T:Tm}{a:Act}{E:Env}{w:World}{k:Tm->Prop}(hok:okO g seen s=true)(hl:cR P N own ops is=some s.flat)(hst:St w0 S0 N E T L a w)(hx:ay T g.1=some (.bool g.2))(hfr:∀d∈gds [s],ay T d=none)(h:GO P L s k T)(hK:∀E' T' a' w',E.le E'->k T'->Ext (du s) T T'->(∀d,d∉du s->ay T d=none->ay T' d=none)->St w0 S0 N E' T' L a' w'->wpOpsIn (gR ro) 0 P ops Q rest a' w'):wpOpsIn (gR ro) 0 P ops Q (is++rest) a w:=by
 cases s with
 | op o =>
   simp only[SOp.flat]at hl;obtain⟨i,rfl,h1⟩:=ny hl;simp only[okO,decide_eq_true_eq]at hok;simp only[GO]at h;have ext:∀v,Ext (du (.op o)) T (dj o.dst v T):=λv t x ht hv=>by rw[oZ (λe=>ht (by simp[du,e]))];exact hv
   have fre:∀v d,d∉du (.op o)->ay T d=none->ay (dj o.dst v T) d=none:=λv d hd hn=>by rw[oZ (λe=>hd (by simp[du,e]))];exact hn
   have hA:AOp P o (λT' L'=>L'=L/\∃v,T'=dj o.dst v T/\k T') T L:=by
    obtain⟨d,op,gd⟩:=o;have call:∀{f:FuncId}{args:List AV},akR P f args L (akP k d T)->af P f args L (Kon (λT' L'=>L'=L/\∃v,T'=dj d v T/\k T') d T):=λ{f args} ⟨v,h1,h2⟩ =>
     h1.mono λav L' ⟨e1,e2⟩=>by subst e1;subst e2;exact⟨rfl,av,rfl,h2⟩
    simp only[GOp]at h;simp only[AOp];cases op
    case call f xs =>
     simp only at h⊢;cases he:je T xs with
     |none=>rw[he]at h;exact h.elim
     |some args=>rw[he]at h;exact call h
    case callv f xs =>
     simp only at h⊢;cases hf:evX T f with
     |none=>rw[hf]at h;exact h.elim
     | some u =>
       rw[hf]at h;cases he:je T xs with
       |none=>rw[he]at h;cases u<;>exact h.elim
       | some args =>
         rw[he]at h;cases u<;>simp only[agU]at h;exact call h
    all_goals
     simp only at h⊢;generalize au T L _=r at h⊢;cases r with
     |none=>exact h.elim
     | some r =>
       obtain⟨c,av,L'⟩:=r;exact⟨h.1,h.2.1,av,rfl,h.2.2⟩
   refine YV h1 hst (.inr ⟨g.1,g.2,hok,hx⟩) hA λE' T' L' a' w' hle ⟨e1,v,e2,hk⟩ hst'=>?_
   subst e1;subst e2;exact hK E' _ a' w' hle hk (ext v) (fre v) hst'
 | grp g' t b body d x =>
   simp only[okO,apw,decide_eq_true_eq,aqd,aqv,decide_eq_false_iff_not]at hok;obtain⟨⟨⟨⟨hg',ht⟩,htb⟩,hgb⟩,hb⟩:=hok;simp only[SOp.flat]at hl;obtain⟨js,ks,rfl,h1,h2⟩:=iU hl;obtain⟨i,rfl,h3⟩:=ny h2;rw[apG];simp only[GO]at h;have hfr':Fr (bU (SOp.flatL body)) T:=λd' hd'=>hfr d' (by simp[gds,hd'])
   have fin:∀{E':Env}{T':Tm}{a':Act}{w':World}(p q:Bool),E.le E'->St w0 S0 N E' T' L a' w'->Ext (bU (SOp.flatL body)) T T'->ay T t=some (.bool p)->(p=b->evX T' x=some (.bool q))->k ((d,.bool (mrg b p q))::T)->wpOpsIn (gR ro) 0 P ops Q ([i]++rest) a' w':=λ{E' T' a' w'} p q hle hst' hext hp hq hk=>by
    have hv:au T' L (.pick (.tmp t) (if b then x else .av (.bool true)) (if b then .av (.bool false)else x))=some (True,.bool (mrg b p q),L):=by have ht':ay T' t=some (.bool p):=hext _ _ htb hp;cases b<;>cases p<;>simp[au,evX,ht',mrg]<;>exact hq rfl
    refine YV h3 hst' (.inr ⟨g.1,g.2,by simp[eD,hg'],hext _ _ hgb hx⟩) (K:=λT'' L''=>T''=(d,.bool (mrg b p q))::T'/\L''=L) ?_ λE'' T'' L'' a'' w'' hle' ⟨e1,e2⟩ hst''=>?_
    .simp only[eD,AOp,hv,Res,dj,and_self]
    .subst e1;subst e2;refine hK E'' ((d,.bool (mrg b p q))::T) a'' w'' (hle.trans hle') hk (λu v hu hv=>?_) (λu hu hn=>?_) ⟨hst''.1,hst''.2.1.weak λu v hu=>?_,hst''.2.2⟩
     .simp only[du,apT]at hu;simp only[ay];rw[if_neg (Ne.symm hu)];exact hv
     .simp only[du,apT]at hu;simp only[ay];rw[if_neg (Ne.symm hu)];exact hn
     .simp only[ay]at hu⊢;split
      .rename_i e;rw[if_pos e]at hu;exact hu
      .rename_i e;rw[if_neg e]at hu;refine hext u v (λhm=>?_) hu;rw[hfr' u hm]at hu;cases hu
   rcases hp:ay T t with _|u
   .rw[hp]at h;exact h.elim
   rw[hp]at h;cases u<;>try exact h.elim
   rename_i p;obtain⟨q,hq,hk⟩:=h;by_cases e:p=b
   .subst e;refine acM body hb h1 hst hp (λd hd=>hfr' d (V6 body d hd)) (hq rfl) λE' T' a' w' hle hx' hext hst'=>fin p q hle hst' hext hp (λ_=>hx') hk
   .have:p = !b:=(by cases p<;>cases b<;>simp_all);refine YQ body hb h1 hst (.inl (by rw[hp,this])) asQ λT' a' hext _ hst'=>fin p q (.refl E) hst' hext hp (λe'=>absurd e' e) hk
theorem acM{own:Nat->Nat}{ops:Array Oper}{Q:Exit->Act->World->Prop}{L:List Blk}(l:List SOp){g:Nat×Bool}{seen:List Nat}{is rest:List Nat}{T:Tm}{a:Act}{E:Env}{w:World}{k:Tm->Prop}(m:okB g seen l=true)(e:cR P N own ops is=some (SOp.flatL l))(n:St w0 S0 N E T L a w)(F:ay T g.1=some (.bool g.2))(b:Fr (gds l) T)(h:GL P L l k T)(H:∀E' T' D w',E.le E'->k T'->Ext (bU (SOp.flatL l)) T T'->St w0 S0 N E' T' L D w'->wpOpsIn (gR ro) 0 P ops Q rest D w'):wpOpsIn (gR ro) 0 P ops Q (is++rest) a w:=by
 cases l with
 | nil =>
   simp only[SOp.flatL]at e;have:is=[]:=by
    cases is with
    |nil=>rfl
    | cons i is =>
      simp only[cR]at e;split at e<;>cases e
   subst this;rw[GL]at h;exact H E T a w (.refl E) h (λ_ _ _ h=>h) n
 | cons s r =>
   simp only[okB,apw,apF,aqd,bne_iff_ne,aqv,decide_eq_false_iff_not]at m;obtain⟨⟨J,I⟩,R⟩:=m;simp only[SOp.flatL]at e;obtain⟨U,ks,rfl,h4,S⟩:=iU e;rw[apG];rw[GL]at h;rw[V7]at b;refine anD s J h4 n F (λd q=>b d (aqH _ q)) h λE' T' D w' u x G O f=>?_
   refine acM r R S f (G _ _ (λp=>(I _ p).2 rfl) F) (λd q=>O d (λp=>(I d p).1 q) (b d (arh _ q))) x λz A C y j o K c=>H z A C y (u.trans j) o (λt v B M=>?_) c
   simp only[SOp.flatL,bU,aqY,apy,not_or]at B;exact K t v B.2 (G t v (λp=>B.1 (adL s t p)) M)
end
theorem amE{o:aw}{K:Tm->List Blk->Prop}{T:Tm}{L:List Blk}(h:AOp P o K T L):AOp P o (λT' L'=>K T' L'/\∃v,T'=dj o.dst v T) T L:=by
 obtain⟨d,op,gd⟩:=o;have call:∀{f:FuncId}{args:List AV},af P f args L (Kon K d T)->af P f args L (Kon (λT' L'=>K T' L'/\∃v,T'=dj d v T) d T):=λ{f args} h=>h.mono λav L' h=>⟨h,av,rfl⟩
 simp only[AOp]at h⊢;cases op
 case call f xs =>
  simp only at h⊢;cases he:je T xs with
  |none=>rw[he]at h;exact h.elim
  |some args=>rw[he]at h;exact call h
 case callv f xs =>
  simp only at h⊢;cases hf:evX T f with
  |none=>rw[hf]at h;cases he:je T xs<;>rw[he]at h<;>exact h.elim
  | some u =>
    rw[hf]at h;cases he:je T xs with
    |none=>rw[he]at h;cases u<;>exact h.elim
    | some args =>
      rw[he]at h;cases u<;>simp only[aip]at h
      case yld i=>exact abi.mono h λav L' h=>⟨h,av,rfl⟩
      exact call h
 all_goals
  simp only at h⊢;generalize au T L _=r at h⊢;cases r with
  |none=>exact h.elim
  |some r=>exact⟨h.1,h.2,r.2.1,rfl⟩
theorem Ke{own:Nat->Nat}{ops:Array Oper}{Q:Exit->Act->World->Prop}{K:Tm->List Blk->Prop}:∀(l:List SOp){is:List Nat}{T:Tm}{L:List Blk}{a:Act}{E:Env}{w:World},okS l=true->cR P N own ops is=some (SOp.flatL l) ->
  St w0 S0 N E T L a w->Fr (gds l) T->SL P l K T L->(∀E' T' L' y w',E.le E'->K T' L'->St w0 S0 N E' T' L' y w'->Q .normal y w')->wpOpsIn (gR ro) 0 P ops Q is a w
 | [],is,T,L,a,E,w,hok,hl,hst,hfr,h,hK=>by
   simp only[SOp.flatL]at hl;have:is=[]:=by
    cases is with
    |nil=>rfl
    | cons i is =>
      simp only[cR]at hl;split at hl<;>cases hl
   subst this;exact hK E T L a w (.refl E) h hst
 | .op o::r,is,T,L,a,E,w,hok,hl,hst,hfr,h,hK=>by
   simp only[okS,apw,apF,asi,aqd,aqv,decide_eq_false_iff_not]at hok;simp only[SOp.flatL,SOp.flat,arX]at hl;obtain⟨js,ks,rfl,Y,X⟩:=iU (l:=[o]) hl;obtain⟨i,rfl,Z⟩:=ny Y;have D:∀v,Fr (gds r) (dj o.dst v T):=λv=>Fr.put (ds:=gds r) hfr λk C=>hok.1 k C
   have R:(o.guard=none\/∃t b,o.guard=some (t,b)/\ay T t=some (.bool b))->AOp P o (SL P r K) T L->wpOpsIn (gR ro) 0 P ops Q ([i]++ks) a w:=λm h =>
    YV Z hst m (amE h) λE' T' L' y w' s ⟨hs,v,e⟩ c=>by subst e;exact Ke r hok.2 X c (D v) hs λS z A U V n=>hK S z A U V (s.trans n)
   have F:∀t b,o.guard=some (t,b)->(ay T t=some (.bool (!b))\/ay T t=some (.tup []))->SL P r K (dj o.dst (.tup []) T) L->wpOpsIn (gR ro) 0 P ops Q ([i]++ks) a w:=λt b m H h =>
    ZF Z hst m H λy c=>Ke r hok.2 X c (D _) h hK
   rw[SL]at h;rcases m:o.guard with _|⟨t,b⟩
   .rw[m]at h;exact R (.inl m) h
   .rw[m]at h;simp only at h;rcases H:ay T t with _|u
    .rw[H]at h;exact h.elim
    rw[H]at h;cases u<;>try exact h.elim
    .rename_i x;rw[ED]at h;by_cases e:x=b
     .rw[if_pos e]at h;exact R (.inr ⟨t,b,m,by rw[H,e]⟩) h
     .rw[if_neg e]at h;have:x = !b:=(by cases x<;>cases b<;>simp_all);exact F t b m (.inl (by rw[H,this])) h
    .rename_i l;cases l with
     |cons _ _=>exact h.elim
     |nil=>exact F t b m (.inr H) h
 | .grp g t b body d x::r,is,T,L,a,E,w,hok,hl,hst,hfr,h,hK=>by
   simp only[okS,apw,decide_eq_true_eq,aqd,aqv,decide_eq_false_iff_not]at hok;obtain⟨⟨⟨⟨m,ad⟩,hb⟩,hd⟩,hr⟩:=hok;simp only[SOp.flatL,SOp.flat,apG]at hl;obtain⟨js,ap,rfl,Y,X⟩:=iU hl;obtain⟨ar,ks,rfl,an,h4⟩:=iU X;obtain⟨i,rfl,Z⟩:=ny an;rw[SL]at h;have G:Fr (bU (SOp.flatL body)) T:=λd' J=>hfr d' (by simp[gds,J])
   have W:Fr (gds r) T:=λd' J=>hfr d' (by simp[gds,J])
   have O:∀{E':Env}{T':Tm}{y:Act}{w':World}(p q:Bool),E.le E'->St w0 S0 N E' T' L y w'->Ext (bU (SOp.flatL body)) T T'->ay T t=some (.bool p)->(p=b->evX T' x=some (.bool q))->SL P r K ((d,.bool (mrg b p q))::T) L->wpOpsIn (gR ro) 0 P ops Q ([i]++ks) y w':=λ{E' T' y w'} p q s c f B hq C=>by
    have hv:au T' L (.pick (.tmp t) (if b then x else .av (.bool true)) (if b then .av (.bool false)else x))=some (True,.bool (mrg b p q),L):=by have ai:ay T' t=some (.bool p):=f _ _ ad B;cases b<;>cases p<;>simp[au,evX,ai,mrg]<;>exact hq rfl
    refine YV Z c (.inl (by simp[eD,m])) (K:=λz A=>z=(d,.bool (mrg b p q))::T'/\A=L) ?_ λS z A U V n ⟨e1,e2⟩ j=>?_
    .simp only[eD,AOp,hv,Res,dj,and_self]
    .subst e1;subst e2;refine Ke r hr h4 (T:=(d,.bool (mrg b p q))::T) ⟨j.1,j.2.1.weak λu v I=>?_,j.2.2⟩ (Fr.put (d:=some d) W λk C=>by cases C;exact hd) C λE3 T3 L3 a3 w3 M=>hK E3 T3 L3 a3 w3 ((s.trans n).trans M)
     simp only[ay]at I⊢;split
     .rename_i e;rw[if_pos e]at I;exact I
     .rename_i e;rw[if_neg e]at I;refine f u v (λhm=>?_) I;rw[G u hm]at I;cases I
   rcases B:ay T t with _|u
   .rw[B]at h;exact h.elim
   rw[B]at h;cases u<;>try exact h.elim
   rename_i p;obtain⟨q,hq,C⟩:=h;by_cases e:p=b
   .subst e;exact acM body hb Y hst B (λd hd=>G d (V6 body d hd)) (hq rfl) λE' T' y w' s al f c=>O p q s c f B (λ_=>al) C
   .have:p = !b:=(by cases p<;>cases b<;>simp_all);exact YQ body hb Y hst (.inl (by rw[B,this])) asQ λT' y f _ c=>O p q (.refl E) c f B (λe'=>absurd e' e) C
end
theorem ame{p b:Bool}(h:¬p=b):p = !b:=by cases p<;>cases b<;>simp_all
mutual
def acw(g:Option (Nat×Bool))(seen D:List Nat):SOp->Bool
 |.op o=>decide (o.guard=g)&&o.reads.all (λt => !D.contains t)
 |.grp g' t b body d x=>decide (g'=g)&&(g.isNone ||seen.contains t) && !D.contains t && !(bU (SOp.flatL body)).contains t&&(match g with|some g1 => !(bU (SOp.flatL body)).contains g1.1|none=>true) &&
  x.tmps.all (λt => !(D++gds body).contains t)&&okG (some (t,b)) [] D body
def okG(g:Option (Nat×Bool))(seen D:List Nat):List SOp->Bool
 |[]=>true
 |s::r=>acw g seen D s&&(du s).all (λd => !(D++gds [s]).contains d && !(gds r).contains d&&(match g with|some g1=>d != g1.1|none=>true))&&okG g (du s++seen) (D++gds [s]) r
end
section
variable {P:Program}{L:List Blk}{K:Tm->List Blk->Prop}
def AR(P:Program)(K:Tm->List Blk->Prop)(l:List aw)(L:List Blk)(T:Tm):Prop:=AG P K (l.map λo=>(o,.read 0 0)) [L] [] T
theorem aob{T:Tm}(h:K T L):AR P K [] L T:=h
theorem Y6{o:aw}{r:List aw}{T:Tm}{v:AV}(c:AQ P o T L v)(b:AR P K r L (dj o.dst v T)):AR P K (o::r) L T:=by refine⟨v,λL' a=>?_,b⟩;simp at a;subst a;exact c
def Agr(D:List Nat)(T T1:Tm):Prop:=∀t,t∉D->ay T1 t=ay T t
theorem Agr.put{D:List Nat}{T T1:Tm}(h:Agr D T T1)(d:Option Nat)(v:AV):Agr D (dj d v T) (dj d v T1):=λt a=>by
 cases d with
 |none=>exact h t a
 |some d=>simp only[dj,ay];split;rfl;exact h t a
theorem ad2{d:Option Nat}{T:Tm}{t:Nat}(h:ay T t=some (.tup [])):ay (dj d (.tup []) T) t=some (.tup []):=by
 cases d with
 |none=>exact h
 |some d=>simp only[dj,ay];split;rfl;exact h
mutual
theorem amr(s:SOp){g:Nat×Bool}{seen D:List Nat}{rest:List aw}{T:Tm}(a:acw (some g) seen D s=true)(c:ay T g.1=some (.bool (!g.2))\/ay T g.1=some (.tup []))(h:∀d∈seen,ay T d=some (.tup []))(n:∀T',(∀t,t∉bU s.flat->ay T' t=ay T t)->(∀d,ay T d=some (.tup [])->ay T' d=some (.tup []))->(∀d∈du s,ay T' d=some (.tup []))->AR P K rest L T'):AR P K (s.flat++rest) L T:=by
 have f:∀(o:aw) (T:Tm),o.guard=some g->(ay T g.1=some (.bool (!g.2))\/ay T g.1=some (.tup []))->AQ P o T L (.tup []):=λo T w c=>by obtain⟨t,b⟩:=g;simp only[AQ,w];rcases c with c|c<;>simp only at c<;>rw[c]<;>simp
 cases s with
 | op o =>
   simp only[acw,apw,decide_eq_true_eq]at a;refine Y6 (f o T a.1 c) (n _ (λt m=>oZ λe=>m (by simp[SOp.flat,bU,e])) (λd j=>ad2 j) λd j=>?_);simp only[du,asi]at j;rw[j];simp[dj,ay]
 | grp g' t b body d x =>
   simp only[acw,apw,decide_eq_true_eq,Option.isNone_some,aqG,aqd,aqv,decide_eq_false_iff_not]at a;obtain⟨⟨⟨⟨⟨⟨k,m⟩,_⟩,q⟩,l⟩,_⟩,r⟩:=a;simp only[SOp.flat,apG];refine aaJ body r (.inr (h t (by simpa using m))) asQ λT' p z=>?_
   refine Y6 (o:=eD g' t b d x) (v:=.tup []) (f _ T' (by simp[eD,k]) (by rw[p _ l];exact c)) (n _ (λu i=>?_) (λu i=>ad2 (z u i)) λu i=>?_)
   .rw[oZ (λe=>i (by simp only[eD]at e;simp[SOp.flat,bU,eD,e]))];exact p u λy=>i (by simp only[SOp.flat,bU,aqY,apy];exact .inl y)
   .simp only[du,apT]at i;subst i;simp[eD,dj,ay]
theorem aaJ(l:List SOp){g:Nat×Bool}{seen D:List Nat}{rest:List aw}{T:Tm}(f:okG (some g) seen D l=true)(p:ay T g.1=some (.bool (!g.2))\/ay T g.1=some (.tup []))(c:∀d∈seen,ay T d=some (.tup []))(q:∀T',(∀t,t∉bU (SOp.flatL l)->ay T' t=ay T t)->(∀d,ay T d=some (.tup [])->ay T' d=some (.tup []))->AR P K rest L T'):AR P K (SOp.flatL l++rest) L T:=by
 cases l with
 |nil=>exact q T (λ_ _=>rfl) (λ_ h=>h)
 | cons s r =>
   simp only[okG,apw,apF,aqd,bne_iff_ne]at f;obtain⟨⟨k,v⟩,y⟩:=f;simp only[SOp.flatL,apG];refine amr s k p c λT' u n z=>?_
   have m:ay T' g.1=some (.bool (!g.2))\/ay T' g.1=some (.tup []):=by
    by_cases a:g.1∈bU s.flat
    .cases s with
     | op o =>
       simp only[bU,SOp.flat,List.filterMap_cons,List.filterMap_nil]at a;cases e:o.dst with
       |none=>simp[e]at a
       | some d =>
         simp[e]at a;exact absurd a.symm (v d (by simp[du,e])).2
     | grp g' t b body d x =>
       simp only[acw,apw,aqd,aqv,decide_eq_false_iff_not]at k;simp only[bU,SOp.flat,aqY,apy]at a;rcases a with a|a
       .exact absurd a k.1.1.2
       .simp[eD]at a;exact absurd a.symm (v d (by simp[du])).2
    .exact p.imp (λh=>by rw[u _ a];exact h) (n _)
   refine aaJ r y m (λd e=>?_) λi A w=>q i (λt j=>?_) (λd e=>w d (n d e))
   .rcases apy.1 e with e|e
    .exact z d e
    .exact n d (c d e)
   .simp only[SOp.flatL,bU,aqY,apy,not_or]at j;rw[A t j.2,u t j.1]
end
def VU(l:List SOp):List Nat:=l.flatMap du
theorem abA:∀(l:List SOp),∀d∈VU l,d∈bU (SOp.flatL l)
 |[],d,h=>by simp[VU]at h
 |s::r,d,h=>by simp only[VU,ap5,apy]at h;simp only[SOp.flatL,bU,aqY,apy];exact h.imp (adL s d) (abA r d)
theorem an1{o:aw}{k:Tm->Prop}{T:Tm}(h:GOp P L o k T):∃v,AQv P o T L v/\k (dj o.dst v T):=by
 obtain⟨d,op,gd⟩:=o;simp only[GOp]at h;unfold AQv;cases op
 case call f xs =>
  simp only at h⊢;cases he:je T xs with
  |none=>rw[he]at h;exact h.elim
  |some args=>rw[he]at h;obtain⟨v,h1,h2⟩:=h;exact⟨v,h1,h2⟩
 case callv f xs =>
  simp only at h⊢;cases hf:evX T f with
  |none=>rw[hf]at h;exact h.elim
  | some u =>
    rw[hf]at h;cases he:je T xs with
    |none=>rw[he]at h;cases u<;>exact h.elim
    | some args =>
      rw[he]at h;cases u<;>simp only[agU]at h;obtain⟨v,h1,h2⟩:=h;exact⟨v,h1,h2⟩
 all_goals
  simp only at h⊢;generalize au T L _=r at h⊢;cases r with
  |none=>exact h.elim
  | some r =>
    obtain⟨c,av,L'⟩:=r;exact⟨av,⟨h.1,rfl,h.2.1⟩,h.2.2⟩
mutual
theorem anP(s:SOp){g:Option (Nat×Bool)}{seen D:List Nat}{rest:List aw}{T T1:Tm}{k:Tm->Prop}(f:acw g seen D s=true)(W:∀g1,g=some g1->g1.1∉D/\ay T g1.1=some (.bool g1.2))(I:∀d∈gds [s],ay T d=none)(z:Agr D T T1)(h:GO P L s k T)(S:∀T' w,k T'->Agr (D++gds [s]) T' w->(∀t,t∉du s->ay T' t=ay T t)->AR P K rest L w):AR P K (s.flat++rest) L T1:=by
 cases s with
 | op o =>
   simp only[acw,apw,decide_eq_true_eq,apF,aqd,aqv,decide_eq_false_iff_not]at f;simp only[GO]at h;obtain⟨v,j,r⟩:=an1 h;have n:AQ P o T L v:=by
    unfold AQ;rw[f.1];cases g with
    |none=>exact j
    | some g1 =>
      obtain⟨t,b⟩:=g1;have:=(W _ rfl).2;simp only at this⊢;rw[this];simp[j]
   refine Y6 (n.congr λt G=>(z t (f.2 t G)).symm) (S _ _ r (λt G=>?_) λt G=>oZ λe=>G (by simp[du,e]));exact(z.put _ _) t λA=>G (aqH _ A)
 | grp g' t b body d x =>
   simp only[acw,apw,decide_eq_true_eq,apF,aqd,aqv,decide_eq_false_iff_not]at f;obtain⟨⟨⟨⟨⟨⟨E,_⟩,m⟩,R⟩,J⟩,V⟩,X⟩:=f;simp only[GO]at h;have C:∀u∈bU (SOp.flatL body),ay T u=none:=λu i=>I u (by simp[gds,i])
   have Q:gds [SOp.grp g' t b body d x]=bU (SOp.flatL body):=(by simp[gds]);rw[Q]at S;simp only[SOp.flat,apG];have B:∀{c:Tm}(p q:Bool),ay T t=some (.bool p)->(∀u,u∉D->u∉bU (SOp.flatL body)->ay c u=ay T u)->(p=b->evX c x=some (.bool q))->k ((d,.bool (mrg b p q))::T)->AR P K ([eD g' t b d x]++rest) L c:=λ{c} p q l N n H=>by
    have hv:au c L (.pick (.tmp t) (if b then x else .av (.bool true)) (if b then .av (.bool false)else x))=some (True,.bool (mrg b p q),L):=by have M:ay c t=some (.bool p):=(by rw[N t m R];exact l);cases b<;>cases p<;>simp[au,evX,M,mrg]<;>exact n rfl
    have F:AQv P (eD g' t b d x) c L (.bool (mrg b p q)):=by simp only[AQv,eD,hv,and_self]
    have n:AQ P (eD g' t b d x) c L (.bool (mrg b p q)):=by
     unfold AQ;cases g with
     |none=>simp only[eD,E];exact F
     | some g1 =>
       obtain⟨Y,b1⟩:=g1;have j:=W _ rfl;simp only[eD,E];rw[show ay c Y=some (.bool b1)by rw[N Y j.1 (by simpa using J)];exact j.2];simp;exact F
    refine Y6 n (S ((d,.bool (mrg b p q))::T) _ H (λu i=>?_) λu i=>?_)
    .simp only[apy,not_or]at i;simp only[eD,dj,ay];split
     .rfl
     .exact N u i.1 i.2
    .simp only[du,apT]at i;simp only[ay];rw[if_neg (Ne.symm i)]
   rcases l:ay T t with _|u
   .rw[l]at h;exact h.elim
   rw[l]at h;cases u<;>try exact h.elim
   rename_i p;obtain⟨q,n,H⟩:=h;by_cases e:p=b
   .subst e;refine ac3 body X (λg1 e=>by cases e;exact⟨m,l⟩) (λu i=>C u (V6 body u i)) z (n rfl) λTb c O y U=>B p q l (λu j r=>?_) (λ_=>?_) H
    .rw[y u (by simp only[apy,not_or];exact⟨j,λA=>r (V6 body u A)⟩)];exact U u λA=>r (abA body u A)
    .have hxb':evX Tb x=some (.bool q):=O;rw[<- hxb'];cases x with
     |av a=>rfl
     |tmp t'=>exact y t' (by have:=V t' (by simp[Opd.tmps]);simpa using this)
   .have:p = !b:=ame e;refine aaJ body X (.inl (by show ay T1 t=_;rw[z t m,l,this])) asQ λc j _=>B p q l (λu r h3=>?_) (λZ=>absurd Z e) H
    rw[j u h3,z u r]
theorem ac3(l:List SOp){g:Option (Nat×Bool)}{seen D:List Nat}{rest:List aw}{T T1:Tm}{k:Tm->Prop}(i:okG g seen D l=true)(A:∀g1,g=some g1->g1.1∉D/\ay T g1.1=some (.bool g1.2))(a:∀d∈gds l,ay T d=none)(B:Agr D T T1)(h:GL P L l k T)(q:∀T' c,k T'->Agr (D++gds l) T' c->(∀t,t∉VU l->ay T' t=ay T t)->AR P K rest L c):AR P K (SOp.flatL l++rest) L T1:=by
 cases l with
 | nil =>
   rw[GL]at h;exact q T T1 h (by simpa[gds]using B) (λ_ _=>rfl)
 | cons s r =>
   simp only[okG,apw,apF,aqd,aqv,decide_eq_false_iff_not]at i;obtain⟨⟨w,m⟩,I⟩:=i;have E:∀d∈du s,d∉gds r:=λd f=>(m d f).1.2
   simp only[SOp.flatL,apG];rw[GL]at h;rw[V7]at a q;refine anP s w A (λd f=>a d (aqH _ f)) B h λT' c F G n=>?_
   refine ac3 r I (λg1 J=>?_) (λd f=>?_) G F λp j y C H=>q p j y (by rwa[apG]at C) λt v=>?_
   .subst J;have u:g1.1∉du s:=λe=>by have:=(m _ e).2;simp at this
    have z:g1.1∉gds [s]:=λe=>by
     cases s with
     |op o=>simp[gds]at e
     | grp g' t b body d x =>
       simp only[acw,apw,aqd,aqv,decide_eq_false_iff_not]at w;simp only[gds,ap4]at e;exact w.1.1.2 e
    have h4:=A g1 rfl;exact⟨by simp only[apy,not_or];exact⟨h4.1,z⟩,by rw[n _ u];exact h4.2⟩
   .rw[n d (λe=>E d e f)];exact a d (arh _ f)
   .simp only[VU,ap5,apy,not_or]at v;rw[H t v.2,n t v.1]
end
theorem adO:∀(l:List SOp){g:Option (Nat×Bool)}{seen D:List Nat},okG g seen D l=true->∀t∈VU l,t∉D++gds l
 |[],_,_,_,_,t,h=>by simp[VU]at h
 | s::r,g,seen,D,hok,t,h=>by
   simp only[okG,apw,apF,aqd,aqv,decide_eq_false_iff_not]at hok;obtain⟨⟨c,b⟩,a⟩:=hok;rw[V7];simp only[VU,ap5,apy]at h;rcases h with h|h
   .have:=(b t h).1;simp only[apy,not_or]at this⊢;exact⟨this.1.1,this.1.2,this.2⟩
   .have:=adO r a t h;simp only[apy,not_or]at this⊢;exact⟨this.1.1,this.1.2,this.2⟩
theorem aib{l:List SOp}{T:Tm}{k:Tm->Prop}(b:okG none [] [] l=true)(a:Fr (gds l) T)(h:GL P L l k T):AR P (λT1 L'=>L'=L/\∃T',k T'/\∀t v,ay T' t=some v->ay T1 t=some v) (SOp.flatL l) L T:=by
 have:=ac3 (K:=λT1 L'=>L'=L/\∃T',k T'/\∀t v,ay T' t=some v->ay T1 t=some v) (rest:=[]) l b (λ_ e=>by cases e) a (T1:=T) (λ_ _=>rfl) h λT' g i j m=>aob ⟨rfl,T',i,λt v c=>?_⟩
 simpa using this;by_cases d:t∈gds l;by_cases f:t∈VU l;exact absurd (by simpa using d) (adO l b t f);rw[m t f,a t d]at c;cases c;rw[j t (by simpa using d)];exact c
end
section
variable {P:Program}{r:Option Nat}{w0:World}{S0:SB}{N:Nat}
inductive bP where
 |skip
 |sreg (sops:List SOp) (mask:List Bool)
 |sdreg (sops:List SOp) (kds:List Kd) (mask:List Bool)
 |dregM (qk:List (aw×Kd)) (ts:List aw) (mask:List Bool)
 |region (ops:List aw)
 |dregion (qk:List (aw×Kd)) (ts:List aw)
 |seq (a b:bP)
 |cond (c:Opd) (a b:bP)
 |block (id:Nat) (c:bP)
 |loop (c:bP)
 |exit (id:Nat)
 |ret
 |rangeF (g:Opd) (ps:List Nat) (x y:bP)
 |scope (c:bP)
 |label
 deriving Inhabited
def bP.raw:bP->bP
 |.sreg s _=>.region (SOp.flatL s)
 |.dregM qk ts _=>.dregion qk ts
 |.sdreg s kds _=>.dregion ((SOp.flatL s).zip kds) ((SOp.flatL s).drop kds.length)
 |.seq a b=>.seq a.raw b.raw
 |.cond c a b=>.cond c a.raw b.raw
 |.block id c=>.block id c.raw
 |.loop c=>.loop c.raw
 |.rangeF g ps x y=>.rangeF g ps x.raw y.raw
 |.scope c=>.scope c.raw
 |c=>c
def bP.hasRF:bP->Bool
 |.seq a b=>a.hasRF ||b.hasRF
 |.cond _ a b=>a.hasRF ||b.hasRF
 |.block _ c=>c.hasRF
 |.loop c=>c.hasRF
 |.scope c=>c.hasRF
 |.rangeF ..=>true
 |_=>false
theorem bP.hasRF_raw:∀c:bP,c.raw.hasRF=c.hasRF
 |.seq a b=>by simp[bP.raw,bP.hasRF,hasRF_raw a,hasRF_raw b]
 |.cond c a b=>by simp[bP.raw,bP.hasRF,hasRF_raw a,hasRF_raw b]
 |.block _ c=>by simp[bP.raw,bP.hasRF,hasRF_raw c]
 |.loop c=>by simp[bP.raw,bP.hasRF,hasRF_raw c]
 |.scope c=>by simp[bP.raw,bP.hasRF,hasRF_raw c]
 |.rangeF ..=>rfl
 |.skip|.label|.sreg .. |.sdreg .. |.dregM .. |.region .. |.dregion .. |.exit .. |.ret=>rfl
def LOp.effB:LOp->Bool
 |.alloc _|.box _|.s2bO _|.s2bG _|.rangeS _|.nextS _|.store .. |.mkslice .. |.app .. |.appz .. |.copy .. |.clear .. |.mkmap|.mset .. |.mdel .. |.mrange _|.mnext _=>true
 |.bslice own ..=>own
 |_=>false
def aox(own:Nat->Nat)(i:Nat)(o:aw):Bool:=o.op.effB ||own i == 3
def ant(eff:Nat->aw->Bool)(tbl:List Nat)(es:List Nat)(i:Nat)(o:aw):Kd :=
 if o.op.pureB=true then .pure else if eff i o=true then .eff
 else .read (es.filter λe=>decide (e<i) && !(tbl.getD i 0).testBit e).length (es.filter λe=>decide (i<e) && !(tbl.getD e 0).testBit i).length
def acE(eff:Nat->aw->Bool)(tbl:List Nat)(qs:List aw):List (aw×Kd):=
 let es:=(qs.zipIdx.filter λp=>eff p.2 p.1).map (·.2)
 qs.zipIdx.map λp=>(p.1,ant eff tbl es p.2 p.1)
theorem ad4(a:Nat->aw->Bool)(tbl:List Nat)(qs:List aw):(acE a tbl qs).map (·.1)=qs:=by simp[acE,apS,Function.comp_def]
def bc(P:Program)(N:Nat)(own:Nat->Nat->Nat):Code->Option bP
 |.skip=>some .skip
 |.region id ops false=>(cR P N (own id) ops (List.range ops.size)).map .region
 | .region id ops true=>(cR P N (own id) ops (List.range ops.size)).bind fun los =>
   let n:=ab7 (pl ops.toList []) 0 los.length
   let qk:=acE (aox (own id)) (pl ops.toList []) (los.take n)
   if(Oc ops los n&&decide (n<=los.length)&&P.follows .mixedOrders&&WF (pl ops.toList []) qk)=true then some (.dregion qk (los.drop n))else none
 | .seq a b=>match bc P N own a,bc P N own b with
   |some x,some y=>some (.seq x y)
   |_,_=>none
 | .cond c a b=>match bV c,bc P N own a,bc P N own b with
   |some c,some x,some y=>some (.cond c x y)
   |_,_,_=>none
 |.block id c=>(bc P N own c).map (.block id)
 |.loop c=>(bc P N own c).map .loop
 |.exit id=>some (.exit id)
 |.ret=>some .ret
 |.scope c=>(bc P N own c).map .scope
 |.label _=>some .label
 | .rangeFunc g ps x y=>match bV g,bc P N own x,bc P N own y with
   |some g,some x,some y=>if(!x.hasRF && !y.hasRF&&ps.all λp=>decide (p<N))=true then some (.rangeF g ps.toList x y)else none
   |_,_,_=>none
 |_=>none
structure Bs(w0:World)(S0:SB)(w1:World)(S1:SB):Prop where
 size:w0.heap.size<=w1.heap.size
 fr:∀k,k<w0.heap.size->¬S0 k->¬S1 k/\w1.heap[k]?=w0.heap[k]?
 sub:∀k,S1 k->S0 k\/w0.heap.size<=k
 os:w1.os=w0.os
 tape:w1.tape=w0.tape
 output:w1.output=w0.output
 low:S1.B=S0.B
theorem Bs.refl(w0:World)(S0:SB):Bs w0 S0 w0 S0:=⟨apt _,λ_ _ h=>⟨h,rfl⟩,λ_ h=>.inl h,rfl,rfl,rfl,rfl⟩
theorem Bs.trans{w0 d e:World}{S0 f c:SB}(h:Bs w0 S0 d f)(k:Bs d f e c):Bs w0 S0 e c :=
 ⟨apR h.size k.size,λi b l=>by
  obtain⟨a,j⟩:=h.fr i b l;obtain⟨g,h4⟩:=k.fr i (aqD b h.size) a;exact⟨g,h4.trans j⟩,λi b=>by
  rcases k.sub i b with a|a;exact h.sub i a;exact .inr (apR h.size a),k.os.trans h.os,k.tape.trans h.tape,k.output.trans h.output,k.low.trans h.low⟩
theorem Bs.rel{w0 j w:World}{S0 g:SB}(h:Bs w0 S0 j g){E:Env}{L:List Blk}(a:Rel j g E L w):Rel w0 S0 E L w :=
 ⟨a.mem,a.blk,a.fresh,λi k c b d e=>⟨(a.own i k c b d e).1,by
  rcases(a.own i k c b d e).2 with h4|h4;exact h.sub _ h4;exact .inr (apR h.size h4)⟩,a.inj,a.tkfresh,λi n sz t k b d e=>⟨(a.tkown i n sz t k b d e).1,by
  rcases(a.tkown i n sz t k b d e).2 with h4|h4;exact h.sub _ h4;exact .inr (apR h.size h4)⟩,a.tkloc,a.tkinj,λk f l=>by
  obtain⟨b,d⟩:=h.fr k f l;exact(a.frame k (aqD f h.size) b).trans d,apR h.size a.size,a.os.trans h.os,a.tape.trans h.tape,a.output.trans h.output,a.glob,a.gsz⟩
theorem Rel.ownSub{w0 w:World}{S0:SB}{E:Env}{L:List Blk}(f:Rel w0 S0 E L w)(k:Nat)(g:Wr E L k):S0 k\/w0.heap.size<=k:=by rcases g with⟨i,b,c,d,e,a,rfl⟩|⟨i,n,sz,t,c,d,e,a,rfl⟩;exact(f.own i b c d e a).2;exact(f.tkown i n sz t c d e a).2
theorem Rel.bs{w0 w:World}{S0:SB}{E:Env}{L:List Blk}(a:Rel w0 S0 E L w):Bs w0 S0 w ⟨Wr E L,S0.B⟩:=
 ⟨a.size,λk d c=>⟨λe=>by rcases a.ownSub k e with b|b;exact c b;omega,a.frame k d c⟩,a.ownSub,a.os,a.tape,a.output,rfl⟩
theorem aeP.bs{w0 a:World}{S0 c:SB}{ds:List Deferred}(h:aeP w0 S0 ds)(b:Bs w0 S0 a c):aeP a c ds:=⟨by rw[b.low];exact apR h.1 b.size,h.2.1,λd j=>by obtain⟨D,k,l,e,f,h4⟩:=h.2.2 d j;obtain⟨g,i⟩:=b.fr D e f;exact⟨D,k,by rw[b.low];exact l,aqD e b.size,g,i.trans h4⟩⟩
def AW(P:Program)(N:Nat)(own:Nat->Nat->Nat)(lc:bP)(Q:Exit->Tm->List Blk->Prop)(T:Tm)(L:List Blk):Prop :=
 ∀c,bc P N own c=some lc.raw->∀(r:Option Nat),(lc.hasRF=true->r=none)->∀(w0:World) (S0:SB) (E:Env) (a:Act) (w:World),St w0 S0 N E T L a w ->
  c.wpIn (gR r) 0 P (λe a' w'=>∃w1 S1 E' T' L',Bs w0 S0 w1 S1/\E.le E'/\Q e T' L'/\St w1 S1 N E' T' L' a' w') a w
variable {own:Nat->Nat->Nat}{Q:Exit->Tm->List Blk->Prop}{T:Tm}{L:List Blk}
theorem AW.mono{lc:bP}{f:Exit->Tm->List Blk->Prop}(h:AW P N own lc Q T L)(m:∀e T L,Q e T L->f e T L):AW P N own lc f T L:=λc i r o w0 S0 E a w d =>
 wpIn_mono (h c i r o w0 S0 E a w d) λe p w' ⟨l,j,E',T',L',b,k,n,g⟩=>⟨l,j,E',T',L',b,k,m _ _ _ n,g⟩
theorem AW.weakT{lc:bP}{T':Tm}(h:AW P N own lc Q T' L)(d:∀t v,ay T' t=some v->ay T t=some v):AW P N own lc Q T L:=λc f r g w0 S0 E a w b =>
 h c f r g w0 S0 E a w (b.weak d rfl λ_ _ e=>.inr e)
theorem tq{c:Code}{x:bP}(d:bc P N own c=some x):match x with
  |.skip=>c=.skip
  |.exit id=>c=.exit id
  |.ret=>c=.ret
  |.label=>∃l,c=.label l
  |.seq x y=>∃g c2,c=.seq g c2/\bc P N own g=some x/\bc P N own c2=some y
  |.cond o x y=>∃c0 g c2,c=.cond c0 g c2/\bV c0=some o/\bc P N own g=some x/\bc P N own c2=some y
  |.block id x=>∃g,c=.block id g/\bc P N own g=some x
  |.loop x=>∃g,c=.loop g/\bc P N own g=some x
  |.scope x=>∃g,c=.scope g/\bc P N own g=some x
  |.region ops=>∃id os,c=.region id os false/\cR P N (own id) os (List.range os.size)=some ops
  |.dregion qk ts=>∃id os e n,c=.region id os true/\cR P N (own id) os (List.range os.size)=some e/\Oc os e n=true/\n<=e.length/\P.follows .mixedOrders=true/\qk.map (·.1)=e.take n/\ts=e.drop n/\WF (pl os.toList []) qk=true
  |_=>True:=by
 cases c with
 |skip=>cases d;rfl
 |ret=>cases d;rfl
 |exit id=>cases d;rfl
 |label l=>cases d;exact⟨_,rfl⟩
 |goto l=>cases d
 |refuse s=>cases d
 |block id c=>simp only[bc,ap6]at d;obtain⟨_,h,rfl⟩:=d;exact⟨_,rfl,h⟩
 |loop c=>simp only[bc,ap6]at d;obtain⟨_,h,rfl⟩:=d;exact⟨_,rfl,h⟩
 |scope c=>simp only[bc,ap6]at d;obtain⟨_,h,rfl⟩:=d;exact⟨_,rfl,h⟩
 | seq a b => simp only [bc] at d; split at d <;> try (cases d; done)
              rename_i h i;cases d;exact⟨_,_,rfl,h,i⟩
 | cond k a b => simp only [bc] at d; split at d <;> try (cases d; done)
                 rename_i h i j;cases d;exact⟨_,_,_,rfl,h,i,j⟩
 | rangeFunc f ps a b =>
   simp only[bc]at d
   repeat' split at d
   all_goals cases d
   trivial
 | region id ops draw =>
   cases draw
   .simp only[bc,ap6]at d;obtain⟨_,h,rfl⟩:=d;exact⟨_,_,rfl,h⟩
   .simp only[bc,aq3]at d;obtain⟨e,h,d⟩:=d;split at d
    .rename_i hb;simp only[apw,decide_eq_true_eq]at hb;cases d;exact⟨_,_,e,_,rfl,h,hb.1.1.1,hb.1.1.2,hb.1.2,ad4 _ _ _,rfl,hb.2⟩
    .cases d
theorem ajM{c:Code}(a:bc P N own c=some .skip):c=.skip:=tq a
theorem ajO{c:Code}{id:Nat}(a:bc P N own c=some (.exit id)):c=.exit id:=tq a
theorem alX{c:Code}(a:bc P N own c=some .ret):c=.ret:=tq a
theorem agG{c:Code}{x y:bP}(b:bc P N own c=some (.seq x y)):∃a c2,c=.seq a c2/\bc P N own a=some x/\bc P N own c2=some y:=tq b
theorem ad8{c:Code}{o:Opd}{x y:bP}(b:bc P N own c=some (.cond o x y)):∃c0 a c2,c=.cond c0 a c2/\bV c0=some o/\bc P N own a=some x/\bc P N own c2=some y:=tq b
theorem ahJ{c:Code}{id:Nat}{x:bP}(b:bc P N own c=some (.block id x)):∃a,c=.block id a/\bc P N own a=some x:=tq b
theorem ajN{c:Code}{x:bP}(b:bc P N own c=some (.loop x)):∃a,c=.loop a/\bc P N own a=some x:=tq b
theorem SP{c:Code}{ops:List aw}(a:bc P N own c=some (.region ops)):∃id os,c=.region id os false/\cR P N (own id) os (List.range os.size)=some ops:=tq a
theorem Yd{c:Code}{qk:List (aw×Kd)}{ts:List aw}(b:bc P N own c=some (.dregion qk ts)):∃id os a n,c=.region id os true/\cR P N (own id) os (List.range os.size)=some a/\Oc os a n=true/\n<=a.length/\P.follows .mixedOrders=true/\qk.map (·.1)=a.take n/\ts=a.drop n/\WF (pl os.toList []) qk=true:=tq b
theorem jS{b:Frame}{a:Act}{k:List Item}{cs:List Frame}{w:World}{c:Code}:step P (lone (b.atR a (.code (.scope c)::k)) cs w)=.next (lone (b.atR a (.code c :: .inScope c::k)) cs w):=
 step_lone_go (by simp[stepG,stepG.exec,Frame.atR])
theorem aaY{b:Frame}{a:Act}{k:List Item}{cs:List Frame}{w:World}{c:Code}:step P (lone (b.atR a (.inScope c::k)) cs w)=.next (lone (b.atR a k) cs w):=
 step_lone_go (by simp[stepG,stepG.exec,Frame.atR])
theorem aeX{F:Fence}{n:Nat}{a:Act}{w:World}{Q:Exit->Act->World->Prop}{c:Code}(h:c.wpIn F n P (Exit.noGoto Q) a w):(Code.scope c).wpIn F n P Q a w:=by
 intro b k cs q p r;have f:(lone (b.atR a (.code (.scope c)::k)) cs w).fenced P F:=fenced_calm p r rfl;obtain⟨e,j,i,g,d⟩:=h b (.inScope c::k) cs q p r;cases e with
 |normal=>exact⟨.normal,j,i,g,.head f jS (StepsIn.trans d (.one (fenced_calm p r rfl) aaY))⟩
 | exit id =>
   have s:exitTo id (.inScope c::k)=exitTo id k:=(by simp[exitTo]);exact⟨.exit id,j,i,g,λk' m=>.head f jS (d.1 k' (by rw[s];exact m)),
    λo m=>let ⟨k₁,h1,h2⟩:=d.2 o (by rw[s];exact m);⟨k₁,h1,.head f jS h2⟩⟩
 |goto l=>exact g.elim
 |ret=>exact⟨_,j,i,g,.of_steps (.one f jS) d⟩
 |panic ch=>exact⟨_,j,i,g,.of_steps (.one f jS) d⟩
 |outgrown=>exact⟨_,j,i,g,.of_steps (.one f jS) d⟩
theorem bm(h:Q .normal T L):AW P N own .skip Q T L:=λc d r e w0 S0 E a w b=>by obtain rfl:=ajM d;exact wpIn_skip ⟨w0,S0,E,T,L,.refl _ _,.refl E,h,b⟩
theorem bz{id:Nat}(h:Q (.exit id) T L):AW P N own (.exit id) Q T L:=λc d r e w0 S0 E a w b=>by obtain rfl:=ajO d;exact wpIn_exit ⟨w0,S0,E,T,L,.refl _ _,.refl E,h,b⟩
theorem bO(h:Q .ret T L):AW P N own .ret Q T L:=λc d r e w0 S0 E a w b=>by obtain rfl:=alX d;exact wpIn_ret ⟨w0,S0,E,T,L,.refl _ _,.refl E,h,b⟩
def aeM(K:Tm->List Blk->Prop)(Q:Exit->Tm->List Blk->Prop):Exit->Tm->List Blk->Prop
 |.normal,T,L=>K T L
 |e,T,L=>Q e T L
theorem bG{x y:bP}(h:AW P N own x (aeM (AW P N own y Q) Q) T L):AW P N own (.seq x y) Q T L:=λc hc r hr w0 S0 E a w hst=>by
 obtain⟨c1,c2,rfl,h1,h2⟩:=agG hc;refine wpIn_seq (wpIn_mono (h c1 h1 r (λe=>hr (by simp[bP.hasRF,e])) w0 S0 E a w hst) λe a' w' ⟨w1,S1,E',T',L',b,g1,g2,g3⟩=>?_);cases e
 case normal=>exact wpIn_mono (g2 c2 h2 r (λe=>hr (by simp[bP.hasRF,e])) w1 S1 E' a' w' g3) λe a'' w'' ⟨w2,S2,E'',T'',L'',b2,k1,k2,k3⟩=>⟨w2,S2,E'',T'',L'',b.trans b2,g1.trans k1,k2,k3⟩
 all_goals exact⟨w1,S1,E',T',L',b,g1,g2,g3⟩
theorem bd{x:Opd}{y z:bP}{b:Bool}(i:evX T x=some (.bool b))(n:b=true->AW P N own y Q T L)(m:b=false->AW P N own z Q T L):AW P N own (.cond x y z) Q T L:=λc h r f w0 S0 E a w d=>by obtain⟨c0,k,c2,rfl,j,l,g⟩:=ad8 h;have:=ao j i d.2.1;simp only[VR]at this;exact wpIn_cond_split this (λe=>n e k l r (λe=>f (by simp[bP.hasRF,e])) w0 S0 E a w d) (λe=>m e c2 g r (λe=>f (by simp[bP.hasRF,e])) w0 S0 E a w d)
def af2(id:Nat)(Q:Exit->Tm->List Blk->Prop):Exit->Tm->List Blk->Prop
 |.exit id',T,L=>if id'=id then Q .normal T L else Q (.exit id') T L
 |e,T,L=>Q e T L
theorem aB{x:Opd}{y z:bP}(i:evX T x=some .anyb)(o:AW P N own y Q T L)(n:AW P N own z Q T L):AW P N own (.cond x y z) Q T L:=λc h r g w0 S0 E a w d=>by obtain⟨c0,l,c2,rfl,k,j,m⟩:=ad8 h;have f:=ao k i d.2.1;simp only[VR]at f;obtain⟨b,f⟩:=f;exact wpIn_cond_split f (λ_=>o l j r (λe=>g (by simp[bP.hasRF,e])) w0 S0 E a w d) (λ_=>n c2 m r (λe=>g (by simp[bP.hasRF,e])) w0 S0 E a w d)
theorem aT{id:Nat}{x:bP}(h:AW P N own x (af2 id Q) T L):AW P N own (.block id x) Q T L:=λc hc r hr w0 S0 E a w hst=>by
 obtain⟨c1,rfl,h1⟩:=ahJ hc;refine wpIn_block (wpIn_mono (h c1 h1 r (λe=>hr (by simp[bP.hasRF,e])) w0 S0 E a w hst) λe a' w' ⟨w1,S1,E',T',L',b,g1,g2,g3⟩=>?_);cases e
 case exit i =>
  simp only[af2]at g2;simp only[Exit.inBlock];split at g2
  .rename_i e;rw[if_pos e];exact⟨w1,S1,E',T',L',b,g1,g2,g3⟩
  .rename_i e;rw[if_neg e];exact⟨w1,S1,E',T',L',b,g1,g2,g3⟩
 all_goals exact⟨w1,S1,E',T',L',b,g1,g2,g3⟩
def ac8(Q:Exit->Tm->List Blk->Prop):Exit->Tm->List Blk->Prop
 |.goto _,_,_=>False
 |e,T,L=>Q e T L
theorem akM:ac8 Q .normal T L=Q .normal T L:=rfl
theorem akN{i:Nat}:ac8 Q (.exit i) T L=Q (.exit i) T L:=rfl
theorem akL:ac8 Q .ret T L=Q .ret T L:=rfl
attribute [push_cast] akM akN akL
theorem aO{x:bP}(h:AW P N own x (ac8 Q) T L):AW P N own (.scope x) Q T L:=λc hc r hr w0 S0 E a w hst=>by
 obtain⟨c1,rfl,h1⟩:=tq hc;refine aeX (wpIn_mono (h c1 h1 r (λe=>hr (by simp[bP.hasRF,e])) w0 S0 E a w hst) λe a' w' ⟨w1,S1,E',T',L',b,g1,g2,g3⟩=>?_);cases e
 case goto l=>exact g2.elim
 all_goals exact⟨w1,S1,E',T',L',b,g1,g2,g3⟩
theorem aP(h:Q .normal T L):AW P N own .label Q T L:=λc d r e w0 S0 E a w b=>by obtain⟨l,rfl⟩:=tq d;exact wpIn_label ⟨w0,S0,E,T,L,.refl _ _,.refl E,h,b⟩
theorem acT(p:Nat->Prop):∀n,p n->∃m,p m/\∀k,p k->m<=k:=by
 intro n;induction n using Nat.strongRecOn with
 | _ n ih =>
   intro c;by_cases h:∃k,k<n/\p k
   .obtain⟨k,a,h2⟩:=h;exact ih k a h2
   .refine⟨n,c,λk b=>?_⟩;rcases apV k n with a|a
    .exact absurd ⟨k,a,b⟩ h
    .exact a
theorem St.draw{E:Env}{a:Act}{w:World}{T:Tm}{L:List Blk}(h:St w0 S0 N E T L a w)(n:Nat):St w0 S0 N E T L a {w with drawn:=n}:=⟨h.1.draw n,h.2⟩
theorem aaX{qk:List (aw×Kd)}{ts:List aw}(h:AG P (nG P (Q .normal) ts) qk [L] [] T):AW P N own (.dregion qk ts) Q T L:=λc k r v w0 S0 E a w b=>by
 obtain⟨id,os,o,n,rfl,m,q,u,h4,i,rfl,l⟩:=Yd k;refine wpIn_region_any h4 ?_;have s:qk.length=n:=by have:=congrArg List.length i;simp at this;omega
 exact aeG (w0:=w0) (S0:=S0) (L:=L) (T:=T) (Q:=λe g w'=>∃f d E' T' L',Bs w0 S0 f d/\E.le E'/\Q e T' L'/\St f d N E' T' L' g w') (K:=Q .normal) (E0:=E) m q (by rw[i,aq5]) s l h (λE' T' L' g w' p t j=>⟨w0,S0,E',T',L',.refl _ _,p,t,j⟩) a _ E (.refl E) (b.draw _)
def ana(mask:List Bool)(T:Tm):Bool:=(mask.zip T).all λp=>p.1 ||(ay (sel mask T) p.2.1).isNone
theorem Zf:∀{a:List Bool}{T:Tm}{t:Nat}{v:AV},(∀p∈a.zip T,p.1=true\/p.2.1≠t)->ay (sel a T) t=some v->ay T t=some v
 |[],T,t,v,_,h=>by rwa[agn]at h
 |true::m,[],t,v,_,h=>by simp[sel,ay]at h
 |false::m,[],t,v,_,h=>by simp[sel,ay]at h
 | true::m,x::T,t,v,hm,h=>by
   obtain⟨k,u⟩:=x;rw[amG]at h;simp only[ay]at h⊢;split
   .rename_i e;rw[if_pos e]at h;exact h
   .rename_i e;rw[if_neg e]at h;exact Zf (λp b=>hm p (by simp only[List.zip_cons_cons,apP];exact .inr b)) h
 | false::m,x::T,t,v,hm,h=>by
   obtain⟨k,u⟩:=x;rw[amH]at h;have c:k≠t:=by
    rcases hm (false,(k,u)) asQ with h|h
    .cases h
    .exact h
   simp only[ay];rw[if_neg c];exact Zf (λp b=>hm p (by simp only[List.zip_cons_cons,apP];exact .inr b)) h
theorem OJ{a:List Bool}{T:Tm}{t:Nat}{v:AV}(c:ana a T=true)(h:ay (sel a T) t=some v):ay T t=some v :=
 Zf (λp d=>by
  have:=apF.1 c p d;rcases Bool.or_eq_true_iff.1 this with b|b;exact .inl b;refine .inr λe=>?_
  rw[e,h]at b;cases b) h
def aaQ(mask:List Bool)(K:Tm->List Blk->Prop)(T:Tm)(L:List Blk):Prop:=ana mask T=true/\K (sel mask T) L
theorem bq{a:List Bool}{K:Tm->List Blk->Prop}{T:Tm}{L:List Blk}(c:ana a T=true)(b:K (sel a T) L):aaQ a K T L:=⟨c,b⟩
def frB(ds:List Nat)(T:Tm):Bool:=ds.all λd=>(ay T d).isNone
theorem bw{b:List SOp}{f:List Bool}(i:(okS b&&frB (gds b) T)=true)(h:SL P b (aaQ f (Q .normal)) T L):AW P N own (.sreg b f) Q T L:=λc k r q w0 S0 E a w g=>by obtain⟨id,os,rfl,l⟩:=SP k;rw[apw]at i;refine wpIn_region (Ke b i.1 l g (λd n=>?_) h λE' T' L' p w' o j h4=>⟨w0,S0,E',sel f T',L',.refl _ _,o,j.2,h4.weak (λt v m=>OJ j.1 m) rfl λ_ _ e=>.inr e⟩);have:=apF.1 i.2 d n;simpa using this
def anW(mask:List Bool)(K:Tm->List Blk->Prop)(L:List Blk)(T:Tm):Prop:=aaQ mask K T L
theorem amv{a:List Bool}{K:Tm->List Blk->Prop}{T:Tm}{L:List Blk}:anW a K L T=aaQ a K T L:=rfl
theorem aN{b:List SOp}{kds:List Kd}{f:List Bool}(B:(okG none [] [] b&&frB (gds b) T&&decide (kds.length<=(SOp.flatL b).length))=true)(h:GL P L b (anW f (Q .normal) L) T):AW P N own (.sdreg b kds f) Q T L:=λc U r hr w0 S0 E a w u=>by
 obtain⟨id,os,g,n,rfl,z,F,h3,h4,I,J,_⟩:=Yd U;simp only[apw,decide_eq_true_eq]at B;obtain⟨⟨M,S⟩,f3⟩:=B;have q:g=SOp.flatL b:=by
  have s:((SOp.flatL b).zip kds).map (·.1)=(SOp.flatL b).take kds.length:=by
   have key:∀(l:List aw) (m:List Kd),(l.zip m).map (·.1)=l.take m.length:=by
    intro l;induction l with
    |nil=>intro m;simp
    |cons o l ih=>intro m;cases m<;>simp[ih]
   exact key _ _
  rw[s]at I;rw[<- aq5 n g,<- I,<- J,aq5]
 have G:g.length=os.size:=by simpa using(EN z).1
 refine wpIn_region_any h4 ?_;have j:Oc os g g.length=true:=by simp only[Oc,apw]at F⊢;refine⟨F.1,?_⟩;simp only[afV,apF,List.mem_range,aqf,decide_eq_true_eq];exact λi hi=>.inl asP
 have x:=aib (P:=P) (L:=L) M (T:=T) (λd Y=>by have:=apF.1 S d Y;simpa using this) h
 refine aeG (w0:=w0) (S0:=S0) (L:=L) (T:=T) (Q:=λe H w'=>∃D C E' T' L',Bs w0 S0 D C/\E.le E'/\Q e T' L'/\St D C N E' T' L' H w') (E0:=E) (qk:=g.map λo=>(o,.read 0 0)) (ts:=[]) z j (by simp[apS,Function.comp_def]) asQ ?_ (K:=λT1 L'=>L'=L/\∃T',anW f (Q .normal) L T'/\∀t v,ay T' t=some v->ay T1 t=some v)
  ?_ (λE' T' L' H w' s ⟨R,W,A,V⟩ X=>?_) a _ E (.refl E) (u.draw _)
 have y:∀(l:List aw) (k:Nat),fc (l.map λo=>(o,Kd.read 0 0)) k=[]:=by
  intro l;induction l with
  |nil=>intro k;rfl
  |cons o l ih=>intro k;simp only[apX,fc];exact ih _
 simp only[WF,y,ap9,List.range_zero,art,ap0,apF];intro p Z;obtain⟨⟨o,kd⟩,i⟩:=p;have:kd=Kd.read 0 0:=by have:=List.fst_mem_of_mem_zipIdx Z;simp only[apz]at this;obtain⟨o',_,e⟩:=this;cases e;rfl
 subst this;rfl;rw[q];exact x;subst R;exact⟨w0,S0,E',sel f W,_,.refl _ _,s,A.2,X.weak (λt v O=>V t v (OJ A.1 O)) rfl λ_ _ e=>.inr e⟩
theorem aQ{qk:List (aw×Kd)}{ts:List aw}{d:List Bool}(h:AG P (nG P (aaQ d (Q .normal)) ts) qk [L] [] T):AW P N own (.dregM qk ts d) Q T L:=λc g r m w0 S0 E a w f=>by
 have:=aaX (N:=N) (own:=own) (Q:=λe T' L'=>e=.normal/\aaQ d (Q .normal) T' L') (L:=L) (T:=T) (qk:=qk) (ts:=ts) (P:=P) ?_ c g r m w0 S0 E a w f;refine wpIn_mono this λe n w' ⟨k,i,E',T',L',b,g1,⟨l,g3⟩,g4⟩=>?_
 subst l;exact⟨k,i,E',sel d T',L',b,g1,g3.2,g4.weak (λt v j=>OJ g3.1 j) rfl λ_ _ e=>.inr e⟩;have e:(λT' L'=>Exit.normal=Exit.normal/\aaQ d (Q .normal) T' L')=aaQ d (Q .normal):=by funext T' L';simp
 rw[e];exact h
theorem aF{ops:List aw}(h:nG P (Q .normal) ops T L):AW P N own (.region ops) Q T L:=λc e r j w0 S0 E a w b=>by obtain⟨id,os,rfl,f⟩:=SP e;exact wpIn_region (Tk _ _ f b h λE' T' L' i w' g d h4=>⟨w0,S0,E',T',L',.refl _ _,g,d,h4⟩)
end
inductive af3 where
 |tmp (t:Nat)
 |cell (agg:Bool) (sz t:Nat)
 deriving Inhabited
structure aK where
 ntmps:Nat
 code:bP
 res:List af3
 deriving Inhabited
def aK.raw(f:aK):aK:=⟨f.ntmps,f.code.raw,f.res⟩
def SI(P:Program):List ResultVar->Option (List af3)
 |[]=>some []
 |.tmp t::l=>(SI P l).map (.tmp t::·)
 | .cell a t::l=>match nB P t,dt P t,SI P l with
   |some g,some s,some m=>some (.cell g s a::m)
   |_,_,_=>none
def aL(P:Program)(own:Nat->Nat->Nat)(f:FuncId):Option aK :=
 match P.funcs[f]? with
 |none=>none
 | some fn=>if (fn.name == "runtime.NumGoroutine")=true then none else match fn.body with
   |none=>none
   | some c=>match bc P fn.ntmps own c,SI P fn.results.toList with
     |some lc,some rs=>some ⟨fn.ntmps,lc,rs⟩
     |_,_=>none
def Zh(T:Tm)(L:List Blk):List af3->Option (Prop×List AV)
 |[]=>some (True,[])
 | .tmp t::l=>match ay T t,Zh T L l with
   |some v,some (c,m)=>some (c,v::m)
   |_,_=>none
 | .cell g sz t::l=>match (ay T t).bind (row L),Zh T L l with
   |some (r,off),some (c,m)=>if g then some (off+sz<=r.length/\c,.agg ((r.drop off).take sz)::m)else some (off<r.length/\c,r.getD off .undef::m)
   |_,_=>none
def adC:List AV->AV
 |[v]=>v
 |l=>.tup l
def ag(i:Nat):List AV->Tm
 |[]=>[]
 |a::l=>(i,a)::ag (i+1) l
section
variable {P:Program}{w0:World}{S0:SB}{N:Nat}{E:Env}{L:List Blk}{w:World}{T:Tm}{a:Act}
theorem TH:∀{rs:List ResultVar}{e:List af3}{c:Prop}{m:List AV},SI P rs=some e->Zh T L e=some (c,m)->c->Rel w0 S0 E L w->TR E T a ->
  ∃vs,VRL E m vs/\(rs.mapM (m:=Sem) fun
   |.tmp t=>pure (a.tmps.getD t undef)
   |.cell x t=>do loadVar t (<- asAddr (a.tmps.getD x undef))).run P w=.ok vs w
 |[],e,c,m,hl,he,hc,hR,hT=>by simp[SI]at hl;subst hl;simp[Zh]at he;obtain⟨_,rfl⟩:=he;exact⟨[],by simp[VRL],asQ⟩
 | .tmp t::rs,e,c,m,hl,he,hc,hR,hT=>by
   simp only[SI,ap6]at hl;obtain⟨n,i,rfl⟩:=hl;simp only[Zh]at he;split at he<;>try cases he
   rename_i v c' G h k;obtain⟨vs,h4,q⟩:=TH i k hc hR hT;exact⟨_::vs,⟨_,_,rfl,hT _ _ h,h4⟩,by simp only[ase,apA,ap7,apE,q]⟩
 | .cell x t::rs,e,c,m,hl,he,hc,hR,hT=>by
   simp only[SI]at hl;split at hl<;>try cases hl
   rename_i g s n D J i;simp only[Zh]at he;split at he<;>try cases he
   rename_i r off c' G h k;rcases h6:ay T x with _|u
   .simp_all
   .simp only[h6,aqF]at h;have F:=hT _ _ h6;obtain⟨b,o,H,d⟩:=Wx hR h F;have A:(asAddr (a.tmps.getD x undef)).run P w=.ok ⟨b,o+off,none⟩ w:=(by rw[H];rfl);cases g
    .obtain⟨rfl,rfl⟩:=he;obtain⟨vs,h4,q⟩:=TH i k hc.2 hR hT;obtain⟨y,B,C⟩:=d off r[off] (apD hc.1);refine⟨y::vs,⟨_,_,rfl,by rw[apO,apD hc.1];exact C,h4⟩,?_⟩;have z:(loadVar t ⟨b,o+off,none⟩).run P w=.ok y w:=(by simp[loadVar,Ei D,B]);simp_all
    .obtain⟨rfl,rfl⟩:=he;obtain⟨vs,h4,q⟩:=TH i k hc.2 hR hT;have f:((r.drop off).take s).length=s:=(by simp;omega);obtain⟨cs,B,C⟩:=Yc (P:=P) (w:=w) (b:=b) (o:=o+off) (l:=(r.drop off).take s) D (by rw[f];exact J) (λj a p=>by have I:j<s:=(by have:=(aps.1 p).1;omega);rw[aqs I,aqo]at p;have:=d _ _ p;rwa[<- aqx]at this)
     refine⟨.agg ⟨cs⟩::vs,⟨_,_,rfl,⟨cs,rfl,B⟩,h4⟩,?_⟩;simp_all
theorem ai8{m:List AV}{vs:List Value}(h:VRL E m vs):VR E (adC m) (if h:vs.length=1 then vs[0]else .tuple ⟨vs⟩):=by
 have a:=h.length;by_cases b:vs.length=1
 match m,vs,h,a,b with
 | [x],[y],h,_,_ =>
   obtain⟨_,_,⟨rfl,rfl⟩,c,_⟩:=h;exact c
 rw[dif_neg b];have:adC m=.tup m:=by
  match m,a with
  |[],_=>rfl
  |[x],a=>simp at a;exact absurd a b
  |_::_::_,_=>rfl
 rw[this];exact⟨vs,rfl,h⟩
theorem ZO:∀{args:List AV}{i t:Nat}{v:AV},ay (ag i args) t=some v->i<=t/\args[t-i]?=some v
 |[],i,t,v,h=>by simp[ag,ay]at h
 | x::args,i,t,v,h=>by
   simp only[ag,ay]at h;split at h
   .simp[*]
   .rename_i e;have:=ZO h
    grind
def Fin(L0:List Blk)(r:AV)(L:List Blk)(Q:AV->List Blk->Prop):Prop :=
 ∀(w0:World) (S0:SB) (E0 E:Env) (w:World) (v:Value),E0.le E->(∀i,L0.length<=i->E0.loc i=none/\E0.tok i=none)->(∀k∈L0,k.refs (λi=>decide (i<L0.length))=true) ->
  Rel w0 S0 E L w->VR E r v->∃E' av L',E0.le E'/\Q av L'/\VR E' av v/\Rel w0 S0 E' L' w
mutual
theorem VR.refs{n:Nat}(g:∀i,n<=i->E.loc i=none)(j:∀i,n<=i->E.tok i=none):∀(a:AV) (v:Value),VR E a v->a.refs (λi=>decide (i<n))=true
 |.undef,_,_=>rfl
 |.bool _,_,_=>rfl
 |.anyb,_,_=>rfl
 |.int _ _,_,_=>rfl
 |.str _,_,_=>rfl
 |.nilptr,_,_=>rfl
 |.gptr _ _,_,_=>rfl
 | .ptr i off,v,r=>by
   simp only[VR]at r;obtain⟨c,h,_⟩:=r;simp only[AV.refs,decide_eq_true_eq];rcases apV i n with e|e
   .exact e
   .rw[g i e]at h;cases h
 |.iptr l off,v,r=>by simp only[VR]at r;obtain⟨b,o,_,h⟩:=r;exact VRC.refs g j l b o h
 |.nilsl,_,_=>rfl
 | .sl l m cap,v,r=>by
   simp only[VR]at r;obtain⟨p,c,_,_,_,h⟩:=r;rcases h with⟨_,_,_,rfl⟩|⟨b,o,_,h⟩
   .rfl
   .exact VRC.refs g j l b o h
 | .gsl l m i sz,v,r=>by
   simp only[VR]at r;obtain⟨p,c,_,_,_,h,t,k,_⟩:=r;simp only[AV.refs,decide_eq_true_eq,apw];refine⟨?_,?_⟩
   .rcases apV i n with e|e
    .exact e
    .rw[j i e]at k;cases k
   .rcases h with⟨_,_,_,rfl⟩|⟨b,o,_,h⟩
    .rfl
    .exact VRC.refs g j l b o h
 | .lsl i off len cap sz,v,r=>by
   simp only[VR]at r;obtain⟨c,q,d,h,_⟩:=r;simp only[AV.refs,decide_eq_true_eq];rcases apV i n with e|e
   .exact e
   .rw[g i e]at h;cases h
 |.nilmap,_,_=>rfl
 | .lmap i,v,r=>by
   simp only[VR]at r;obtain⟨c,h,_⟩:=r;simp only[AV.refs,decide_eq_true_eq];rcases apV i n with e|e
   .exact e
   .rw[g i e]at h;cases h
 | .yld i,v,r=>by
   simp only[VR]at r;obtain⟨c,h,_⟩:=r;simp only[AV.refs,decide_eq_true_eq];rcases apV i n with e|e
   .exact e
   .rw[g i e]at h;cases h
 |.func f caps,v,r=>by simp only[VR]at r;obtain⟨vs,_,h⟩:=r;exact VRL.refs g j caps vs h
 |.nilfunc,_,_=>rfl
 |.nilif,_,_=>rfl
 |.iface t x,v,r=>by simp only[VR]at r;obtain⟨y,_,h⟩:=r;exact VR.refs g j x y h
 |.agg l,v,r=>by simp only[VR]at r;obtain⟨vs,_,h⟩:=r;exact VRL.refs g j l vs h
 |.tup l,v,r=>by simp only[VR]at r;obtain⟨vs,_,h⟩:=r;exact VRL.refs g j l vs h
theorem VRL.refs{n:Nat}(b:∀i,n<=i->E.loc i=none)(c:∀i,n<=i->E.tok i=none):∀(l:List AV) (vs:List Value),VRL E l vs->AV.refsL (λi=>decide (i<n)) l=true
 |[],_,_=>rfl
 |a::l,vs,r=>by simp only[VRL]at r;obtain⟨x,xs,_,d,e⟩:=r;simp only[AV.refsL,apw];exact⟨VR.refs b c a x d,VRL.refs b c l xs e⟩
theorem VRC.refs{n:Nat}(c:∀i,n<=i->E.loc i=none)(d:∀i,n<=i->E.tok i=none):∀(l:List AV) (b o:Nat),VRC E l b o->AV.refsL (λi=>decide (i<n)) l=true
 |[],_,_,_=>rfl
 |a::l,b,o,r=>by simp only[VRC]at r;obtain⟨⟨x,_,e⟩,f⟩:=r;simp only[AV.refsL,apw];exact⟨VR.refs c d a x e,VRC.refs c d l b (o+1) f⟩
end
theorem aI.refs{n:Nat}(a:∀i,n<=i->E.loc i=none)(c:∀i,n<=i->E.tok i=none):∀{l:List (AV×AV×Nat)}{es:List MapEntry},aI E l es->(l.all λe=>e.1.refs (λi=>decide (i<n))&&e.2.1.refs (λi=>decide (i<n)))=true
 |[],_,_=>rfl
 |(k,x,b)::l,es,r=>by simp only[aI]at r;obtain⟨e,t,_,f,g,_,d⟩:=r;simp only[aqE,apw];exact⟨⟨VR.refs a c _ _ f,VR.refs a c _ _ g⟩,aI.refs a c d⟩
theorem Rel.refs(h:Rel w0 S0 E L w):∀k∈L,k.refs (λi=>decide (i<L.length))=true:=λk o=>by
 obtain⟨i,p⟩:=arf.1 o;have e:=h.blk i k p;cases k<;>simp only[bZ]at e;rfl;obtain⟨c,cs,ty,fr,_,_,_,_,b,_⟩:=e;refine AV.refsL_iff.2 λa g=>?_
 obtain⟨j,l⟩:=arf.1 g;obtain⟨v,_,f⟩:=b j a l;exact VR.refs h.fresh h.tkfresh _ _ f;obtain⟨c,rs,_,_,n⟩:=e;exact aI.refs h.fresh h.tkfresh n;rename_i m _ _ _;obtain⟨c,q,_,_,_,h4⟩:=e;cases m with
 |none=>rfl
 | some j =>
   obtain⟨d,g1,_⟩:=h4;simp only[Blk.refs,decide_eq_true_eq];rcases apV j L.length with b|b
   .omega
   .rw[h.fresh j b]at g1;cases g1
 rfl;obtain⟨c,cs,ty,fr,_,_,_,_,b,_⟩:=e;refine AV.refsL_iff.2 λa g=>?_
 obtain⟨j,l⟩:=arf.1 g;obtain⟨v,_,f⟩:=b j a l;exact VR.refs h.fresh h.tkfresh _ _ f;rfl;obtain⟨c,D,tm,_,_,_,_,b⟩:=e;simp only[Blk.refs,apF];rintro⟨t,u⟩ _;rcases hl:ay _ t with _|v;rfl;simpa using VR.refs h.fresh h.tkfresh _ _ (b t v hl)
def an9(res:List af3)(L0:List Blk)(Q:AV->List Blk->Prop)(e:Exit)(T:Tm)(L':List Blk):Prop :=
 (e=.normal\/e=.ret)/\∃c rs,Zh T L' res=some (c,rs)/\c/\Fin L0 (adC rs) L' Q
theorem Rel.shut{w0 w:World}{S0:SB}{E:Env}{L:List Blk}(h:Rel w0 S0 E L w){D:Nat}(y:w0.heap.size<=D)(d:¬Wr E L D)(q:w.heap[D]?=some (.deferred (some []))):Rel w0 S0 E L (w.putObj D (.deferred none)):=by
 have same:∀k,k≠D->(w.putObj D (.deferred none)).heap[k]?=w.heap[k]?:=λk a=>arY a
 refine⟨λb o v m=>?_,λi k a=>?_,h.fresh,h.own,h.inj,h.tkfresh,h.tkown,h.tkloc,h.tkinj,λk a u=>?_,by simpa using h.size,h.os,h.tape,h.output,h.glob,λp r j=>?_⟩;have f:=h.mem b o v m;have z:b≠D:=λe=>by subst e;simp[World.cell?,q]at f
 simp only[World.cell?]at f⊢;simp_all;cases hl:k.live;refine bZ.still hl rfl (λt c n sz e s g=>?_) (h.blk i k a);exact same _ λl=>d (.inr ⟨i,n,sz,t,c,e▸a,s,g,l⟩)
 refine bZ.worldL hl (λc g=>?_) (h.blk i k a);exact same _ λl=>d (.inl ⟨i,k,c,a,hl,g,l⟩)
 rw[same k asP];exact h.frame k a u;obtain⟨cs,ty,fr,x,A⟩:=h.gsz p r j
 grind
theorem abp{fn:Func}{tmps:Array Value}{R:Ending->World->Prop}{wE:World}{SE:SB}{E:Env}{L:List Blk}(c:∀w,Rel wE SE E L w->∃v,(results fn tmps).run P w=.ok v w/\R (.returned v) w):
  ∀(ds:List Deferred) (w:World),Rel wE SE E L w->ds.Nodup->(∀d∈ds,∃D,d=mkD D/\wE.heap.size<=D/\¬Wr E L D/\w.heap[D]?=some (.deferred (some [])))->LeavesInM (gR none) 0 P fn tmps R ds .returning w
 |[],w,h,_,_=>c w h
 |d::ds,w,h,hn,hd=>by obtain⟨D,rfl,j,l,b⟩:=hd _ List.mem_cons_self;obtain⟨k,m⟩:=aqI.1 hn;refine⟨λe=>(by cases e),.inl ⟨D,_,rfl,run_takeDeferred b,abp c ds _ (h.shut j l b) m λd a=>?_⟩⟩;obtain⟨i,rfl,g,f,n⟩:=hd d (aqU _ a);refine⟨i,rfl,g,f,?_⟩;rw[arY λe=>k (by subst e;exact a)];omega
theorem ab{own:Nat->Nat->Nat}{f:FuncId}{j:aK}(h:aL P own f=some j.raw){args:List AV}{L:List Blk}{Q:AV->List Blk->Prop}(l:args.length<=j.ntmps)(G:AW P j.ntmps own j.code (an9 j.res L Q) (ag 0 args) L):af P f args L Q:=by
 intro w0 S0 E w vs k H;obtain⟨nt,code,Z⟩:=j;simp only[aK.raw]at h l G;unfold aL at h;split at h;cases h;rename_i fn o;split at h;cases h;rename_i a;split at h;cases h;rename_i c M;split at h<;>try cases h
 rename_i lc rs B C;refine .inl ⟨?_,?_⟩;have:(fn.name == "runtime.NumGoroutine")=false:=by simpa using a
 simp only[callFunc,apA,run_program,apE,o,this,M,Option.isNone_some,apL,if_false,ap7];refine(callsIn_wide (n:=0)).1 (callsIn_of_wp_marks (F:=gR none) o M trivial ?_);have U:=H.length;have q:St w ⟨Wr E L,w.heap.size⟩ fn.ntmps E (ag 0 args) L {tmps:=(⟨vs⟩:Array Value)++Array.replicate (fn.ntmps-vs.length) undef,defers:=[]} w:=by refine⟨k.enter _,λt x O=>?_,by simp;omega,aeP.nil (apt _)⟩;obtain⟨_,p⟩:=ZO O;simp only[aru]at p;obtain⟨y,z,K⟩:=H.get p;have u:t<vs.length:=(aps.1 z).1;rw[aqV,asj (by simpa using u)];simp[*]
 refine wpIn_mono (G c B none (λ_=>rfl) w _ E _ w q) λe A w' ⟨w1,S1,E',T',L',b,g1,⟨g2,c',ad,g3,g4,W⟩,g⟩=>?_
 have key:LeavesInM (gR none) 0 P fn A.tmps (λe w'=>∃E' v av L',e=.returned v/\E.le E'/\Q av L'/\VR E' av v/\Rel w0 S0 E' L' w') A.defers .returning w':=by
  refine abp (wE:=w) (SE:=⟨Wr E L,w.heap.size⟩) (E:=E') (L:=L') (λs m=>?_) _ _ (b.rel g.1) g.2.2.2.2.1 λd R=>?_
  obtain⟨us,T,X⟩:=TH C g3 g4 m g.2.1;obtain⟨Y,av,V,k3,k4,k5,k6⟩:=W w0 S0 E E' s _ g1 (λi J=>⟨k.fresh i J,k.tkfresh i J⟩) k.refs (k.back m) (ai8 T);have I:(results fn A.tmps).run P s=.ok (if h:us.length=1 then us[0]else .tuple ⟨us⟩) s:=by unfold results;rw[Array.mapM_eq_mapM_toList];simp only[apA,Sem.run_map];refine(congrArg (λr=>(Result.andThen r λx w=>Result.ok x.toArray w).andThen _) X).trans ?_;simp
  grind
  obtain⟨D,p,N,z,K,h4⟩:=g.2.2.2.2.2 d R;refine⟨D,p,by rw[b.low]at N;exact N,λho=>?_,?_⟩;rcases g.1.ownSub D ho with S|S;simp_all;omega;rw[g.1.frame D z K];exact h4
 rcases g2 with rfl|rfl<;>exact key
theorem aa{L0 L:List Blk}{r:AV}{Q:AV->List Blk->Prop}(h:Q r L):Fin L0 r L Q:=λw0 S0 E0 E w v c _ _ b a=>⟨E,r,L,c,h,a,b⟩
theorem ae7{E0 E:Env}{n m:Nat}(d:E0.le E)(k:∀i,n<=i->E0.loc i=none/\E0.tok i=none)(l:n<=m)(g:Nat->Nat)(h:∀i,i<n->g i=i):E0.le (E.res m g):=by
 have lt:∀i,(E0.loc i≠none\/E0.tok i≠none)->i<n:=λi a=>by grind
 refine⟨λb o x j=>d.mem b o x j,λi c e=>?_,λi t f=>?_⟩;have a:=lt i (.inl (by simp[e]));rw[Env.res_loc asP,h i a];exact d.loc i c e;have a:=lt i (.inr (by simp[f]));rw[Env.res_tok asP,h i a];exact d.tok i t f
theorem aaT{L0 L1 L2:List Blk}{r:AV}{Q:AV->List Blk->Prop}(n:L1.length=L0.length)(j:(∀k∈L0,k.refs (λi=>decide (i<L0.length))=true)->∀k∈L1,k.refs (λi=>decide (i<L0.length))=true)(q:r.refs (λi=>decide (i<L0.length))=true)(h:Q r L1):Fin L0 r (L1++L2) Q:=λw0 S0 E0 E w v m d e g o=>by
 have a:=g.cut (by rw[n];exact j e);refine⟨E.res L1.length id,r,L1,ae7 m d asP id (λ_ _=>rfl),h,VR.cut (E:=E) (E':=E.res L1.length id) (p:=λi=>decide (i<L0.length)) (λ_ _ _ x=>x) (λi c b f=>?_) (λi t b l=>?_) r v q o,a⟩
 .rw [Env.res_loc (by have : i < L0.length := by simpa using b
                      omega)];exact f
 .rw [Env.res_tok (by have : i < L0.length := by simpa using b
                      omega)];exact l
theorem aY{L0 L:List Blk}{r:AV}{Q:AV->List Blk->Prop}(h:Fin L0 r.frz L Q):Fin L0 r L Q:=λw0 S0 E0 E w v d a b c e =>
 h w0 S0 E0 E w v d a b c (VR.frz _ _ e)
theorem akS{res:List af3}{L0 L':List Blk}{T:Tm}{Q:AV->List Blk->Prop}{c:Prop}{rs:List AV}(h:Zh T L' res=some (c,rs))(a:c)(b:Fin L0 (adC rs) L' Q):an9 res L0 Q .ret T L':=⟨.inr rfl,c,rs,h,a,b⟩
theorem ac{L0 L2:List Blk}{r:AV}{Q:AV->List Blk->Prop}(a:r.refs (λi=>decide (i<L0.length))=true)(h:Q r L0):Fin L0 r (L0++L2) Q :=
 aaT rfl (λh=>h) a h
mutual
def AV.snap(i:Nat)(l:List AV):AV->AV
 |.lsl j off n cap s=>if j=i then .sl ((l.drop off).take (n*s)) n cap else .lsl j off n cap s
 |.agg xs=>.agg (AV.snapL i l xs)
 |.tup xs=>.tup (AV.snapL i l xs)
 |a=>a
def AV.snapL(i:Nat)(l:List AV):List AV->List AV
 |[]=>[]
 |a::xs=>AV.snap i l a::AV.snapL i l xs
end
mutual
theorem VR.snap{i:Nat}{l:List AV}{c:Loc}(g:E.loc i=some c)(h:VRC E l c.blk c.off):∀(a:AV) (v:Value),VR E a v->VR E (a.snap i l) v
 | .lsl j off n cap s,v,r=>by
   simp only[AV.snap];split
   .rename_i e;subst e;simp only[VR]at r⊢;obtain⟨c',o,d,b,rfl,f,m,h4,p⟩:=r;rw[g]at b;cases b;refine⟨_,o,rfl,m,h4,.inr ⟨c.blk,d,rfl,?_⟩⟩;rcases aqQ n with k|k
    .subst k;simp[VRC]
    .rw[f asP];exact(h.drop off).take _
   .exact r
 |.agg xs,v,r=>by simp only[AV.snap,VR]at r⊢;obtain⟨vs,b,f⟩:=r;exact⟨vs,b,VRL.snap g h xs vs f⟩
 |.tup xs,v,r=>by simp only[AV.snap,VR]at r⊢;obtain⟨vs,b,f⟩:=r;exact⟨vs,b,VRL.snap g h xs vs f⟩
 |.undef,_,r=>r
 |.bool _,_,r=>r
 |.anyb,_,r=>r
 |.int _ _,_,r=>r
 |.str _,_,r=>r
 |.nilptr,_,r=>r
 |.gptr _ _,_,r=>r
 |.ptr _ _,_,r=>r
 |.iptr _ _,_,r=>r
 |.nilsl,_,r=>r
 |.sl _ _ _,_,r=>r
 |.gsl _ _ _ _,_,r=>r
 |.nilmap,_,r=>r
 |.lmap _,_,r=>r
 |.yld _,_,r=>r
 |.func _ _,_,r=>r
 |.nilfunc,_,r=>r
 |.nilif,_,r=>r
 |.iface _ _,_,r=>r
theorem VRL.snap{i:Nat}{l:List AV}{c:Loc}(d:E.loc i=some c)(b:VRC E l c.blk c.off):∀(xs:List AV) (vs:List Value),VRL E xs vs->VRL E (AV.snapL i l xs) vs
 |[],_,r=>r
 |a::xs,vs,r=>by simp only[AV.snapL,VRL]at r⊢;obtain⟨x,e,h,g,f⟩:=r;exact⟨x,e,h,VR.snap d b a x g,VRL.snap d b xs e f⟩
end
theorem EE{L0 L:List Blk}{r:AV}{Q:AV->List Blk->Prop}{i:Nat}{l:List AV}(b:L[i]?=some (.cells l))(h:Fin L0 (r.snap i l) (L.set i .dead) Q):Fin L0 r L Q:=λw0 S0 E0 E w v j e f a k=>by obtain⟨c,cs,ty,fr,d,_⟩:=a.blk i _ b;obtain⟨E',g1,g,g3,g4⟩:=a.snap b d;exact h w0 S0 E0 E' w v (j.trans g1) e f g (VR.snap (by rw[g4];exact d) g3 _ _ (VR.mono g1 _ _ k))
theorem amA{L0 L2:List Blk}{r:AV}{Q:AV->List Blk->Prop}(k:Nat)(b:Blk)(R:b.live=true)(hk:L0.length<=k)(U:(L0++L2)[k]?=some b)(hr:r.refs (λi=>decide (i<L0.length) ||decide (i=k))=true)(F:b.refs (λi=>decide (i<L0.length))=true)(h:Q (r.ren λi=>if i=k then L0.length else i) (L0++[b])):Fin L0 r (L0++L2) Q:=λw0 S0 E0 E w v Z W Y P S=>by
 have N:(L0++[b]).length=L0.length+1:=asQ;have hg:∀i,i<L0.length->(λi=>if i<L0.length then i else k) i=i:=λi s=>if_pos s
 have B:∀i c,(decide (i<L0.length) ||decide (i=k))=true->E.loc i=some c->(E.res (L0++[b]).length (λi=>if i<L0.length then i else k)).loc (if i=k then L0.length else i)=some c:=by intro i c s l;by_cases e:i=k;subst e;rw[if_pos rfl,Env.res_loc asP,if_neg asP];exact l;simp only[e,decide_false,arv,decide_eq_true_eq]at s;rw[if_neg e,Env.res_loc asP,if_pos s];exact l
 have L:∀i c,(decide (i<L0.length) ||decide (i=k))=true->E.tok i=some c->(E.res (L0++[b]).length (λi=>if i<L0.length then i else k)).tok (if i=k then L0.length else i)=some c:=by intro i c s l;by_cases e:i=k;subst e;rw[if_pos rfl,Env.res_tok asP,if_neg asP];exact l;simp only[e,decide_false,arv,decide_eq_true_eq]at s;rw[if_neg e,Env.res_tok asP,if_pos s];exact l
 have low:∀(i:Nat) (c:Blk),(L0++[b])[i]?=some c->(i<L0.length/\L0[i]?=some c)\/(i=L0.length/\c=b):=λi c l=>by grind
 have I:=P.renum (L':=L0++[b]) (λi=>if i<L0.length then i else k) (λi j s f e=>by
  rw[N]at s f;split at e<;>split at e<;>omega) (λi n sz s=>by
  rcases low i _ s with⟨z,C⟩|⟨z,C⟩;rw[if_pos z,apx z];exact C;subst C;simp[Blk.live]at R) (λi c l g=>by
  rcases low i _ l with⟨z,C⟩|⟨z,C⟩;have V:(L0++L2)[i]?=some c:=(by rw[apx z];exact C);refine⟨c,by rw[if_pos z];exact V,g,?_⟩;refine bZ.cut (E:=E) (E':=E.res (L0++[b]).length (λi=>if i<L0.length then i else k)) (p:=λi=>decide (i<L0.length)) (λ_ _ _ x=>x) (λj c f l=>?_) (λj c f l=>?_) (λc l=>?_) g (Y c (aqj C)) (P.blk i c V);have f:j<L0.length:=(by simpa using f);rw[Env.res_loc asP,if_pos f];exact l;have f:j<L0.length:=(by simpa using f);rw[Env.res_tok asP,if_pos f];exact l;rw[Env.res_loc asP,if_pos z];exact l;subst z;subst C;refine⟨c,by simpa using U,g,?_⟩;have G:=P.blk k _ U;have o:∀d,E.loc k=some d->(E.res (L0++[c]).length (λi=>if i<L0.length then i else k)).loc L0.length=some d:=λd A=>by have:=B k d asQ A;rwa[if_pos rfl]at this
  have u:∀x v,x.refs (λi=>decide (i<L0.length))=true->VR E x v->VR (E.res (L0++[c]).length (λi=>if i<L0.length then i else k)) x v:=λx v H S=>by refine VR.cut (E:=E) (E':=E.res (L0++[c]).length (λi=>if i<L0.length then i else k)) (p:=λi=>decide (i<L0.length)) (λ_ _ _ x=>x) (λj d f A=>?_) (λj d f A=>?_) x v H S;have f:j<L0.length:=(by simpa using f);rw[Env.res_loc asP,if_pos f];exact A;have f:j<L0.length:=(by simpa using f);rw[Env.res_tok asP,if_pos f];exact A
  cases c<;>simp only[Blk.live,apL]at g<;>simp only[bZ,Blk.refs]at G F⊢;obtain⟨d,cs,ty,fr,g1,y,g3,g4,J,T⟩:=G;exact⟨d,cs,ty,fr,o d g1,y,g3,g4,λj a K=>let ⟨x,O,M⟩:=J j a K;⟨x,O,u a x (AV.refsL_iff.1 F a (aqj K)) M⟩,T⟩;obtain⟨d,rs,g1,y,g3⟩:=G;refine⟨d,rs,o d g1,y,?_⟩;refine aI.cut (E:=E) (E':=E.res (L0++[_]).length (λi=>if i<L0.length then i else k)) (p:=λi=>decide (i<L0.length)) (λ_ _ _ x=>x) (λj d f A=>?_) (λj d f A=>?_) F g3;have f:j<L0.length:=(by simpa using f);rw[Env.res_loc asP,if_pos f];exact A;have f:j<L0.length:=(by simpa using f);rw[Env.res_tok asP,if_pos f];exact A;rename_i m _ _ _;obtain⟨d,q,g1,y,g3,g4⟩:=G;refine⟨d,q,o d g1,y,g3,?_⟩;cases m with
  |none=>exact g4
  | some j =>
    obtain⟨X,O,M⟩:=g4;have f:j<L0.length:=(by simpa[Blk.refs]using F);exact⟨X,by rw[Env.res_loc asP,if_pos f];exact O,M⟩
  obtain⟨d,g1,y⟩:=G;exact⟨d,o d g1,y⟩;obtain⟨d,cs,ty,fr,g1,y,g3,g4,J,T⟩:=G;exact⟨d,cs,ty,fr,o d g1,y,g3,g4,λj a K=>let ⟨x,O,M⟩:=J j a K;⟨x,O,u a x (AV.refsL_iff.1 F a (aqj K)) M⟩,T⟩;obtain⟨d,D,tm,g1,y,g3,g4,J⟩:=G;simp only[apF]at F;exact⟨d,D,tm,o d g1,y,g3,g4,λt x H=>u x _ (by simpa[H]using F (t,x) (N4 H)) (J t x H)⟩)
 exact⟨E.res (L0++[b]).length (λi=>if i<L0.length then i else k),_,_,ae7 Z W asP _ hg,h,VR.ren (E:=E) (E':=E.res (L0++[b]).length (λi=>if i<L0.length then i else k)) (p:=λi=>decide (i<L0.length) ||decide (i=k)) (λ_ _ _ x=>x) B L r v hr S,I⟩
end
theorem YX(L:List α)(x:α)(l:List α):(L++x::l)[L.length]?=some x:=asQ
theorem nK(L l:List α)(k:Nat):(L++l)[L.length+k]?=l[k]?:=by grind
theorem alp(L:List α)(x y:α)(l:List α):(L++x::l).set L.length y=L++y::l:=by simp
theorem alo(L l:List α)(k:Nat)(y:α):(L++l).set (L.length+k) y=L++l.set k y:=by simp
theorem amt(L l m:List α):(L++l)++m=L++(l++m):=apG _ _ _
theorem ae{n:Int}(b : -9223372036854775808<=n)(a:n<9223372036854775808):IntKind.i64.wrap n=n:=by simp only[IntKind.wrap,IntKind.bits,IntKind.signed];simp;omega
theorem apn(j:Nat)(h:j<9223372036854775807):IntKind.i64.wrap ((j:Int)+1)=(j:Int)+1:=ae asP asP
theorem dx{n:Int}(b:0<=n)(a:n<256):IntKind.u8.wrap n=n:=by simp only[IntKind.wrap,IntKind.bits,IntKind.signed];simp;omega
theorem EF{n:Int}(b:0<=n)(a:n<18446744073709551616):IntKind.u64.wrap n=n:=by simp only[IntKind.wrap,IntKind.bits,IntKind.signed];simp;omega
theorem aR{P:Program}{N:Nat}{own:Nat->Nat->Nat}{Q:Exit->Tm->List Blk->Prop}{T:Tm}{L:List Blk}{x:Opd}{y z:bP}(a:evX T x=some (.bool true))(h:AW P N own y Q T L):AW P N own (.cond x y z) Q T L :=
 bd a (λ_=>h) (λe=>by cases e)
theorem aS{P:Program}{N:Nat}{own:Nat->Nat->Nat}{Q:Exit->Tm->List Blk->Prop}{T:Tm}{L:List Blk}{x:Opd}{y z:bP}(a:evX T x=some (.bool false))(h:AW P N own z Q T L):AW P N own (.cond x y z) Q T L :=
 bd a (λe=>by cases e) (λ_=>h)
def aoY(v:AV)(xs:List Int):Prop:=(v=.nilsl/\xs=[])\/∃cap,v=.sl (xs.map (AV.int .i64)) xs.length cap
theorem ahn{p:Nat->Bool}(xs:List Int):AV.refsL p (xs.map (AV.int .i64))=true:=AV.refsL_iff.2 λa b=>by obtain⟨x,_,rfl⟩:=apz.1 b;rfl
theorem aoY.refs{p:Nat->Bool}{xs:List Int}(h:aoY v xs):v.refs p=true:=by rcases h with⟨rfl,_⟩|⟨cap,rfl⟩;rfl;exact ahn xs
theorem abP{xs:List Int}{k:Nat}(h:k<xs.length):(xs.map (AV.int .i64)).getD k .undef=.int .i64 xs[k]:=by simp[h]
theorem aD{p:Prop}[Decidable p]{A B:Prop}(b:p->A)(a:¬p->B):if p then A else B:=by simp_all
theorem aA{p:Prop}[Decidable p]{A B:Prop}(b:p->B)(a:¬p->A):if ¬p then A else B:=by simp_all
def amU(L0 L':List Blk)(Q:AV->List Blk->Prop):Option (Prop×List AV)->Prop
 |some (c,rs)=>c/\Fin L0 (adC rs) L' Q
 |none=>False
theorem af7{L0:List Blk}{Q:AV->List Blk->Prop}{c:Prop}{rs:List AV}:amU L0 L' Q (some (c,rs))=(c/\Fin L0 (adC rs) L' Q):=rfl
theorem aE{res:List af3}{L0:List Blk}{T:Tm}{Q:AV->List Blk->Prop}(h:amU L0 L' Q (Zh T L' res)):an9 res L0 Q .ret T L':=by rcases hr:Zh T L' res with _|⟨c,rs⟩;rw[hr]at h;exact h.elim;rw[hr]at h;exact akS hr h.1 h.2
def Hid(p:Prop):Prop:=p
theorem hid{p:Prop}(h:p):Hid p:=h
theorem Hid.o{p:Prop}(h:Hid p):p:=h
theorem Kto{K:AV->List Blk->Prop}{L:List Blk}{a b:AV}(h:K a L)(e:a=b):K b L:=e▸h
def abf(T' T:Tm):Prop:=∀p∈T',∃v,ay T p.1=some v/\(p.2=v\/p.2=v.frz)
theorem TR.sub{E:Env}{T:Tm}{a:Act}(r:TR E T a)(h:abf T' T):TR E T' a:=λt v c=>by obtain⟨u,d,b⟩:=h _ (N4 c);have:=r t u d;rcases b with b|b;simp_all;simp only at b;subst b;exact VR.frz _ _ this
theorem aeK{T:Tm}:abf [] T:=λp h=>by cases h
theorem OU{T:Tm}{t:Nat}{u:AV}(h:ay T t=some u)(e:v=u)(b:abf T' T):abf ((t,v)::T') T:=λp a=>by rcases apP.1 a with rfl|a;simp[*];exact b p a
theorem aaP{T:Tm}{t:Nat}{u:AV}(h:ay T t=some u)(e:v=u.frz)(b:abf T' T):abf ((t,v)::T') T:=λp a=>by rcases apP.1 a with rfl|a;simp[*];exact b p a
def Cut(B:Nat)(T':Tm)(L':List Blk)(T:Tm)(L:List Blk):Prop :=
 abf T' T/\∃X,L=L'++X/\B<=L'.length/\(X=[]\/((∀p∈T',p.2.refs (λi=>decide (i<L'.length))=true)/\∀k∈L',k.refs (λi=>decide (i<L'.length))=true))
theorem aeT{T:Tm}{L:List Blk}(h:abf T' T)(a:B<=L.length):Cut B T' L T L:=⟨h,[],asQ,a,.inl rfl⟩
theorem CutS{B:Nat}{T' T:Tm}{L:List Blk}(a:abf T' T:=by repeat' first|exact aeK|refine OU rfl rfl ?_|refine aaP rfl rfl ?_)(b:B<=L.length):Cut B T' L T L:=aeT a b
theorem CutL{B:Nat}{T' T:Tm}{L:List Blk}(a:abf T' T:=by repeat' first|exact aeK|refine OU rfl rfl ?_|refine aaP rfl rfl ?_|refine OU rfl (congrArg (AV.int _) asP) ?_|refine OU rfl (by first|(simp_all;done)|(simp_all;omega)|(simp_all;intros;omega)) ?_)(b:B<=L.length):Cut B T' L T L:=aeT a b
abbrev apq:=@af Tryz.prog
abbrev apr:=AV->List Blk->Prop
abbrev Ctr(P:Program)(f:FuncId)(A:List AV)(v:AV):Prop:=∀{L:List Blk}{K:AV->List Blk->Prop},K v L->af P f A L K
theorem asW{P:Program}{f:FuncId}{A:List AV}{v:AV}(h:Ctr P f A v):Hid (Ctr P f A v):=hid h
abbrev o0(x:LOp):SOp:=.op ⟨none,x,none⟩
abbrev o1(n:Nat)(x:LOp):SOp:=.op ⟨some n,x,none⟩
abbrev og(n t:Nat)(b:Bool)(x:LOp):SOp:=.op ⟨some n,x,some (t,b)⟩
abbrev od(n:Nat)(x:LOp)(k:Kd):aw×Kd:=(⟨some n,x,none⟩,k)
abbrev tm(t:Nat):Opd:=.tmp t
abbrev iv(n:Int):Opd:=.av (.int .i64 n)
attribute [push_cast] o0 o1 og od tm iv
abbrev asI(x:List SOp)(m:List Bool)(r:bP):bP:=.seq (.sreg x m) r
abbrev asJ(t:Nat)(a b:bP):bP:=.cond (.tmp t) a b
abbrev asK(t:Nat)(a:bP):bP:=.cond (.tmp t) (.seq a .ret) .skip
abbrev asL(n:Nat)(a:bP):bP:=.block n (.loop a)
abbrev asM(t n:Nat):bP:=.cond (.tmp t) .skip (.exit n)
attribute [push_cast] asI asJ asK asL asM
noncomputable abbrev asN(n:Nat):=aL Tryz.prog (λ_ _=>1) n
abbrev asO(c:aK):=some c.raw
abbrev Aa(a b:Nat):SOp:=.op ⟨some a,(.mv (.tmp b)),none⟩
abbrev Ab(a b c:Nat):SOp:=.op ⟨some a,(.load false b (.tmp c)),none⟩
abbrev Ac(a:Nat)(b:Int):SOp:=.op ⟨some a,(.mv (.av (.int .i64 b))),none⟩
abbrev Ad(a b c:Nat):SOp:=.op ⟨some a,(.faddr b (.tmp c)),none⟩
abbrev Ae(a b c:Nat):SOp:=.op ⟨some a,(.mv (.tmp c)),some (b,true)⟩
abbrev Af(a:Nat):SOp:=.op ⟨some a,(.mv (.av (.bool false))),none⟩
abbrev Ag(a b c:Nat):SOp:=.op ⟨some a,(.mv (.tmp c)),some (b,false)⟩
abbrev Ah(a b:Nat):SOp:=.op ⟨some a,(.len false (.tmp b)),none⟩
abbrev Ai(a b:Nat)(c:Int):SOp:=.op ⟨some a,(.bin .add (.tmp b) (.av (.int .i64 c))),none⟩
abbrev Aj(a b c:Nat):SOp:=.op ⟨some a,(.call b [(.tmp c)]),none⟩
abbrev Ak(a:Nat):SOp:=.op ⟨some a,(.mv (.av (.sl [] 0 (some 0)))),none⟩
abbrev Al(a b c:Nat):SOp:=.op ⟨some a,(.bin .lss (.tmp b) (.tmp c)),none⟩
abbrev Am(a b c d:Nat):SOp:=.op ⟨some a,(.iaddr b (.tmp c) (.tmp d)),none⟩
abbrev An(a b:Nat)(c:Int):SOp:=.op ⟨some a,(.bin .eql (.tmp b) (.av (.int .i64 c))),none⟩
abbrev Ao(a b:Nat):SOp:=.op ⟨some a,(.extract (.tmp b) 0),none⟩
abbrev Ap(a b c:Nat):SOp:=.op ⟨none,(.store a (.tmp b) (.tmp c)),none⟩
abbrev Aq(a b:Nat):SOp:=.op ⟨some a,(.extract (.tmp b) 1),none⟩
abbrev Ar(a b c:Nat):SOp:=.op ⟨some a,(.load true b (.tmp c)),none⟩
abbrev As(a b c d:Nat):SOp:=.op ⟨some a,(.call b [(.tmp c),(.tmp d)]),none⟩
abbrev Au(a b:Nat):SOp:=.op ⟨some a,(.nilchk (.tmp b)),none⟩
abbrev Aw(a:Nat):SOp:=.op ⟨some a,(.mv (.av (.str []))),none⟩
abbrev Ax(a b:Nat):SOp:=.op ⟨some a,(.len true (.tmp b)),none⟩
abbrev Ay(a b c d:Nat):SOp:=.op ⟨some a,(.load false c (.tmp d)),some (b,false)⟩
abbrev Az(a b:Nat):SOp:=.op ⟨some a,(.box (.tmp b)),none⟩
abbrev A0(a:Nat):SOp:=.op ⟨some a,(.mv (.av (.bool true))),none⟩
abbrev A3(a b c d:Nat):SOp:=.op ⟨some a,(.faddr c (.tmp d)),some (b,false)⟩
abbrev A5(a b c d:Nat):SOp:=.op ⟨some a,(.load false c (.tmp d)),some (b,true)⟩
abbrev A6(a b c d:Nat):SOp:=.op ⟨some a,(.faddr c (.tmp d)),some (b,true)⟩
abbrev A7(a b:Nat):SOp:=.op ⟨some a,(.un .not (.tmp b)),none⟩
abbrev A8(a b:Nat)(c:Int):SOp:=.op ⟨some a,(.bin .gtr (.tmp b) (.av (.int .i64 c))),none⟩
abbrev A9(a b c:Nat):aw×Kd:=(⟨some a,(.faddr b (.tmp c)),none⟩,.pure)
abbrev AA(a b c d e:Nat):aw×Kd:=(⟨some a,(.load false b (.tmp c)),none⟩,(.read d e))
abbrev AB(a b:Nat)(c:Int):SOp:=.op ⟨some a,(.bin .neq (.tmp b) (.av (.int .i64 c))),none⟩
abbrev AC(a b c:Nat)(d:Int):SOp:=.op ⟨some a,(.bin .gtr (.tmp c) (.av (.int .i64 d))),some (b,false)⟩
abbrev AD(a b:Nat):aw×Kd:=(⟨some a,(.mv (.tmp b)),none⟩,.pure)
abbrev AE(a b c:Nat):SOp:=.op ⟨some a,(.len false (.tmp c)),some (b,true)⟩
abbrev AF(a b c:Nat):SOp:=.op ⟨some a,(.bin .eql (.tmp b) (.tmp c)),none⟩
abbrev AH(a b c:Nat)(d:Int):SOp:=.op ⟨some a,(.bin .eql (.tmp c) (.av (.int .i64 d))),some (b,false)⟩
abbrev AI(a b c d e:Nat):SOp:=.op ⟨some a,(.call b [(.tmp c),(.tmp d),(.tmp e)]),none⟩
abbrev AJ(a b:Nat)(c:Int):SOp:=.op ⟨some a,(.bin .lss (.tmp b) (.av (.int .i64 c))),none⟩
abbrev AK(a b c:Nat):SOp:=.op ⟨some a,(.idxS (.tmp b) (.tmp c)),none⟩
abbrev AL(a b:Nat)(c:Int):SOp:=.op ⟨some a,(.bin .geq (.tmp b) (.av (.int .i64 c))),none⟩
abbrev AM(a b c:Nat):SOp:=.op ⟨some a,(.len false (.tmp c)),some (b,false)⟩
abbrev AN(a b c d:Nat):SOp:=.op ⟨some a,(.call c [(.tmp d)]),some (b,false)⟩
abbrev AO(a b:Nat):SOp:=.op ⟨some a,(.call b []),none⟩
abbrev AP(a b c:Nat)(d:Int):SOp:=.op ⟨some a,(.bin .eql (.tmp c) (.av (.int .i64 d))),some (b,true)⟩
abbrev AS(a b c d e:Nat):SOp:=.op ⟨some a,(.call c [(.tmp d),(.tmp e)]),some (b,true)⟩
abbrev AT(a b c d:Nat):aw×Kd:=(⟨some a,(.nilchk (.tmp b)),none⟩,(.read c d))
abbrev AU(a:Nat):SOp:=.op ⟨some a,(.mv (.av .nilptr)),none⟩
abbrev AX(a b c:Nat):SOp:=.op ⟨some a,(.bin .add (.tmp b) (.tmp c)),none⟩
abbrev AY(a b c:Nat):SOp:=.op ⟨some a,(.app 1 1 1 [(.int .u8 0)] (.tmp b) (.tmp c)),none⟩
abbrev AZ(a b c:Nat):SOp:=.op ⟨some a,(.un .not (.tmp c)),some (b,false)⟩
abbrev Ba(a b:Nat):SOp:=.op ⟨some a,(.extract (.tmp b) 2),none⟩
abbrev Bb(a b:Nat)(c:Int):SOp:=.op ⟨some a,(.bin .sub (.tmp b) (.av (.int .i64 c))),none⟩
abbrev Bc(a b c d:Nat):SOp:=.op ⟨some a,(.call c [(.tmp d)]),some (b,true)⟩
abbrev Bd(a b:Nat):SOp:=.op ⟨some a,(.bslice false 1 1 [(.int .u8 0)] [(0,(1,(.tmp b)))]),none⟩
abbrev Be(a b c:Nat):SOp:=.op ⟨some a,(.bin .neq (.tmp b) (.tmp c)),none⟩
abbrev Bf(a b c d e:Nat):aw×Kd:=(⟨some a,(.call b [(.tmp c)]),none⟩,(.read d e))
abbrev Bg(a b c d e:Nat):SOp:=.op ⟨some a,(.iaddr c (.tmp d) (.tmp e)),some (b,true)⟩
abbrev Bh(a b c:Nat)(d:Int):SOp:=.op ⟨some a,(.bin .lss (.tmp c) (.av (.int .i64 d))),some (b,false)⟩
abbrev Bi(a b:Nat):SOp:=.op ⟨some a,(.b2s (.tmp b)),none⟩
abbrev Bj(a b c:Nat):SOp:=.op ⟨some a,(.app 1 1 24 [(.sl [] 0 (some 0))] (.tmp b) (.tmp c)),none⟩
abbrev Bk(a b c:Nat)(d:Int):SOp:=.op ⟨some a,(.bin .neq (.tmp c) (.av (.int .i64 d))),some (b,false)⟩
abbrev Bl(a b c d:Nat):SOp:=.op ⟨some a,(.idxS (.tmp c) (.tmp d)),some (b,true)⟩
abbrev Bm(a b:Nat):SOp:=.op ⟨some a,(.bslice false 1 1 [(.sl [] 0 (some 0))] [(0,(1,(.tmp b)))]),none⟩
abbrev Bn(a:Nat):SOp:=.op ⟨some a,(.alloc [(.str []),(.str [])]),none⟩
abbrev Bo(a:Nat):SOp:=.op ⟨some a,(.alloc [(.str []),(.sl [] 0 (some 0))]),none⟩
abbrev Bp(a b:Nat):SOp:=.op ⟨some a,(.bslice false 5 1 [(.str []),(.str []),(.int .i64 0),(.sl [] 0 (some 0)),(.sl [] 0 (some 0))] [(0,(5,(.tmp b)))]),none⟩
abbrev Bq(a b c:Nat):SOp:=.op ⟨some a,(.app 1 5 88 [(.str []),(.str []),(.int .i64 0),(.sl [] 0 (some 0)),(.sl [] 0 (some 0))] (.tmp b) (.tmp c)),none⟩
abbrev Br(a b c:Nat)(d:Int):SOp:=.op ⟨some a,(.bin .neq (.tmp c) (.av (.int .i64 d))),some (b,true)⟩
abbrev Bt(a b c:Nat):SOp:=.op ⟨some a,(.len true (.tmp c)),some (b,false)⟩
abbrev Bu(a b c:Nat):SOp:=.op ⟨some a,(.un .not (.tmp c)),some (b,true)⟩
abbrev Bv(a b c d:Nat)(e:Int):SOp:=.op ⟨some a,(.call b [(.tmp c),(.tmp d),(.av (.int .i64 e))]),none⟩
abbrev Bw(a b c:Nat):SOp:=.op ⟨some a,(.mget .int false .nilptr (.tmp b) (.tmp c)),none⟩
abbrev Bx(a b c:Nat):SOp:=.op ⟨some a,(.nilchk (.tmp c)),some (b,true)⟩
abbrev By(a:Nat):SOp:=.op ⟨some a,(.alloc [(.str []),(.int .i64 0),(.bool false),(.bool false)]),none⟩
abbrev Bz(a b:Nat):SOp:=.op ⟨some a,(.conv .i64 (.tmp b)),none⟩
abbrev B0(a b c d:Nat):SOp:=.op ⟨some a,(.bin .eql (.tmp c) (.tmp d)),some (b,true)⟩
abbrev B1(a b c:Nat):SOp:=.op ⟨some a,(.callv (.tmp b) [(.tmp c)]),none⟩
abbrev B3(a b c d:Nat):SOp:=.op ⟨some a,(.idxS (.tmp c) (.tmp d)),some (b,false)⟩
abbrev B4(a b c:Nat):SOp:=.op ⟨some a,(.bin .eql (.tmp c) (.av (.int .u8 32))),some (b,true)⟩
abbrev B5(a b:Nat):SOp:=.op ⟨some a,(.bslice false 1 1 [(.str [])] [(0,(1,(.tmp b)))]),none⟩
abbrev B6(a b:Nat):SOp:=.op ⟨some a,(.eqk false .ptr (.tmp b) (.av .nilptr)),none⟩
abbrev B7(a b c:Nat)(d:Int)(e:Nat):SOp:=.op ⟨some a,(.call b [(.tmp c),(.av (.int .i64 d)),(.tmp e)]),none⟩
abbrev B8(a b c:Nat)(d:Int):SOp:=.op ⟨some a,(.bin .lss (.tmp c) (.av (.int .i64 d))),some (b,true)⟩
abbrev B9(a b:Nat):SOp:=.op ⟨some a,(.bslice false 2 1 [(.str []),(.str [])] [(0,(2,(.tmp b)))]),none⟩
abbrev BA(a b c:Nat):SOp:=.op ⟨some a,(.app 1 2 32 [(.str []),(.str [])] (.tmp b) (.tmp c)),none⟩
abbrev BB(a b c d:Nat):SOp:=.op ⟨some a,(.bin .eql (.tmp c) (.tmp d)),some (b,false)⟩
abbrev BC(a b c d e:Nat):SOp:=.op ⟨some a,(.iaddr c (.tmp d) (.tmp e)),some (b,false)⟩
abbrev BD(a b c:Nat)(d:Int):SOp:=.op ⟨some a,(.bin .gtr (.tmp c) (.av (.int .i64 d))),some (b,true)⟩
abbrev BE(a b c:Nat):SOp:=.op ⟨some a,(.app 1 1 16 [(.str [])] (.tmp b) (.tmp c)),none⟩
abbrev BF(a b c:Nat):SOp:=.op ⟨some a,(.bin .sub (.tmp b) (.tmp c)),none⟩
abbrev BG(a b:Nat)(c:Int):SOp:=.op ⟨some a,(.slV 1 (.tmp b) (some (.av (.int .i64 c))) none none),none⟩
abbrev BH(a b:Nat):SOp:=.op ⟨some a,(.bslice false 2 1 [(.str []),(.sl [] 0 (some 0))] [(0,(2,(.tmp b)))]),none⟩
abbrev BI(a:Nat):SOp:=.op ⟨some a,(.bslice false 1 1 [(.str [])] [(0,(1,(.av (.str [100,101,115,99,114,105,112,116,105,111,110]))))]),none⟩
abbrev BJ(a b c d:Nat):SOp:=.op ⟨some a,(.callv (.tmp b) [(.tmp c),(.tmp d)]),none⟩
abbrev BK(a b c:Nat):SOp:=.op ⟨some a,(.app 2 1 16 [(.str [])] (.tmp b) (.tmp c)),none⟩
abbrev BL(a b:Nat)(c:Int):SOp:=.op ⟨some a,(.callv (.tmp b) [(.av (.int .i64 c))]),none⟩
abbrev BM(a b c:Nat)(d:Int):SOp:=.op ⟨some a,(.bin .rem (.tmp c) (.av (.int .i64 d))),some (b,true)⟩
abbrev BN(a b:Nat):SOp:=.op ⟨some a,(.bin .sub (.tmp b) (.av (.int .u8 48))),none⟩
abbrev BO(a b:Nat)(c:Int):SOp:=.op ⟨some a,(.idxS (.tmp b) (.av (.int .i64 c))),none⟩
abbrev BP(a b c:Nat)(d:Int):SOp:=.op ⟨some a,(.bin .geq (.tmp c) (.av (.int .i64 d))),some (b,false)⟩
abbrev BQ(a b c:Nat):SOp:=.op ⟨some a,(.slS (.tmp b) (some (.tmp c)) none),none⟩
abbrev BR(a b:Nat):SOp:=.op ⟨some a,(.bin .eql (.tmp b) (.av (.str []))),none⟩
abbrev BS(a b:Nat):SOp:=.op ⟨some a,(.bin .eql (.tmp b) (.av (.int .u8 0))),none⟩
abbrev BT(a b c:Nat)(d:Int):SOp:=.op ⟨some a,(.bin .sub (.tmp c) (.av (.int .i64 d))),some (b,true)⟩
abbrev BU(a:Nat):SOp:=.op ⟨some a,(.alloc [(.int .i64 0),(.str []),(.str []),(.sl [] 0 (some 0)),(.sl [] 0 (some 0))]),none⟩
abbrev BV(a b c:Nat):SOp:=.op ⟨some a,(.eqk false .ptr (.tmp c) (.av .nilptr)),some (b,false)⟩
abbrev BW(a b c:Nat):SOp:=.op ⟨some a,(.call b [(.tmp c),(.av (.sl [] 0 (some 0)))]),none⟩
abbrev BX(a b c d e:Nat):SOp:=.op ⟨some a,(.call c [(.tmp d),(.tmp e)]),some (b,false)⟩
abbrev BY(a b c d:Nat):SOp:=.op ⟨some a,(.bin .gtr (.tmp c) (.tmp d)),some (b,true)⟩
abbrev BZ(a b c:Nat):SOp:=.op ⟨some a,(.app 1 2 40 [(.str []),(.sl [] 0 (some 0))] (.tmp b) (.tmp c)),none⟩
abbrev Ca(a b c d e f:Nat):SOp:=.op ⟨some a,(.call b [(.tmp c),(.tmp d),(.tmp e),(.tmp f),(.av (.sl [] 0 (some 0)))]),none⟩
abbrev Cb(a b:Nat):SOp:=.op ⟨some a,(.bslice false 4 1 [(.str []),(.int .i64 0),(.bool false),(.bool false)] [(0,(4,(.tmp b)))]),none⟩
abbrev Cc(a b c:Nat):SOp:=.op ⟨some a,(.app 1 4 32 [(.str []),(.int .i64 0),(.bool false),(.bool false)] (.tmp b) (.tmp c)),none⟩
abbrev Cd(a b:Nat)(c:Int):SOp:=.op ⟨none,(.store a (.tmp b) (.av (.int .i64 c))),none⟩
abbrev Ce(a:Nat):SOp:=.op ⟨some a,(.bslice false 1 0 [] []),none⟩
abbrev Cf(a b c:Nat)(d:Int):SOp:=.op ⟨some a,(.idxS (.tmp c) (.av (.int .i64 d))),some (b,false)⟩
abbrev Cg(a b c:Nat)(d:Int):SOp:=.op ⟨some a,(.callv (.tmp c) [(.av (.int .i64 d))]),some (b,false)⟩
abbrev Ch(a b c:Nat)(d e:Int):SOp:=.op ⟨some a,(.slS (.tmp c) (some (.av (.int .i64 d))) (some (.av (.int .i64 e)))),some (b,false)⟩
abbrev Ci(a b:Nat):SOp:=.op ⟨some a,(.bin .neq (.tmp b) (.av (.str []))),none⟩
abbrev Cj(a b c:Nat)(d:Int):SOp:=.op ⟨some a,(.bin .add (.tmp c) (.av (.int .i64 d))),some (b,true)⟩
abbrev Ck(a b c d:Nat):SOp:=.op ⟨some a,(.slS (.tmp b) (some (.tmp c)) (some (.tmp d))),none⟩
abbrev Cl(a b c:Nat)(d:Int):SOp:=.op ⟨some a,(.bin .sub (.tmp c) (.av (.int .i64 d))),some (b,false)⟩
abbrev Cm(a b c:Nat):SOp:=.op ⟨some a,(.slV 2 (.tmp b) none (some (.tmp c)) none),none⟩
abbrev Co(a b:Nat):SOp:=.op ⟨some a,(.bin .geq (.tmp b) (.av (.int .u8 65))),none⟩
abbrev Cp(a b c:Nat):SOp:=.op ⟨some a,(.bin .eql (.tmp c) (.av (.int .u8 32))),some (b,false)⟩
abbrev Cq(a b c:Nat):SOp:=.op ⟨some a,(.slV 1 (.tmp b) none (some (.tmp c)) none),none⟩
abbrev Cr(a:Nat):SOp:=.op ⟨some a,(.mv (.av (.int .u8 0))),none⟩
abbrev Cs(a:Nat):SOp:=.op ⟨some a,(.alloc [(.int .i64 0)]),none⟩
abbrev Ct(a:Nat):SOp:=.op ⟨some a,(.alloc [(.int .i64 0),(.str [])]),none⟩
abbrev Cu(a b c d:Nat):SOp:=.op ⟨some a,(.bin .lss (.tmp c) (.tmp d)),some (b,true)⟩
abbrev Cv(a b c:Nat):aw×Kd:=(⟨some a,(.build [(.str []),(.sl [] 0 (some 0))] [(0,(1,(.tmp b))),(1,(1,(.tmp c)))]),none⟩,.pure)
abbrev Cw(a b c d:Nat):aw×Kd:=(⟨some a,(.bslice false 2 1 [(.str []),(.sl [] 0 (some 0))] [(0,(2,(.tmp b)))]),none⟩,(.read c d))
abbrev Cx(a b:Nat):SOp:=.op ⟨some a,(.bslice false 1 1 [(.int .i64 0)] [(0,(1,(.tmp b)))]),none⟩
abbrev Cy(a b c:Nat):SOp:=.op ⟨some a,(.slV 1 (.tmp b) (some (.tmp c)) none none),none⟩
abbrev Cz(a:Nat):SOp:=.op ⟨some a,(.alloc [.nilptr,.nilptr,.nilptr,(.sl [] 0 (some 0)),(.sl [] 0 (some 0))]),none⟩
abbrev C0(a:Nat):SOp:=.op ⟨some a,(.alloc [(.sl [] 0 (some 0)),(.sl [] 0 (some 0))]),none⟩
abbrev C2(a:Nat):SOp:=.op ⟨some a,(.build [.nilptr,.nilptr,.nilptr,(.sl [] 0 (some 0)),(.sl [] 0 (some 0))] []),none⟩
abbrev C3(a b c:Nat):SOp:=.op ⟨some a,(.pick (.tmp b) (.av (.bool true)) (.tmp c)),none⟩
abbrev LSO:=List SOp
abbrev C4:List Bool:=[true,false]
abbrev C6:List Bool:=[true,false,false]
abbrev C7:List Bool:=[true,false,false,false]
abbrev CA:List Bool:=[true,false,false,false,false]
abbrev CB:List Bool:=[true,false,false,false,false,false]
abbrev CC:List Bool:=[true,false,false,false,false,false,false]
abbrev CD:List Bool:=[true,true,false]
abbrev CE:List Bool:=[true,false,false,false,false,false,false,false]
abbrev CF:List Bool:=[true,true,false,false,false]
abbrev CG:List Bool:=[true,false,false,false,false,false,false,false,false,false]
abbrev CH:List Bool:=[true,true,false,false,false,false,false]
abbrev CI:List Bool:=[true,true,false,false,false,false,false,false]
abbrev CJ:List Bool:=[true,true,true,false]
abbrev CK:List Bool:=[true,false,false,false,false,false,false,false,false,false,false,false]
abbrev CL:List Bool:=[true,true,false,false]
abbrev CM:List Bool:=[true,false,false,false,false,false,false,false,false]
abbrev CN:List Bool:=[false,false,false,false]
abbrev CO:List Bool:=[false,false,false,false,false,false,false,false]
abbrev CP:List Bool:=[true,true,false,false,false,false]
abbrev CQ:List Bool:=[false,false,false,false,false]
abbrev CR:List Bool:=[true,true,false,false,false,false,false,false,false]
abbrev CT:List Bool:=[false,false,false,false,false,false,false]
abbrev CU:List Bool:=[true,false,false,false,false,false,false,false,false,false,false]
abbrev CV:List Bool:=[true,true,true,false,false,false]
abbrev CW:List Bool:=[true,true,true,false,false]
abbrev CY:List Bool:=[false,false]
abbrev CZ:List Bool:=[false,true,false,false,false,false,false,false]
abbrev Da:List Bool:=[true,false,false,false,false,false,false,false,false,false,false,false,false,false]
abbrev Db:List Bool:=[false,true,false,false,false,false,false]
abbrev Dc:List Bool:=[true,true,false,false,false,false,false,false,false,false,false,false]
abbrev Dd:List Bool:=[true,true,true,false,false,false,false,false,false]
abbrev De:List Bool:=[false,false,false]
abbrev Df:List Bool:=[true,false,false,false,false,false,false,false,false,false,false,false,false,false,false,false,false]
abbrev Dg:List Bool:=[false,false,false,false,false,false,false,false,false,false]
abbrev Dh:List Bool:=[false,false,false,false,false,false,false,false,false,false,false,false,false,false]
abbrev Di:List Bool:=[false,false,false,false,false,false]
abbrev Dj:List Bool:=[false,true,false,false,false,false,false,false,false]
abbrev Dk:List Bool:=[true,true,true,false,false,false,false,false,false,false,false,false]
abbrev Dl:List Bool:=[true,true,false,false,false,false,false,false,false,false]
abbrev Dm:List Bool:=[true,false,false,false,false,false,false,false,false,false,false,false,false,false,false]
abbrev Dn:List Bool:=[true,true,false,false,false,false,false,false,false,false,false]
abbrev Dp:List Bool:=[true,false,false,false,false,false,false,false,false,false,false,false,false]
abbrev Dq:List Bool:=[true,true,true,false,false,false,false]
abbrev Dr:List Bool:=[false,true,true,false,false,false,false,false,false,false,false,false,false,false,false,false,false,false,false]
abbrev Ds:List Bool:=[false,true,false,false,false,false,false,false,false,false,false]
abbrev Dt:List Bool:=[false,true,true,false,false,false,false,false,false,false,false,false,false,false,false,false,false]
attribute [push_cast] Aa Ab Ac Ad Ae Af Ag Ah Ai Aj Ak Al Am An Ao Ap Aq Ar As Au Aw Ax Ay Az A0 A3 A5 A6 A7 A8 A9 AA AB AC AD AE AF AH AI AJ AK AL AM AN AO AP AS AT AU AX AY AZ Ba Bb Bc Bd Be Bf Bg Bh Bi Bj Bk Bl Bm Bn Bo Bp Bq Br Bt Bu Bv Bw Bx By Bz B0 B1 B3 B4 B5 B6 B7 B8 B9 BA BB BC BD BE BF BG BH BI BJ BK BL BM BN BO BP BQ BR BS BT BU BV BW BX BY BZ Ca Cb Cc Cd Ce Cf Cg Ch Ci Cj Ck Cl Cm Co Cp Cq Cr Cs Ct Cu Cv Cw Cx Cy Cz C0 C2 C3 C4 C6 C7 CA CB CC CD CE CF CG CH CI CJ CK CL CM CN CO CP CQ CR CT CU CV CW CY CZ Da Db Dc Dd De Df Dg Dh Di Dj Dk Dl Dm Dn Dp Dq Dr Ds Dt
section
variable {P:Program}{w0:World}{S0:SB}{N:Nat}{own:Nat->Nat->Nat}{Q:Exit->Tm->List Blk->Prop}{T:Tm}{L:List Blk}
theorem Rel.none_of{E:Env}{w:World}(h:Rel w0 S0 E L w):∀i,L.length<=i->E.loc i=none/\E.tok i=none:=λi a=>⟨h.fresh i a,h.tkfresh i a⟩
theorem St.cut{E0 E:Env}{a:Act}{w:World}{T':Tm}{L':List Blk}{B:Nat}(f:E0.le E)(k:∀i,B<=i->E0.loc i=none/\E0.tok i=none)(h:St w0 S0 N E T L a w)(b:Cut B T' L' T L):∃E',E0.le E'/\St w0 S0 N E' T' L' a w:=by obtain⟨j,X,rfl,d,l⟩:=b;rcases l with rfl|⟨m,n⟩;exact⟨E,f,by simpa using h.1,h.2.1.sub j,h.2.2⟩;refine⟨E.res L'.length id,ae7 f k d id (λ_ _=>rfl),h.1.cut n,λt v g=>?_,h.2.2⟩;have:=(h.2.1.sub j) t v g;refine VR.cut (E:=E) (E':=E.res L'.length id) (p:=λi=>decide (i<L'.length)) (λ_ _ _ x=>x) (λi c e b=>?_) (λi c e b=>?_) v _ (m _ (N4 g)) this;rw[Env.res_loc (by simpa using e)];exact b;rw[Env.res_tok (by simpa using e)];exact b
def Nxt(B n:Nat)(I:Nat->Tm->List Blk->Prop)(T1:Tm)(L1:List Blk):Prop:=∃m T2 L2,m<n/\Cut B T2 L2 T1 L1/\I m T2 L2
def Mid(B:Nat)(R:Tm->List Blk->Prop)(T1:Tm)(L1:List Blk):Prop:=∃T2 L2,Cut B T2 L2 T1 L1/\R T2 L2
theorem ah{B n:Nat}{I:Nat->Tm->List Blk->Prop}{T1:Tm}{L1:List Blk}(m:Nat)(a:Tm)(L2:List Blk)(d:m<n)(c:Cut B a L2 T1 L1)(b:I m a L2):Nxt B n I T1 L1:=⟨m,a,L2,d,c,b⟩
theorem asS{B:Nat}{T' T:Tm}{L:List Blk}(a:abf T' T:=by repeat' first|exact aeK|refine OU rfl rfl ?_|refine aaP rfl rfl ?_|refine OU rfl (congrArg (AV.int _) asP) ?_|refine OU rfl (by first|(simp_all;done)|(simp_all;omega)|(simp_all;intros;omega)) ?_)(b:B<=L.length:=by simp):Cut B T' L T L:=aeT a b
theorem asT{B:Nat}{T' T:Tm}{L:List Blk}(a:abf T' T:=by repeat' first|exact aeK|refine OU rfl rfl ?_|refine aaP rfl rfl ?_)(b:B<=L.length:=by simp):Cut B T' L T L:=aeT a b
theorem asU{B n:Nat}{I:Nat->Tm->List Blk->Prop}{T1:Tm}{L1:List Blk}{m:Nat}{a:Tm}{L2:List Blk}(d:m<n)(c:Cut B a L2 T1 L1)(b:I m a L2):Nxt B n I T1 L1:=⟨m,a,L2,d,c,b⟩
theorem jQ{B:Nat}{R:Tm->List Blk->Prop}{T1:Tm}{L1:List Blk}(a:Tm)(L2:List Blk)(c:Cut B a L2 T1 L1)(b:R a L2):Mid B R T1 L1:=⟨a,L2,c,b⟩
theorem aj{x:bP}(I:Nat->Tm->List Blk->Prop){n0:Nat}{T0:Tm}{L0:List Blk}(o:Cut L.length T0 L0 T L)(Y:I n0 T0 L0)(round:∀n T' L',I n T' L'->AW P N own x (aeM (Nxt L.length n I) Q) T' L'):AW P N own (.loop x) Q T L:=λc V r H w0 S0 E a w g=>by
 classical
 obtain⟨c1,rfl,p⟩:=ajN V;have C:=g.1.none_of
 let J:Act->World->Nat->Prop:=λa w n=>∃l j E' T' L',Bs w0 S0 l j/\E.le E'/\I n T' L'/\St l j N E' T' L' a w
 have d:∀a w,∃m,(∃n,J a w n)->J a w m/\∀k,J a w k->m<=k:=λa w=>by by_cases h:∃n,J a w n;obtain⟨n,R⟩:=h;obtain⟨m,p,h2⟩:=acT (J a w) n R;exact⟨m,λ_=>⟨p,h2⟩⟩;simp[*]
 let μ:Act->World->Nat:=λa w=>Classical.choose (d a w)
 have D:∀a w,(∃n,J a w n)->J a w (μ a w)/\∀k,J a w k->μ a w<=k:=λa w=>Classical.choose_spec (d a w)
 obtain⟨W,K,S⟩:=g.cut (.refl E) C o;refine wpIn_loop (λa w=>∃n,J a w n) μ ⟨n0,w0,S0,W,_,_,.refl _ _,K,Y,S⟩ λa w M=>?_
 obtain⟨⟨l,j,E',T',L',b,g1,G,g3⟩,_⟩:=D a w M;refine wpIn_mono (round _ T' L' G c1 p r (λe=>H (by simp[bP.hasRF,e])) l j E' a w g3) λe F w' ⟨v,y,s,t,q,z,u,A,B⟩=>?_
 cases e;obtain⟨m,T2,L2,O,i,hI⟩:=A;obtain⟨X,Z,U⟩:=B.cut (g1.trans u) C i;have f:J F w' m:=⟨v,y,X,T2,L2,b.trans z,Z,hI,U⟩;exact⟨⟨m,f⟩,Nat.lt_of_le_of_lt ((D F w' ⟨m,f⟩).2 m f) O⟩
 all_goals exact⟨v,y,s,t,q,b.trans z,g1.trans u,A,B⟩
theorem OV{x y:bP}(R:Tm->List Blk->Prop)(h:AW P N own x (aeM (Mid L.length R) Q) T L)(H:∀i L2,R i L2->L.length<=L2.length->AW P N own y Q i L2):AW P N own (.seq x y) Q T L:=λc z r k w0 S0 E a w d=>by
 obtain⟨F,c2,rfl,q,I⟩:=agG z;refine wpIn_seq (wpIn_mono (h F q r (λe=>k (by simp[bP.hasRF,e])) w0 S0 E a w d) λe K w' ⟨m,l,E',T',L',b,g1,n,g3⟩=>?_);cases e;obtain⟨i,L2,g,j⟩:=n;obtain⟨C,D,A⟩:=g3.cut g1 d.1.none_of g;obtain⟨_,X,_,f,_⟩:=g;exact wpIn_mono (H i L2 j f c2 I r (λe=>k (by simp[bP.hasRF,e])) m l C K w' A) λe J s ⟨u,v,o,G,p,t,g,j,B⟩=>⟨u,v,o,G,p,b.trans t,D.trans g,j,B⟩
 all_goals exact⟨m,l,E',T',L',b,g1,n,g3⟩
theorem TR.cons{E:Env}{a:Act}{t:Nat}{v:AV}(r:TR E T a)(c:VR E v (a.tmps.getD t undef)):TR E ((t,v)::T) a:=λt' b h=>by simp only[ay]at h;split at h;simp_all;exact r t' b h
theorem bR{lc:bP}(t sz:Nat){l:List AV}{n:Nat}(j:ay T t=some (.sl l n (some n)))(D:l.length=n*sz)(h:AW P N own lc Q ((t,.gsl l n L.length sz)::T) (L++[.spare n sz])):AW P N own lc Q T L:=λc B r k w0 S0 E a w d=>by
 obtain⟨f,z⟩:=d.1.addtok (n:=n) (sz:=sz) (lc:=none) Xn;have m:=d.2.1 t _ j;have o:=d.2.1.mono f;refine wpIn_mono (h c B r k w0 S0 _ a w ⟨z,o.cons ?_,d.2.2⟩) λe F w' ⟨C,y,E',T1,L1,b,i,q,x⟩=>⟨C,y,E',T1,L1,b,f.trans i,q,x⟩
 have g:=VR.mono f _ _ m;obtain⟨p,c',A,u,v,s⟩:=g;exact⟨p,c',A,u,D,s,⟨n,sz,none⟩,asQ,apt _,λ_=>⟨rfl,λ_=>v n rfl,asQ⟩⟩
theorem aW{x:Opd}{y z:bP}{p:Prop}[Decidable p](a:evX T x=some (.bool (decide p)))(c:p->AW P N own y Q T L)(b:¬p->AW P N own z Q T L):AW P N own (.cond x y z) Q T L :=
 bd a (λe=>c (of_decide_eq_true e)) (λe=>b (of_decide_eq_false e))
theorem aV{x:Opd}{y z:bP}{p:Prop}[Decidable p](a:evX T x=some (.bool (!decide p)))(c:¬p->AW P N own y Q T L)(b:p->AW P N own z Q T L):AW P N own (.cond x y z) Q T L :=
 bd a (λe=>c (of_decide_eq_false (by simpa using e))) (λe=>b (of_decide_eq_true (by simpa using e)))
end
section
variable {P:Program}{K:Tm->Prop}{L L1:List Blk}{Ls:List (List Blk)}{p:AV}{d:Option Nat}{op:LOp}{rest:List aw}{T:Tm}{t:Nat}{b:Bool}{al:Option Nat}{n:Nat}
def akK(L:List Blk)(k:AV->Prop):Option (Prop×AV×List Blk)->Prop
 |some (c,av,L')=>c/\L'=L/\k av
 |none=>False
theorem aik{k:AV->Prop}{c:Prop}{av:AV}{L':List Blk}:akK L k (some (c,av,L'))=(c/\L'=L/\k av):=rfl
def af0(L L1:List Blk)(k:AV->Prop):Option (Prop×AV×List Blk)->Option (Prop×AV×List Blk)->Prop
 |some (c,av,L'),some (c2,av2,L2)=>c/\L'=L/\c2/\av2=av/\L2=L1/\k av
 |_,_=>False
theorem aij{k:AV->Prop}{c c2:Prop}{av a:AV}{L' L2:List Blk}:af0 L L1 k (some (c,av,L')) (some (c2,a,L2))=(c/\L'=L/\c2/\a=av/\L2=L1/\k av):=rfl
def an8(P:Program)(f:FuncId)(L:List Blk)(k:AV->Prop):Option (List AV)->Prop
 |some args=>∃v,af P f args L (λav L'=>av=v/\L'=L)/\k v
 |none=>False
def amB(P:Program)(f:FuncId)(L L1:List Blk)(k:AV->Prop):Option (List AV)->Prop
 |some args=>∃v,af P f args L (λav L'=>av=v/\L'=L)/\af P f args L1 (λav L'=>av=v/\L'=L1)/\k v
 |none=>False
def aeR(b:Bool)(y n:Prop):Option AV->Prop
 |some (.bool x)=>if x=b then y else n
 |some (.tup [])=>n
 |_=>False
theorem aim{b x:Bool}{y n:Prop}:aeR b y n (some (.bool x))=if x=b then y else n:=rfl
theorem akO{b:Bool}{y n:Prop}:aeR b y n (some (.tup []))=n:=rfl
def amT(P:Program)(f:FuncId)(args:List AV)(L L1:List Blk)(k:AV->Prop):Prop:=∃v,af P f args L (λav L'=>av=v/\L'=L)/\af P f args L1 (λav L'=>av=v/\L'=L1)/\k v
theorem bf{f:FuncId}{args:List AV}{k:AV->Prop}{v:AV}(h:af P f args L (λav L'=>av=v/\L'=L))(b:af P f args L1 (λav L'=>av=v/\L'=L1))(a:k v):amT P f args L L1 k:=⟨v,h,b,a⟩
theorem an7{f:FuncId}{k:AV->Prop}{args:List AV}:an8 P f L k (some args)=akR P f args L k:=rfl
theorem an6{f:FuncId}{k:AV->Prop}{args:List AV}:amB P f L L1 k (some args)=amT P f args L L1 k:=rfl
theorem akT{o:aw}{v:AV}(h:o.op.isCall=false):AQv P o T L v=(match au T L o.op with|some (c,av,L')=>c/\av=v/\L'=L|none=>False):=by obtain⟨d,op,g⟩:=o;cases op<;>simp only[LOp.isCall,aqN]at h<;>rfl
def abg(P:Program)(L:List Blk)(k:AV->Prop)(T:Tm)(op:LOp):Prop :=
 match op with
 |.call f xs=>an8 P f L k (je T xs)
 |.callv f xs=>∃v,AQv P ⟨none,.callv f xs,none⟩ T L v/\k v
 |lo=>akK L k (au T L lo)
def akH(P:Program)(L L1:List Blk)(k:AV->Prop)(T:Tm)(op:LOp):Prop :=
 match op with
 |.call f xs=>amB P f L L1 k (je T xs)
 |.callv f xs=>∃v,(AQv P ⟨none,.callv f xs,none⟩ T L v/\AQv P ⟨none,.callv f xs,none⟩ T L1 v)/\k v
 |lo=>af0 L L1 k (au T L lo) (au T L1 lo)
def AGK(P:Program)(K:Tm->List Blk->Prop)(Ls:List (List Blk))(H:List pi)(rest:List (aw×Kd))(d:Option Nat)(T:Tm)(av:AV):Prop:=AG P K rest Ls H (dj d av T)
def AGR(P:Program)(K:Tm->List Blk->Prop)(Ls:List (List Blk))(H:List pi)(rest:List (aw×Kd))(f:Nat)(o:aw)(T:Tm)(av:AV):Prop:=AG P K rest Ls (afs f o T av H) (dj o.dst av T)
def AGE(P:Program)(K:Tm->List Blk->Prop)(Ls:List (List Blk))(H:List pi)(rest:List (aw×Kd))(d:Option Nat)(T:Tm)(av:AV)(L2:List Blk):Prop:=J0 P L2 H/\AG P K rest (L2::Ls) (ST H) (dj d av T)
def akJ(k:AV->List Blk->Prop):Option (Prop×AV×List Blk)->Prop
 |some (c,av,L2)=>c/\k av L2
 |none=>False
theorem aii{k:AV->List Blk->Prop}{c:Prop}{av:AV}{L2:List Blk}:akJ k (some (c,av,L2))=(c/\k av L2):=rfl
def IsV(v av:AV):Prop:=av=v
theorem anv{o:aw}{T:Tm}{v:AV}{H:List pi}:afs 0 o T v H=H:=rfl
theorem anu{f:Nat}{o:aw}{T:Tm}{v:AV}{H:List pi}:afs (f+1) o T v H=(f+1,o,T,v)::H:=rfl
theorem akn:ST []=[]:=rfl
theorem akm{y:aw×Tm×AV}{H:List pi}:ST ((1,y)::H)=ST H:=rfl
theorem anI{y:aw×Tm×AV}{H:List pi}:ST ((n+2,y)::H)=(n+1,y)::ST H:=rfl
theorem OW{k:AV->Prop}:(∃v,AQ P ⟨d,op,none⟩ T L v/\k v)=abg P L k T op:=by
 by_cases h:op.isCall=false;have e:abg P L k T op=akK L k (au T L op):=by cases op<;>simp only[LOp.isCall,aqN]at h<;>rfl
 rw[e];simp only[AQ,akT (o:=⟨d,op,none⟩) h];rcases au T L op with _|⟨c,av,L'⟩;simp[akK];simp only[akK,eq_iff_iff]
 grind
 cases op<;>simp only[LOp.isCall,not_true_eq_false]at h;rename_i f xs;simp only[AQ,AQv,abg];rcases je T xs with _|args;simp[an8];rfl;rfl
theorem amD{k:AV->Prop}:(∃v,(AQ P ⟨d,op,none⟩ T L v/\AQ P ⟨d,op,none⟩ T L1 v)/\k v)=akH P L L1 k T op:=by
 by_cases h:op.isCall=false;have e:akH P L L1 k T op=af0 L L1 k (au T L op) (au T L1 op):=by cases op<;>simp only[LOp.isCall,aqN]at h<;>rfl
 rw[e];simp only[AQ,akT (o:=⟨d,op,none⟩) h];rcases au T L op with _|⟨c,av,L'⟩<;>rcases au T L1 op with _|⟨c2,a,L2⟩;simp[af0];simp[af0];simp[af0];simp only[af0,eq_iff_iff]
 grind
 cases op<;>simp only[LOp.isCall,not_true_eq_false]at h;rename_i f xs;simp only[AQ,AQv,akH];rcases je T xs with _|args;simp[amB];simp only[amB,and_assoc];rfl
theorem af8{k:AV->Prop}{g:aw->AV->Prop}(a:∀v,g ⟨d,op,some (t,b)⟩ v=match ay T t with|some (.bool x)=>if x=b then g ⟨d,op,none⟩ v else v=.tup []|some (.tup [])=>v=.tup []|_=>False):
  (∃v,g ⟨d,op,some (t,b)⟩ v/\k v)=aeR b (∃v,g ⟨d,op,none⟩ v/\k v) (k (.tup [])) (ay T t):=by
 simp only[a];rcases ay T t with _|x;simp[aeR];cases x<;>simp only[aeR,false_and,exists_false]
 grind
 grind
theorem aoc{K:Tm->List Blk->Prop}{H:List pi}:AG P K [] (L::Ls) H T=K T L:=rfl
theorem amF{K:Tm->List Blk->Prop}{H:List pi}{r:List (aw×Kd)}:AG P K ((⟨d,op,none⟩,.pure)::r) (L::Ls) H T=abg P L (AGK P K (L::Ls) H r d T) T op:=OW
theorem akY{K:Tm->List Blk->Prop}{H:List pi}{r:List (aw×Kd)}:AG P K ((⟨d,op,some (t,b)⟩,.pure)::r) (L::Ls) H T=aeR b (abg P L (AGK P K (L::Ls) H r d T) T op) (AGK P K (L::Ls) H r d T (.tup [])) (ay T t):=by rw[<- OW (d:=d)];exact af8 (g:=λo v=>AQ P o T L v) λv=>rfl
theorem akX{K:Tm->List Blk->Prop}{H:List pi}{r:List (aw×Kd)}{f:Nat}:AG P K ((⟨d,op,none⟩,.read 0 f)::r) (L::Ls) H T=abg P L (AGR P K (L::Ls) H r f ⟨d,op,none⟩ T) T op:=by rw[<- OW (d:=d)];simp only[AG,aq4,aqX,apT,forall_eq,AGR]
theorem air{K:Tm->List Blk->Prop}{H:List pi}{r:List (aw×Kd)}{f:Nat}:AG P K ((⟨d,op,some (t,b)⟩,.read 0 f)::r) (L::Ls) H T=aeR b (abg P L (AGR P K (L::Ls) H r f ⟨d,op,some (t,b)⟩ T) T op) (AGR P K (L::Ls) H r f ⟨d,op,some (t,b)⟩ T (.tup [])) (ay T t):=by rw[<- OW (d:=d)];simp only[AG,aq4,aqX,apT,forall_eq];exact af8 (g:=λo v=>AQ P o T L v) (k:=AGR P K (L::Ls) H r f ⟨d,op,some (t,b)⟩ T) λv=>rfl
theorem akW{K:Tm->List Blk->Prop}{H:List pi}{r:List (aw×Kd)}{f:Nat}:AG P K ((⟨d,op,none⟩,.read 1 f)::r) (L::L1::Ls) H T=akH P L L1 (AGR P K (L::L1::Ls) H r f ⟨d,op,none⟩ T) T op:=by rw[<- amD (d:=d)];simp only[AG,aq4,aqX,apP,aqq,or_false,forall_eq_or_imp,forall_eq,AGR]
def aoX(P:Program)(L:List Blk)(k:AV->List Blk->Prop)(T:Tm)(op:LOp):Prop :=
 match op with
 |.call f xs=>∃v L2,EQv P ⟨none,.call f xs,none⟩ T L v L2/\k v L2
 |.callv f xs=>∃v L2,EQv P ⟨none,.callv f xs,none⟩ T L v L2/\k v L2
 |lo=>akJ k (au T L lo)
theorem aod{K:Tm->List Blk->Prop}{H:List pi}{r:List (aw×Kd)}:AG P K ((⟨d,op,none⟩,.eff)::r) (L::Ls) H T=aoX P L (AGE P K (L::Ls) H r d T) T op:=by
 simp only[AG,EQ];have key:∀lo:LOp,lo.isCall=false->(∃v L2,EQv P ⟨d,lo,none⟩ T L v L2/\AGE P K (L::Ls) H r d T v L2)=akJ (AGE P K (L::Ls) H r d T) (au T L lo):=λlo hlo=>by
  have e:∀v L2,EQv P ⟨d,lo,none⟩ T L v L2=(match au T L lo with|some (c,av,L')=>c/\av=v/\L'=L2|none=>False):=λv L2=>by cases lo<;>simp only[LOp.isCall,aqN]at hlo<;>rfl
  simp only[e];rcases au T L lo with _|⟨c,av,L'⟩;simp[akJ];simp only[akJ,eq_iff_iff]
  grind
 have key2:(∃v L2,EQv P ⟨d,op,none⟩ T L v L2/\J0 P L2 H/\AG P K r (L2::L::Ls) (ST H) (dj d v T))=(∃v L2,EQv P ⟨d,op,none⟩ T L v L2/\AGE P K (L::Ls) H r d T v L2):=rfl;cases op
 case call=>rfl
 case callv=>rfl
 all_goals exact key _ rfl
theorem ail:J0 P L []=True:=rfl
theorem af1{f:Nat}{v:AV}{H:List pi}:J0 P L ((f,⟨d,op,none⟩,T,v)::H)=(abg P L (IsV v) T op/\J0 P L H):=by rw[<- OW (d:=d)];simp[J0,IsV]
theorem aeL{f:Nat}{v:AV}{H:List pi}:J0 P L ((f,⟨d,op,some (t,b)⟩,T,v)::H)=(aeR b (abg P L (IsV v) T op) (IsV v (.tup [])) (ay T t)/\J0 P L H):=by rw[<- OW (d:=d),<- af8 (g:=λo v=>AQ P o T L v) (k:=IsV v) (d:=d) (op:=op) (t:=t) (b:=b) (T:=T) λv=>rfl];simp[J0,IsV]
theorem bA{N:Nat}{own:Nat->Nat->Nat}{Q:Exit->Tm->List Blk->Prop}{qk:List (aw×Kd)}{ts:List aw}(h:AG P (nG P (Q .normal) ts) qk [L] [] T):AW P N own (.dregion qk ts) Q T L:=aaX h
end
theorem WL(xs:List Int):AV.frzL (xs.map (AV.int .i64))=xs.map (AV.int .i64):=by rw[AV.frzL_eq,apS];rfl
theorem ajq(xs:List Int):(xs.map (AV.int .i64)).all AV.one=true:=by rw[List.all_map];simp[AV.one]
theorem amZ:IntKind.i64.wrap 0=0:=by decide
theorem amY:IntKind.i64.wrap 1=1:=by decide
theorem amX:IntKind.i64.wrap 2=2:=by decide
theorem ak1:IntKind.i64.wrap (-1)=-1:=by decide
structure Nx(p:Prop):Prop where
 o:p
structure NxI(c p:Prop):Prop where
 o:c->p
theorem bJ{c p:Prop}(h:c->p):NxI c p:=⟨h⟩
theorem cS{p:Prop}(h:p):Nx p:=⟨h⟩
section
variable {P:Program}{L:List Blk}{body:List SOp}{d:Nat}{x:Opd}{k:Tm->Prop}{T:Tm}{c:Prop}[Decidable c]{p q:Bool}
theorem bL(h:NxI (c) (GL P L body (IsX x q) T))(a:Nx (k ((d,.bool (decide c&&q))::T))):GQ P L true body d x k T (decide c):=⟨q,λe=>h.o (of_decide_eq_true e),a.o⟩
theorem br(h:NxI (¬c) (GL P L body (IsX x q) T))(a:Nx (k ((d,.bool (!decide c&&q))::T))):GQ P L true body d x k T (!decide c):=⟨q,λe=>h.o (by simpa using e),a.o⟩
theorem bM(h:NxI (¬c) (GL P L body (IsX x q) T))(a:Nx (k ((d,.bool (decide c ||q))::T))):GQ P L false body d x k T (decide c):=⟨q,λe=>h.o (of_decide_eq_false e),a.o⟩
theorem bu(h:NxI (c) (GL P L body (IsX x q) T))(a:Nx (k ((d,.bool (!decide c ||q))::T))):GQ P L false body d x k T (!decide c):=⟨q,λe=>h.o (by simpa using e),a.o⟩
theorem bN(h:NxI (p=true) (GL P L body (IsX x q) T))(a:Nx (k ((d,.bool (p&&q))::T))):GQ P L true body d x k T p:=⟨q,h.o,a.o⟩
theorem bv(h:NxI (p=false) (GL P L body (IsX x q) T))(a:Nx (k ((d,.bool (p ||q))::T))):GQ P L false body d x k T p:=⟨q,h.o,a.o⟩
variable {a b:Prop}[Decidable a][Decidable b]
theorem anU:(decide a&&decide b)=decide (a/\b):=(arZ a b).symm
theorem anS:(!decide a&&decide b)=decide (¬a/\b):=by simp[arZ]
theorem anT:(decide a && !decide b)=decide (a/\¬b):=by simp[arZ]
theorem anR:(!decide a && !decide b)=decide (¬a/\¬b):=by simp[arZ]
theorem aon:(decide a ||decide b)=decide (a\/b):=(ask a b).symm
theorem aol:(!decide a ||decide b)=decide (¬a\/b):=by simp[ask]
theorem aom:(decide a || !decide b)=decide (a\/¬b):=by simp[ask]
theorem aok:(!decide a || !decide b)=decide (¬a\/¬b):=by simp[ask]
end
attribute [push_cast] amv evD deg apN an3 ao2 an4 amz ao1 ao0 aoW anY aoV anX anZ agn amG amH akP ao3 agU aoZ GOp IsX anU anS anT anR aon aol aom aok ap0 arJ aqg ar0 ari ar1 aqG arv arg arW
attribute [push_cast] amZ amY amX ak1 AGK AGR AGE IsV aii anv anu akn akm anI aoc amF akY akX air akW aod aoX ail af1 aeL aik aij an7 an6 aim akO abg akH eq_self af7 adC akU aiq af9 ED ac9 akI akQ aio AOp au evX je ay dj bin amk amj un eqA row lP AV.cells? bnd aeM af2 ag Zh adC elems app aaK gq AV.frz AV.frzL WL ajq aqF Option.bind_none apN aqb aql arH if_true if_false true_and and_true apC ap9 apB apQ aqm aqu YX nK alp alo amt aqa apZ ap4 aqz aqA Nat.mul_one Nat.one_mul apU Nat.mul_zero arj arM arg arW decide_true decide_false forall_const not_true_eq_false not_false_eq_true ne_eq apL aqN arw arN aq4 aqX d7 List.set_cons_zero aqS aqE art AV.one arx arJ ap0 false_implies implies_true decide_eq_true_eq decide_eq_false_iff_not aru Int.toNat_zero Int.toNat_natCast aqd Bool.not_not Bool.not_eq_false
theorem Rel.frzB{w0:World}{S0:SB}{E:Env}{L:List Blk}{w:World}(h:Rel w0 S0 E L w){i:Nat}{c:List AV}(u:L[i]?=some (.cells c)):Rel w0 S0 E (L.set i (.cells (AV.frzL c))) w:=by
 have l:i<L.length:=(aps.1 u).1;have m:∀(j:Nat) (k:Blk),(L.set i (.cells (AV.frzL c)))[j]?=some k->k.live=true->∃k',L[j]?=some k'/\k'.live=true:=λj k f r=>by rw[ap3]at f;split at f;rename_i e;subst e;exact⟨_,u,rfl⟩;exact⟨k,f,r⟩
 have g:∀(j n sz:Nat),(L.set i (.cells (AV.frzL c)))[j]?=some (.spare n sz)->L[j]?=some (.spare n sz):=λj n sz f=>by rw[ap3]at f;split at f;cases f;exact f
 refine⟨h.mem,λj k f=>?_,λi l=>h.fresh i (by simpa using l),λi k c f r O=>?_,λi j k k' c c' l H x K=>?_,
  λi l=>h.tkfresh i (by simpa using l),λi n sz t d l=>h.tkown i n sz t d (g i n sz l),λi n sz t d j k' c' l A z x r=>?_,
  λi n sz t d C D q t' Q l A z y=>h.tkinj i n sz t d C D q t' Q (g i n sz l) A z (g C D q y),h.frame,h.size,h.os,h.tape,h.output,h.glob,h.gsz⟩
 rw[ap3]at f;split at f;rename_i e;subst e;cases f;obtain⟨P,cs,ty,fr,g1,F,g3,g4,I,J⟩:=h.blk _ _ u;refine⟨P,cs,ty,fr,g1,F,g3,by rw[AV.frzL_eq];simpa using g4,λj a B=>?_,J⟩;rw[AV.frzL_eq,aqk,ap6]at B;obtain⟨b,G,rfl⟩:=B;obtain⟨v,o,p⟩:=I j b G;exact⟨v,o,VR.frz _ _ p⟩;exact h.blk j k f;obtain⟨k',o,p⟩:=m i k f r;exact h.own i k' c o p O;obtain⟨s,o,p⟩:=m i k l H;obtain⟨N,M,h4⟩:=m j k' x K;exact h.inj i j s N c c' o p M h4;obtain⟨s,o,p⟩:=m j k' x r;exact h.tkloc i n sz t d j s c' (g i n sz l) A z o p
theorem iL{P:Program}{f:FuncId}{args:List AV}{L:List Blk}{K:AV->List Blk->Prop}(h:af P f (AV.frzL args) L K):af P f args L K:=λw0 S0 E w vs b a =>
 h w0 S0 E w vs b (VRL.frz _ _ a)
end Go.Proofs.YtdnfjhflkkpokaaGreatDoor.Av
