/- Joined texts of the walk, made small by a program. -/
import Derived.Test.YtajkbcmleihaoaaGreatDoorWk3
import Derived.Scope
import Derived.Test.YtajkbcmleihaoaaGreatDoorProg
set_option linter.unusedSimpArgs false
set_option linter.unusedVariables false
namespace Go.Proofs.YtajkbcmleihaoaaGreatDoor.Av
open Go
variable {T':Tm}{L2 L':List Blk}{v:AV}{α:Type}{B:Nat}
def EQv(P:Program)(o:aj)(T:Tm)(L:List Blk)(v:AV)(L2:List Blk):Prop :=
 match o.op with
 | .call f xs=>match iz T xs with
   |some args=>ae P f args L λav L'=>av=v/\L'=L2
   |none=>False
 | .callv f xs=>match evX T f,iz T xs with
   |some (.func g caps),some args=>ae P g (args++caps) L λav L'=>av=v/\L'=L2
   |_,_=>False
 | lo=>match ak T L lo with
   |some (c,av,L')=>c/\av=v/\L'=L2
   |none=>False
def EQ(P:Program)(o:aj)(T:Tm)(L:List Blk)(v:AV)(L2:List Blk):Prop :=
 match o.guard with
 |none=>EQv P o T L v L2
 | some (t,b)=>match ar T t with
   |some (.bool x)=>if x=b then EQv P o T L v L2 else v=.tup []/\L2=L
   |some (.tup [])=>v=.tup []/\L2=L
   |_=>False
theorem EQv.congr{P:Program}{o:aj}{T:Tm}{L:List Blk}(a:∀t∈o.op.tmps,ar T t=ar T' t)(b:EQv P o T L v L2):EQv P o T' L v L2:=by unfold EQv at b⊢;split at b;rename_i f xs e;rw[e]at a;rw[<- jA (l:=xs) a];exact b;rename_i f xs e;rw[e]at a;simp only[LOp.tmps,aen]at a;rw[<- jA (l:=xs) (λt c=>a t (.inr c)),<- ax (x:=f) (λt c=>a t (.inl c))];exact b;rw[<- LO a];exact b
theorem EQ.congr{P:Program}{o:aj}{T:Tm}{L:List Blk}(h:∀t∈o.reads,ar T t=ar T' t)(a:EQ P o T L v L2):EQ P o T' L v L2:=by
 have c:∀t∈o.op.tmps,ar T t=ar T' t:=λt f=>h t (by simp[aj.reads,f])
 unfold EQ at a⊢;split at a;exact a.congr c;rename_i t b d;rw[<- h t (by simp[aj.reads,d])];split at a;split at a;rename_i e;rw[if_pos e];exact a.congr c;simp[*];omega;omega
theorem EQv.aop{P:Program}{o:aj}{T:Tm}{L:List Blk}(a:EQv P o T L v L2):AOp P o (λT' L'=>T'=bz o.dst v T/\L'=L2) T L:=by
 unfold EQv at a;unfold AOp;split at a;rename_i f xs e;simp only[e];split at a;rename_i args h;rw[h];exact ae.mono a λav L' ⟨b,d⟩=>⟨by rw[b],d⟩
 simp_all;rename_i f xs e;simp only[e];split at a;rename_i g caps args j h;rw[j,h];exact ae.mono a λav L' ⟨b,d⟩=>⟨by rw[b],d⟩
 simp_all;rename_i m b d;split at a;rename_i c av L' k;have i:Res (λT' L'=>T'=bz o.dst v T/\L'=L2) o.dst T (ak T L o.op):=by rw[k];obtain⟨l,rfl,rfl⟩:=a;exact⟨l,rfl,rfl⟩
 simp_all;simp_all
theorem EQ.aops{P:Program}{o:aj}{T:Tm}{L:List Blk}(a:EQ P o T L v L2):l7 P (λT' L'=>T'=bz o.dst v T/\L'=L2) [o] T L:=by unfold EQ at a;simp only[l7];split at a;rename_i d;simp only[d];exact a.aop;rename_i t b d;simp only[d];split at a;rename_i x c;rw[c,yz];split at a;rename_i e;rw[if_pos e];exact a.aop;simp[*];rename_i c;rw[c,Sr];exact⟨by rw[a.1],a.2.symm⟩;simp_all
def done(es:List Nat)(listed:Array Bool):Nat:=es.countP λe=>listed.getD e false
theorem N8:∀(es:List Nat) (f:Nat->Bool) (m:Nat),(∀(j e:Nat),es[j]?=some e->f e=decide (j<m))->m<=es.length->es.countP f=m
 |[],f,m,_,hm=>by simp at hm;simp[hm]
 | e::es,f,0,h,_=>by
   refine agW.2 λx a=>?_
   obtain⟨j,b,rfl⟩:=agf.1 a;have:=h j _ (aeF b);simp[*]
 |e::es,f,m+1,h,hm=>by rw[List.countP_cons_of_pos (by have:=h 0 e rfl;simpa using this)];rw[N8 es f m (λj x a=>by have:=h (j+1) x (by simpa using a);rw[this];congr 1;simp) (by simpa using hm)]
theorem NY:∀(es:List Nat) (f:Nat->Bool),(∀(j i e d:Nat),es[j]?=some e->es[i]?=some d->j<i->f d=true->f e=true)->∀(j e:Nat),es[j]?=some e->f e=decide (j<es.countP f)
 |[],f,_,j,e,h=>by simp at h
 | x::es,f,hp,j,e,h=>by
   have o:=NY es f λa b y z l m p=>hp (a+1) (b+1) y z (by simpa using l) (by simpa using m) ahd
   by_cases g:f x=true
   .grind
   .have all:∀y∈es,f y=false:=λy c=>by
     obtain⟨k,n,rfl⟩:=agf.1 c;rcases hf:f es[k]with _|_
     .rfl
     .exact absurd (hp 0 (k+1) x es[k] rfl ahe ahd hf) g
    rw[List.countP_cons_of_neg g,agW.2 (λy c=>by simp[all y c])]
    grind
section
variable {P:Program}{r:Option Nat}{w0:World}{S0:SB}{N:Nat}{own:Nat->Nat}{ops:Array Oper}{L:List Blk}
theorem Vt{O:List aj}{n:Nat}(a4:bp P N own ops (List.range ops.size)=some O)(a_:Gi ops O n=true){qs ts:List aj}(s:O=qs++ts)(hn:qs.length=n){es:List Nat}{Ms:Nat->List Blk}(bk:∀e∈es,e<qs.length)(a0:∀(j j' e e':Nat),es[j]?=some e->es[j']?=some e'->j<j'->((nG ops.toList []).getD e' 0).testBit e=true){K:Tm->List Blk->Prop}{T:Tm}{Q:Exit->Act->World->Prop}{E0:Env}{tr:List AV}(a2:tr.length=qs.length)(hq:∀(i:Nat) (o:aj) (v:AV),qs[i]?=some o->tr[i]?=some v->(∃m,es[m]?=some i/\EQ P o (TL T qs tr 0 λj=>decide (j<i)) (Ms m) v (Ms (m+1))) \/
   (i∉es/\∀m,m<=es.length->(∀(j e:Nat),es[j]?=some e->j<m->((nG ops.toList []).getD e 0).testBit i=false)->(∀(j e:Nat),es[j]?=some e->m<=j->((nG ops.toList []).getD i 0).testBit e=false)->AQ P o (TL T qs tr 0 λj=>decide (j<i)) (Ms m) v))(hK:l7 P K ts (TL T qs tr 0 λ_=>true) (Ms es.length))(hQ:∀E' T' L' a' w',E0.le E'->K T' L'->St w0 S0 N E' T' L' a' w'->Q .normal a' w'):
  ∀(g:Nat) (b:Array Bool) (a:Act) (w:World) (E:Env),b.size=ops.size->b.toList.count false=g->MJ ops b->E0.le E ->
   (∀i,qs.length<=i->b.getD i false=false)->St w0 S0 N E (TL T qs tr 0 λj=>b.getD j false) (Ms (done es b)) a w->wpAnyIn (fo r) 0 P .any ops Q g b a w:=by
 simp only[Gi,aeq]at a_;generalize htbl:nG ops.toList []=tbl at a_ a0 hq;obtain⟨⟨⟨⟨a9,a7⟩,c⟩,f⟩,S⟩:=a_;have a6:=yJ a4;have bn:O.length=ops.size:=by simpa using a6.1
 have b5:∀i,i<ops.size->∃lo,O[i]?=some lo/\mc P N own ops i=some lo:=λi hi=>a6.2 i i (by simp[hi])
 have hD:Uk qs:=by
  have:=P1 a9;rw[s]at this;have sub:∀(qs ts:List aj),Uk (qs++ts)->Uk qs:=by
   intro qs;induction qs with
   |nil=>intro _ _;trivial
   |cons q qs ih=>intro ts h;exact⟨λp M=>h.1 p (by simp[M]),ih ts h.2⟩
  grind
 have ap:qs.length+ts.length=ops.size:=by rw[<- bn,s];simp
 have D:∀b:Array Bool,b.size=ops.size->Region.ready .any ops b=[]->∀i,i<ops.size->b.getD i false=true:=by
  intro b y hr i;induction i using Nat.strongRecOn with
  | _ i ih =>
    intro hi;rcases Z:b.getD i false with _|_
    .exfalso;have:i∈Region.ready .any ops b:=by
      refine mem_ready.2 ⟨?_,ops[i],ae7 hi,λe G b2=>?_⟩
      .have B:i<b.size:=ahd;simp[afD,B]at Z⊢;exact Z
      .have:=aev.1 c (ops[i],i) (by rw[age];simp[hi])
       have:=aev.1 this e (by simpa using G);simp only[b2,agt,agh,decide_eq_true_eq]at this;exact ih e.on this ahd
     rw[hr]at this;cases this
    .rfl
 have an:∀(b:Array Bool) (i:Nat),b.size=ops.size->i<ops.size->b.getD i true=b.getD i false:=λb i d W=>by have:i<b.size:=ahd;simp[afD,this]
 have R:∀(b:Array Bool) (a:Act) (w:World) (E:Env) (g:Nat),b.size=ops.size->b.toList.count false=g->MJ ops b->E0.le E->(∀i,qs.length<=i->b.getD i false=false)->St w0 S0 N E (TL T qs tr 0 λj=>b.getD j false) (Ms (done es b)) a w ->
   (∀i,i<qs.length->b.getD i false=true)->wpAnyIn (fo r) 0 P .any ops Q g b a w:=by
  intro b a w E g y z l hE F I x;have b0:TL T qs tr 0 (λj=>b.getD j false)=TL T qs tr 0 λ_=>true:=Sp λj hj=>by simp only[afE];exact x j hj
  have hL:Ms (done es b)=Ms es.length:=by congr 1;exact List.countP_eq_length.2 λe G=>x e (bk e G)
  rw[b0,hL]at I;have bb:O.drop qs.length=ts:=(by rw[s];simp);have bd:g=ts.length:=by
   rw[<- z,<- Nat.add_left_cancel_iff (n:=qs.length),ap,<- y];have e:b.toList=List.replicate qs.length true++List.replicate (b.size-qs.length) false:=by
    apply afj;intro i;rcases aeN i qs.length with d|d
    .have:=x i d;have A:i<b.size:=ahd;rw[aem (by simpa using d)];simp[afD,A]at this;simp[A,d,this]
    .rw[aey (by simpa using d)];have:=F i d;rcases aeN i b.size with W|W
     .simp[afD,W]at this;simp only[af3];rw[List.getElem?_replicate];rw[if_pos ahd];simp[W,this]
     .rw[afb (by simpa using W),afb (by simp;omega)]
   rw[e];simp[List.count_append,agJ];omega
  rw[bd];exact Ut a4 c f S hQ ts qs.length b _ _ a w E ahd ap bb y (λi hi=>by
   rcases aeN i qs.length with d|d
   .rw[x i d];simpa using d
   .rw[F i d];simpa using d) l hE I hK
 intro g;induction g with
 | zero =>
   intro b a w E y z l hE F I;have hr:Region.ready .any ops b=[]:=by
    refine List.eq_nil_iff_forall_not_mem.2 λi hi=>?_
    obtain⟨d,o,ho,_⟩:=mem_ready.1 hi;have B:i<ops.size:=(ae1.1 ho).1;have:false∈b.toList:=by have A:i<b.size:=ahd;simp[afD,A]at d;rw[<- d];simp
    rw[List.count_eq_zero]at z;exact z this
   exact R b a w E 0 y z l hE F I λi hi=>D b y hr i ahd
 | succ g ih =>
   intro b a w E y z l hE F I;by_cases x:∀i,i<qs.length->b.getD i false=true
   .exact R b a w E _ y z l hE F I x
   refine⟨λhr=>absurd (λi hi=>D b y hr i ahd) x,λi hi=>?_⟩;obtain⟨b6,o,ho,av⟩:=mem_ready.1 hi;have B:i<ops.size:=(ae1.1 ho).1;have L:b.getD i false=false:=(by rw[<- an b i y B];exact b6);obtain⟨lo,X,a3⟩:=b5 i B;have u:∀V,ops[i]?=some V->∀e∈V.after,Region.binds .any e=true->b.getD e.on false=true:=λV C=>by rw[ho]at C;cases C;exact av
   have H:∀k,(b.setIfInBounds i true).getD k false=if k=i then true else b.getD k false:=λk=>by
    by_cases e:k=i
    .subst e;have:k<b.size:=ahd;simp[afD,this]
    .rw[if_neg e];exact getD_set_ne false (Ne.symm e)
   have al:(b.setIfInBounds i true).toList.count false=g:=by
    have A:i<b.size:=ahd;have:=XI b.toList i (by simp[afD,A]at L;simp[A,L])
    rw[Array.toList_setIfInBounds];omega
   have a5:MJ ops (b.setIfInBounds i true):=λk V hk C e G Z=>by
    rw[H]at hk⊢;by_cases U:e.on=i
    .rw[if_pos U]
    .rw[if_neg U];by_cases e2:k=i
     .subst e2;exact u V C e G Z
     .rw[if_neg e2]at hk;exact l k V hk C e G Z
   rcases aeN i qs.length with bl|bl
   .
    have a1:qs[i]?=some lo:=by rw[s,aem bl]at X;exact X
    have bo:i<tr.length:=ahd;have Y:∀t∈lo.reads,ar (TL T qs tr 0 λj=>decide (j<i)) t=ar (TL T qs tr 0 λj=>b.getD j false) t:=by
     intro t ht;by_cases hw:∃(j:Nat) (p:aj),qs[j]?=some p/\p.dst=some t
     .obtain⟨j,p,M,hd⟩:=hw;have b1:j<qs.length:=(aei.1 M).1;rw[Sn hD a2 M hd,Sn hD a2 M hd];have bs:O[j]?=some p:=(by rw[s,aem b1];exact M);have:=aev.1 a7 (lo,i) (by rw[age];simpa using X);have:=aev.1 this t ht;have:=aev.1 this (p,j) (by rw[age];simpa using bs);simp only[hd,beq_self_eq_true,agt,agh,ae4,agX]at this;rcases this with d|d
      .have U:=Sc c f _ _ ahd d;have e2:=fp c f l i j B u d;simp only[decide_eq_true_eq,if_pos U,if_pos e2]
      .have U:=Sc c f _ _ ahd d;have e2:b.getD j false=false:=by
        rcases Z:b.getD j false with _|_
        .rfl
        .have:=fp c f l j i ahd (λV C=>l j V Z C) d;rw[L]at this;cases this
       simp only[decide_eq_true_eq,if_neg (show ¬j<i by omega),e2,aeE,if_false]
     .have hno:∀(j:Nat) (p:aj),qs[j]?=some p->p.dst≠some t:=λj p M hd=>hw ⟨j,p,M,hd⟩
      rw[So hno,So hno]
    have ad:∀(t:Nat) (v:AV),ar (TL T qs tr 0 λj=>(b.setIfInBounds i true).getD j false) t=some v->ar (bz lo.dst tr[i] (TL T qs tr 0 λj=>b.getD j false)) t=some v:=by
     intro t v hv;by_cases hw:∃(j:Nat) (p:aj),qs[j]?=some p/\p.dst=some t
     .obtain⟨j,p,M,hd⟩:=hw;rw[Sn hD a2 M hd]at hv;by_cases e:j=i
      .subst e;rw[a1]at M;cases M;rw[hd,LB];rw[if_pos (by rw[H,if_pos rfl]),aeF bo]at hv;exact hv
      .have hne:lo.dst≠some t:=λe'=>e (GE hD M a1 hd e')
       rw[yL hne,Sn hD a2 M hd];simp only[H,if_neg e]at hv;exact hv
     .have hno:∀(j:Nat) (p:aj),qs[j]?=some p->p.dst≠some t:=λj p M hd=>hw ⟨j,p,M,hd⟩
      rw[So hno]at hv;rw[yL (hno i lo a1),So hno];exact hv
    have ai:∀k,qs.length<=k->(b.setIfInBounds i true).getD k false=false:=λk hk=>by rw[H,if_neg ahd];exact F k hk
    have J:∀j e,es[j]?=some e->b.getD e false=decide (j<done es b):=NY es _ λj j' e e' d W h3 h4=>by have A:e'<ops.size:=(by have:=bk e' (afi W);omega);exact fp c f l e' e A (λV C=>l e' V h4 C) (a0 j j' e e' d W h3)
    have b3:done es b<=es.length:=List.countP_le_length;rcases hq i lo tr[i] a1 (aeF bo)with⟨m,g1,g2⟩|⟨g1,g2⟩
    .have hm:done es b=m:=by
      have d:=J m i g1;rw[L]at d;have W:¬m<done es b:=(by simpa using d.symm);rcases aeN (done es b) m with h3|h3
      .obtain⟨e,G⟩:∃e,es[done es b]?=some e:=⟨_,aeF (by have:=(aei.1 g1).1;omega)⟩;have h4:=J _ e G;rw[fp c f l i e B u (a0 _ _ e i G g1 h3)]at h4;simp at h4
      .omega
     have b4:done es (b.setIfInBounds i true)=m+1:=by
      refine N8 es _ (m+1) (λj e G=>?_) (by have:=(aei.1 g1).1;omega);rw[H];by_cases U:e=i
      .subst U;rw[if_pos rfl];rcases Nat.lt_trichotomy j m with h3|h3|h3
       .simp;omega
       .simp;omega
       .have:=Sc c f e e B (a0 m j e e g1 G h3);omega
      .rw[if_neg U,J j e G,hm];have:j≠m:=λe2=>by subst e2;rw[g1]at G;cases G;exact U rfl
       congr 1;simp only[eq_iff_iff];omega
     rw[hm]at I;refine Qs a3 I (EQ.aops (EQ.congr Y g2)) λE' T' L' a' w' a8 ⟨U,e2⟩ ab=>ih _ a' w' E' (by simpa using y) al a5 (hE.trans a8) ai ?_
     subst U;subst e2;rw[b4];exact ab.weak ad rfl λ_ _ e=>.inr e
    .have hL:done es (b.setIfInBounds i true)=done es b:=by
      unfold done;refine List.countP_congr λe G=>?_
      rw[H,if_neg (λU:e=i=>g1 (U▸G))]
     have bx:=g2 (done es b) b3 (λj e G hj=>by
      rcases Z:(tbl.getD e 0).testBit i with _|_
      .rfl
      .have d:=J j e G;rw[decide_eq_true hj]at d;have A:e<ops.size:=(by have:=bk e (afi G);omega);have:=fp c f l e i A (λV C=>l e V d C) Z;rw[L]at this;cases this) (λj e G hj=>by
      rcases Z:(tbl.getD i 0).testBit e with _|_
      .rfl
      .have d:=J j e G;rw[fp c f l i e B u Z]at d;have:=of_decide_eq_true d.symm;omega)
     refine Z4 a3 I (bx.congr Y) λE' a' w' a8 ab=>ih _ a' w' E' (by simpa using y) al a5 (hE.trans a8) ai ?_
     rw[hL];exact ab.weak ad rfl λ_ _ e=>.inr e
   .
    refine absurd (λj hj=>?_) x;have d:=aev.1 S i (by simpa using B);simp only[ae4,decide_eq_true_eq]at d;rcases d with W|W
    .omega
    .have h3:=aev.1 W j (by simp;omega);exact fp c f l i j B u h3
end
inductive Kd where
 |pure
 |read (n f:Nat)
 |eff
 deriving Inhabited,DecidableEq
abbrev nC:=Nat×aj×Tm×AV
def DQ(P:Program)(L:List Blk):List nC->Prop
 |[]=>True
 |(_,o,T,v)::h=>AQ P o T L v/\DQ P L h
def Jj:List nC->List nC
 |[]=>[]
 |(0,_)::h=>Jj h
 |(1,_)::h=>Jj h
 |(n+2,y)::h=>(n+1,y)::Jj h
def UW(f:Nat)(o:aj)(T:Tm)(v:AV)(H:List nC):List nC :=
 match f with
 |0=>H
 |f+1=>(f+1,o,T,v)::H
def AG(P:Program)(K:Tm->List Blk->Prop):List (aj×Kd)->List (List Blk)->List nC->Tm->Prop
 |[],L::_,_,T=>K T L
 |(o,.pure)::r,L::Ls,H,T=>∃v,AQ P o T L v/\AG P K r (L::Ls) H (bz o.dst v T)
 |(o,.read n f)::r,L::Ls,H,T=>∃v,(∀L'∈(L::Ls).take (n+1),AQ P o T L' v)/\AG P K r (L::Ls) (UW f o T v H) (bz o.dst v T)
 |(o,.eff)::r,L::Ls,H,T=>∃v L2,EQ P o T L v L2/\DQ P L2 H/\AG P K r (L2::L::Ls) (Jj H) (bz o.dst v T)
 |_,[],_,_=>False
def nh:List (aj×Kd)->Nat
 |[]=>0
 |(_,.eff)::r=>nh r+1
 |_::r=>nh r
def mem(Ns:List (List Blk))(m:Nat):List Blk:=Ns.reverse.getD m []
theorem yI{X Ls:List (List Blk)}{m:Nat}(h:m<Ls.length):mem (X++Ls) m=Ls.getD (Ls.length-1-m) []:=by
 simp only[mem,List.reverse_append,aeA]
 grind
theorem RE{P:Program}{L:List Blk}:∀{H:List nC},DQ P L H->∀y∈H,AQ P y.2.1 y.2.2.1 L y.2.2.2
 |[],_,y,a=>by cases a
 | (f,o,T,v)::h,hr,y,a=>by
   rcases aeJ.1 a with rfl|a
   .exact hr.1
   .exact RE hr.2 y a
theorem LP:∀{H:List nC}{y:nC},y∈H->1<y.1->(y.1-1,y.2)∈Jj H
 |[],y,a,_=>by cases a
 | (0,z)::h,y,a,h1=>by
   rcases aeJ.1 a with rfl|a
   .omega
   .show(y.1-1,y.2)∈Jj h;exact LP a h1
 | (1,z)::h,y,a,h1=>by
   rcases aeJ.1 a with rfl|a
   .omega
   .show(y.1-1,y.2)∈Jj h;exact LP a h1
 | (n+2,z)::h,y,a,h1=>by
   rcases aeJ.1 a with rfl|a
   .simp[Jj]
   .exact afZ _ (LP a h1)
def Wt(P:Program)(o:aj)(T:Tm)(Ns:List (List Blk))(v:AV)(c:Nat):Kd->Prop
 |.pure=>AQ P o T (mem Ns c) v
 |.read n f=>∀m,c-n<=m->m<=c+f->m<Ns.length->AQ P o T (mem Ns m) v
 |.eff=>EQ P o T (mem Ns c) v (mem Ns (c+1))
theorem aap{P:Program}{K:Tm->List Blk->Prop}:∀(qk:List (aj×Kd)) (Ls:List (List Blk)) (H:List nC) (T:Tm) (k:Nat),AG P K qk Ls H T ->
  ∃(tr:List AV) (X:List (List Blk)),tr.length=qk.length/\X.length=nh qk /\
   (∀y∈H,∀m,Ls.length<=m->m<Ls.length+y.1->m<(X++Ls).length->AQ P y.2.1 y.2.2.1 (mem (X++Ls) m) y.2.2.2) /\
   (∀i o kd v,qk[i]?=some (o,kd)->tr[i]?=some v->Wt P o (TL T (qk.map (·.1)) tr k λj=>decide (j<k+i)) (X++Ls) v (Ls.length-1+nh (qk.take i)) kd) /\
   K (TL T (qk.map (·.1)) tr k λ_=>true) (mem (X++Ls) ((X++Ls).length-1)):=by
 intro qk;induction qk with
 | nil =>
   intro Ls H T k h;cases Ls with
   |nil=>exact h.elim
   | cons L Ls =>
     refine⟨[],[],rfl,rfl,λy _ m s _ G=>?_,λi o kd v a=>by simp at a,?_⟩
     .grind
     .rw[ae5,<- ae5 (L::Ls),yI ahe];have D:K T L:=h;simpa[TL]using D
 | cons q qk ih =>
   intro Ls H T k h;cases Ls with
   |nil=>rcases q with⟨o,_|_|_⟩<;>exact h.elim
   | cons L Ls =>
     obtain⟨o,kd⟩:=q;have r:∀(v:AV) (tr:List AV),TL T (((o,kd)::qk).map (·.1)) (v::tr) k (λj=>decide (j<k+0))=T:=λv tr=>by
      have e:TL T (((o,kd)::qk).map (·.1)) (v::tr) k (λj=>decide (j<k+0))=TL T (((o,kd)::qk).map (·.1)) (v::tr) k (λ_=>false):=Sp λj _=>ahe
      rw[e];exact Uc _ _ _ _
     have d:∀(v:AV) (tr:List AV) (i:Nat),TL T (((o,kd)::qk).map (·.1)) (v::tr) k (λj=>decide (j<k+(i+1)))=TL (bz o.dst v T) (qk.map (·.1)) tr (k+1) (λj=>decide (j<k+1+i)):=λv tr i=>by
      simp only[aex,TL]
      grind
     have l:∀(v:AV) (tr:List AV),TL T (((o,kd)::qk).map (·.1)) (v::tr) k (λ_=>true)=TL (bz o.dst v T) (qk.map (·.1)) tr (k+1) (λ_=>true):=λv tr=>by rfl
     cases kd with
     | pure =>
       obtain⟨v,s,w⟩:=h;obtain⟨tr,X,g1,x,g3,g4,t⟩:=ih _ _ _ (k+1) w;refine⟨v::tr,X,by simp[g1],x,g3,λi p kd u a b=>?_,by rw[l];exact t⟩;cases i with
       | zero =>
         simp only[afc,aej,aet]at a b;obtain⟨rfl,rfl⟩:=a;subst b;rw[r];simp only[afV,nh,afC,Wt];rw[yI ahe];simpa using s
       | succ i =>
         rw[d];exact g4 i p kd u (by simpa using a) (by simpa using b)
     | read n f =>
       obtain⟨v,s,w⟩:=h;obtain⟨tr,X,g1,x,g3,g4,t⟩:=ih _ _ _ (k+1) w;have E:∀y∈H,y∈UW f o T v H:=λy g=>by
        unfold UW;split
        .exact g
        .exact afZ _ g
       refine⟨v::tr,X,by simp[g1],x,λy g=>g3 y (E y g),λi p kd u a b=>?_,by rw[l];exact t⟩;cases i with
       | zero =>
         simp only[afc,aej,aet]at a b;obtain⟨rfl,rfl⟩:=a;subst b;rw[r];simp only[afV,nh,afC,Wt];intro m B A z;rcases aeN m (L::Ls).length with c|c
         .rw[yI c];refine s _ ?_;have C:(L::Ls).length-1-m<(L::Ls).length:=ahd;rw[aeA,aeF C,afB];rw[List.mem_take_iff_getElem];refine⟨(L::Ls).length-1-m,?_,rfl⟩;simp only[aeB]at B c C⊢;omega
         .cases f with
          |zero=>simp only[aeB]at A c;omega
          |succ f=>exact g3 (f+1,o,T,v) (by simp[UW]) m c (by simp only[aeB]at A c⊢;omega) z
       | succ i =>
         rw[d];exact g4 i p kd u (by simpa using a) (by simpa using b)
     | eff =>
       obtain⟨v,L2,s,hr,w⟩:=h;obtain⟨tr,X,g1,x,g3,g4,t⟩:=ih _ _ _ (k+1) w;have e:(X++[L2])++(L::Ls)=X++(L2::L::Ls):=ahe;refine⟨v::tr,X++[L2],by simp[g1],by simp[nh,x],λy g m B A z=>?_,λi p kd u a b=>?_,by rw[l,e];exact t⟩
       .rw[e]at z⊢;rcases Nat.eq_or_lt_of_le B with c|c
        .subst c;rw[yI ahe];have:=RE hr y g;simpa using this
        .exact g3 _ (LP g ahd) m (by simp only[aeB]at c⊢;omega) (by simp only[aeB]at A⊢;omega) z
       rw[e];cases i with
       | zero =>
         simp only[afc,aej,aet]at a b;obtain⟨rfl,rfl⟩:=a;subst b;rw[r];simp only[afV,nh,afC,Wt];rw[yI (by simp only[aeB];omega),yI (by simp only[aeB];omega)];simpa using s
       | succ i =>
         rw[d];have:=g4 i p kd u (by simpa using a) (by simpa using b);have F:(L2::L::Ls).length-1+nh (qk.take i)=(L::Ls).length-1+nh (((o,Kd.eff)::qk).take (i+1)):=by simp only[aeB,agi,nh];omega
         rw[F]at this;exact this
def LOp.pureB:LOp->Bool
 |.mv _|.pick .. |.build .. |.bin .. |.un .. |.faddr .. |.extract .. |.mkfn .. |.conv .. |.sconv .. |.eqk .. |.eq2 ..=>true
 |_=>false
theorem aa2{P:Program}{o:aj}{T:Tm}{L:List Blk}(b:o.op.pureB=true)(h:AQ P o T L v):AQ P o T L' v:=by
 have key:∀{c:Prop}{av:AV}{L2:List Blk},ak T L o.op=some (c,av,L2)->ak T L' o.op=some (c,av,L'):=λ{c av L2} f=>by
  have e:ak T L' o.op=(ak T L o.op).map λx=>(x.1,x.2.1,L'):=by obtain⟨d,op,g⟩:=o;cases op<;>simp only[LOp.pureB,aeE]at b<;>simp only[ak]<;>(repeat' split)<;>simp[Option.map_map,Function.comp_def]
  simp[*]
 have a:AQv P o T L v->AQv P o T L' v:=λa=>by
  unfold AQv at a⊢;obtain⟨d,op,g⟩:=o;cases op<;>simp only[LOp.pureB,aeE]at b<;>simp only at a⊢<;>(
   split at a
   .rename_i c av L2 f;rw[key f];exact⟨a.1,a.2.1,rfl⟩
   .exact a.elim)
 unfold AQ at h⊢;split at h;simp[*]
 grind
def dq:List (aj×Kd)->Nat->List Nat
 |[],_=>[]
 |(_,.eff)::r,k=>k::dq r (k+1)
 |_::r,k=>dq r (k+1)
theorem md:∀(qk:List (aj×Kd)) (k:Nat),(dq qk k).length=nh qk
 |[],_=>rfl
 |(_,.pure)::r,k=>md r (k+1)
 |(_,.read _ _)::r,k=>md r (k+1)
 |(_,.eff)::r,k=>by simp[dq,nh,md r (k+1)]
theorem PZ:∀(qk:List (aj×Kd)) (k i:Nat) (o:aj),qk[i]?=some (o,.eff)->(dq qk k)[nh (qk.take i)]?=some (k+i)
 |[],_,i,o,h=>by simp at h
 |(p,kd)::r,k,0,o,h=>by obtain⟨rfl,rfl⟩:=h;rfl
 |(p,kd)::r,k,i+1,o,h=>by have a:=PZ r (k+1) i o (by simpa using h);rw[show k+1+i=k+(i+1)by omega]at a;cases kd<;>simpa[dq,nh]using a
theorem PY:∀(qk:List (aj×Kd)) (k e:Nat),e∈dq qk k->∃i o,e=k+i/\qk[i]?=some (o,.eff)
 |[],_,e,h=>by simp[dq]at h
 | (p,kd)::r,k,e,h=>by
   have go:e∈dq r (k+1)->∃i o,e=k+i/\((p,kd)::r)[i]?=some (o,.eff):=λa=>by
    obtain⟨i,o,rfl,b⟩:=PY r (k+1) e a
    grind
   cases kd with
   |pure=>exact go h
   |read _ _=>exact go h
   | eff =>
     rcases aeJ.1 h with rfl|h
     .simp
     simp_all
def Mo(tbl:List Nat)(qk:List (aj×Kd)):Bool :=
 let es:=dq qk 0
 ((List.range es.length).all λj'=>(List.range j').all λj=>(tbl.getD (es.getD j' 0) 0).testBit (es.getD j 0)) &&
 qk.zipIdx.all λ((o,kd),i)=>match kd with
  |.pure=>o.op.pureB
  |.eff=>true
  | .read n f=>let c:=nh (qk.take i)
    (List.range es.length).all λj=>(!decide (j<c-n) ||(tbl.getD i 0).testBit (es.getD j 0))&&(!decide (c+f<=j) ||(tbl.getD (es.getD j 0) 0).testBit i)
section
variable {P:Program}{r:Option Nat}{w0:World}{S0:SB}{N:Nat}{own:Nat->Nat}{ops:Array Oper}{L:List Blk}
theorem Ua{z:List aj}{n:Nat}(B:bp P N own ops (List.range ops.size)=some z)(J:Gi ops z n=true){qk:List (aj×Kd)}{ts:List aj}(p:z=qk.map (·.1)++ts)(hn:qk.length=n)(V:Mo (nG ops.toList []) qk=true){K:Tm->List Blk->Prop}{T:Tm}{Q:Exit->Act->World->Prop}{E0:Env}(h:AG P (l7 P K ts) qk [L] [] T)(hQ:∀E' T' L' Y w',E0.le E'->K T' L'->St w0 S0 N E' T' L' Y w'->Q .normal Y w')(a:Act)(w:World)(E:Env)(hE:E0.le E)(O:St w0 S0 N E T L a w):
  wpAnyIn (fo r) 0 P .any ops Q ops.size (Array.replicate ops.size false) a w:=by
 obtain⟨tr,X,g1,g2,-,g4,Z⟩:=aap qk [L] [] T 0 h;have b:∀i,(Array.replicate ops.size false).getD i false=false:=λi=>by
  rw[afD,Array.getElem?_replicate]
  grind
 simp only[Mo,aeq]at V;obtain⟨M,H⟩:=V;have s:=md qk 0;have I:∀e∈dq qk 0,∃o,qk[e]?=some (o,.eff):=λe G=>by obtain⟨i,o,rfl,C⟩:=PY qk 0 e G;simp[*]
 have t:(X++[L]).length=nh qk+1:=by simp[g2]
 refine Vt (T:=T) (K:=K) (qs:=qk.map (·.1)) (ts:=ts) (tr:=tr) (es:=dq qk 0) (Ms:=mem (X++[L])) B J p (by simpa using hn) (λe G=>?_) (λj j' e e' h1 C h3=>?_) (by simpa using g1) (λi o v u hv=>?_) ?_ hQ ops.size _ a w E ahe (by simp[agJ]) (λi o W=>by rw[b]at W;cases W) hE (λi _=>b i) ?_
 grind
 have l2:j'<(dq qk 0).length:=(aei.1 C).1;have:=aev.1 (aev.1 M j' (by simpa using l2)) j (by simpa using h3);simp_all;rw[ae8,aeK]at u;obtain⟨⟨R,kd⟩,u,rfl⟩:=u;have F:=g4 i R kd v u hv;simp only[List.length_singleton,afW,afE]at F;have y:=aev.1 H ((R,kd),i) (by rw[age];simpa using u);have d:kd≠.eff->i∉dq qk 0:=λU G=>by obtain⟨o2,C⟩:=I i G;rw[u]at C;cases C;exact U rfl
 cases kd with
 | eff =>
   refine .inl ⟨nh (qk.take i),?_,F⟩;simpa using PZ qk 0 i R u
 |pure=>exact .inr ⟨d ahe,λm _ _ _=>aa2 (by simpa using y) F⟩
 | read n f =>
   refine .inr ⟨d ahe,λm hm p1 p2=>?_⟩;simp only at y;have D:=λj (hj:j<(dq qk 0).length)=>aev.1 y j (by simpa using hj)
   have ab:nh (qk.take i)<=(dq qk 0).length:=by
    have:∀(l:List (aj×Kd)) (i:Nat),nh (l.take i)<=nh l:=by
     intro l;induction l with
     |nil=>intro i;simp
     | cons q l ih =>
       intro i;cases i with
       |zero=>simp[nh]
       |succ i=>obtain⟨o,_|_|_⟩:=q<;>simp only[agi,nh]<;>have:=ih i<;>omega
    rw[s];exact this qk i
   refine F m ?_ ?_ (by rw[t];omega)
   .rcases aeN m (nh (qk.take i)-n)with k|A
    .have hme:m<(dq qk 0).length:=ahd;have:=D m hme;simp only[aeq,ae4,aeU,decide_eq_false_iff_not]at this;have S:=p2 m _ (aeF hme) (aek _);rcases this.1 with c|c
     .exact absurd k c
     .rw[aeA (l:=dq qk 0),aeF hme]at c;simp only[afB]at c;rw[S]at c;cases c
    .exact A
   .rcases aeN (nh (qk.take i)+f) m with k|A
    .have hme:nh (qk.take i)+f<(dq qk 0).length:=ahd;have:=D _ hme;simp only[aeq,ae4,aeU,decide_eq_false_iff_not]at this;have S:=p1 _ _ (aeF hme) k;rcases this.2 with c|c
     .exact absurd (aek _) c
     .rw[aeA (l:=dq qk 0),aeF hme]at c;simp only[afB]at c;rw[S]at c;cases c
    .exact A
 rw[t]at Z;rw[s];simpa using Z
 .have e:TL T (qk.map (·.1)) tr 0 (λj=>(Array.replicate ops.size false).getD j false)=T:=by refine Eq.trans (Sp (g:=λ_=>false) λj _=>b _) (Uc _ tr T 0)
  have e2:done (dq qk 0) (Array.replicate ops.size false)=0:=agW.2 λx _=>by rw[b];simp
  rw[e,e2,yI ahe];simpa using O
end
inductive SOp where
 |op (o:aj)
 |grp (g:Option (Nat×Bool)) (t:Nat) (b:Bool) (body:List SOp) (d:Nat) (x:Opd)
 deriving Inhabited
def cU(g:Option (Nat×Bool))(t:Nat)(b:Bool)(d:Nat)(x:Opd):aj :=
 ⟨some d,.pick (.tmp t) (if b then x else .av (.bool true)) (if b then .av (.bool false)else x),g⟩
mutual
def SOp.flat:SOp->List aj
 |.op o=>[o]
 |.grp g t b body d x=>SOp.flatL body++[cU g t b d x]
def SOp.flatL:List SOp->List aj
 |[]=>[]
 |s::r=>SOp.flat s++SOp.flatL r
end
def aW(l:List aj):List Nat:=l.filterMap (·.dst)
def gds:List SOp->List Nat
 |[]=>[]
 |.op _::r=>gds r
 |.grp _ _ _ body _ _::r=>aW (SOp.flatL body)++gds r
def bH:SOp->List Nat
 |.op o=>o.dst.toList
 |.grp _ _ _ _ d _=>[d]
mutual
def okO(g:Nat×Bool)(seen:List Nat):SOp->Bool
 |.op o=>decide (o.guard=some g)
 |.grp g' t b body d x=>decide (g'=some g)&&seen.contains t && !(aW (SOp.flatL body)).contains t && !(aW (SOp.flatL body)).contains g.1&&okB (t,b) [] body
def okB(g:Nat×Bool)(seen:List Nat):List SOp->Bool
 |[]=>true
 |s::r=>okO g seen s&&(bH s).all (λd => !(gds r).contains d&&d != g.1)&&okB g (bH s++seen) r
end
def okS:List SOp->Bool
 |[]=>true
 |.op o::r=>o.dst.toList.all (λd => !(gds r).contains d)&&okS r
 |.grp g t b body d x::r=>decide (g=none) && !(aW (SOp.flatL body)).contains t&&okB (t,b) [] body && !(gds r).contains d&&okS r
def mrg(b p q:Bool):Bool:=if b then p&&q else p ||q
def aak(P:Program)(f:FuncId)(args:List AV)(L:List Blk)(k:AV->Prop):Prop:=∃v,ae P f args L (λav L'=>av=v/\L'=L)/\k v
theorem bq{P:Program}{f:FuncId}{args:List AV}{L:List Blk}{k:AV->Prop}(h:ae P f args L (λav L'=>av=v/\L'=L))(a:k v):aak P f args L k:=⟨v,h,a⟩
def IsB:Option AV->Bool->Prop:=λo q=>o=some (.bool q)
theorem nR{q:Bool}:IsB (some (.bool q)) q:=rfl
def IsX(x:Opd)(q:Bool)(T:Tm):Prop:=IsB (evX T x) q
def aah(k:Tm->Prop)(d:Option Nat)(T:Tm)(v:AV):Prop:=k (bz d v T)
def ad1(P:Program)(f:FuncId)(L:List Blk)(k:AV->Prop):Option (List AV)->Prop
 |some args=>aak P f args L k
 |none=>False
def Wv(P:Program)(L:List Blk)(k:AV->Prop):Option AV->Option (List AV)->Prop
 |some (.func g caps),some args=>aak P g (args++caps) L k
 |_,_=>False
def adX(L:List Blk)(k:AV->Prop):Option (Prop×AV×List Blk)->Prop
 |some (c,av,L')=>c/\L'=L/\k av
 |none=>False
def GOp(P:Program)(L:List Blk)(o:aj)(k:Tm->Prop)(T:Tm):Prop :=
 match o.op with
 |.call f xs=>ad1 P f L (aah k o.dst T) (iz T xs)
 |.callv f xs=>Wv P L (aah k o.dst T) (evX T f) (iz T xs)
 |lo=>adX L (aah k o.dst T) (ak T L lo)
mutual
def GL(P:Program)(L:List Blk):List SOp->(Tm->Prop)->Tm->Prop
 |[],k,T=>k T
 |s::r,k,T=>GO P L s (GL P L r k) T
def GO(P:Program)(L:List Blk):SOp->(Tm->Prop)->Tm->Prop
 |.op o,k,T=>GOp P L o k T
 | .grp _ t b body d x,k,T=>match ar T t with
   |some (.bool p)=>∃q,(p=b->GL P L body (IsX x q) T)/\k ((d,.bool (mrg b p q))::T)
   |_=>False
end
def GQ(P:Program)(L:List Blk)(b:Bool)(body:List SOp)(d:Nat)(x:Opd)(k:Tm->Prop)(T:Tm)(p:Bool):Prop :=
 ∃q,(p=b->GL P L body (IsX x q) T)/\k ((d,.bool (mrg b p q))::T)
def GG(P:Program)(L:List Blk)(b:Bool)(body:List SOp)(d:Nat)(x:Opd)(k:Tm->Prop)(T:Tm):Option AV->Prop
 |some (.bool p)=>GQ P L b body d x k T p
 |_=>False
theorem adj{P:Program}{L:List Blk}{k:Tm->Prop}{T:Tm}:GL P L [] k T=k T:=by rw[GL]
theorem ad0{P:Program}{L:List Blk}{o:aj}{r:List SOp}{k:Tm->Prop}{T:Tm}:GL P L (.op o::r) k T=GOp P L o (GL P L r k) T:=by rw[GL,GO]
theorem adk{P:Program}{L:List Blk}{g:Option (Nat×Bool)}{t d:Nat}{b:Bool}{body r:List SOp}{x:Opd}{k:Tm->Prop}{T:Tm}:GL P L (.grp g t b body d x::r) k T=GG P L b body d x (GL P L r k) T (ar T t):=by rw[GL,GO];rfl
theorem abR{P:Program}{L:List Blk}{d:Nat}{b p:Bool}{body:List SOp}{x:Opd}{k:Tm->Prop}{T:Tm}:GG P L b body d x k T (some (.bool p))=GQ P L b body d x k T p:=rfl
theorem adZ{P:Program}{L:List Blk}{d:Nat}{body:List SOp}{x:Opd}{k:Tm->Prop}{T:Tm}:GQ P L true body d x k T false=k ((d,.bool false)::T):=by simp[GQ,mrg]
theorem adY{P:Program}{L:List Blk}{d:Nat}{body:List SOp}{x:Opd}{k:Tm->Prop}{T:Tm}:GQ P L false body d x k T true=k ((d,.bool true)::T):=by simp[GQ,mrg]
def SL(P:Program):List SOp->(Tm->List Blk->Prop)->Tm->List Blk->Prop
 |[],K,T,L=>K T L
 | .op o::r,K,T,L=>match o.guard with
   |none=>AOp P o (SL P r K) T L
   |some (t,b)=>Grd P o (SL P r K) b T L (ar T t)
 |.grp _ t b body d x::r,K,T,L=>GG P L b body d x (λT'=>SL P r K T' L) T (ar T t)
def SK(P:Program)(r:List SOp)(K:Tm->List Blk->Prop)(L:List Blk)(T:Tm):Prop:=SL P r K T L
theorem adU{P:Program}{r:List SOp}{K:Tm->List Blk->Prop}{L:List Blk}{T:Tm}:SK P r K L T=SL P r K T L:=rfl
theorem adf{P:Program}{K:Tm->List Blk->Prop}{L:List Blk}{T:Tm}:SL P [] K T L=K T L:=rfl
theorem adT{P:Program}{d:Option Nat}{op:LOp}{r:List SOp}{K:Tm->List Blk->Prop}{L:List Blk}{T:Tm}:SL P (.op ⟨d,op,none⟩::r) K T L=AOp P ⟨d,op,none⟩ (SL P r K) T L:=rfl
theorem ade{P:Program}{d:Option Nat}{op:LOp}{t:Nat}{b:Bool}{r:List SOp}{K:Tm->List Blk->Prop}{L:List Blk}{T:Tm}:SL P (.op ⟨d,op,some (t,b)⟩::r) K T L=Grd P ⟨d,op,some (t,b)⟩ (SL P r K) b T L (ar T t):=rfl
theorem adg{P:Program}{g:Option (Nat×Bool)}{t d:Nat}{b:Bool}{body r:List SOp}{x:Opd}{K:Tm->List Blk->Prop}{L:List Blk}{T:Tm}:SL P (.grp g t b body d x::r) K T L=GG P L b body d x (SK P r K L) T (ar T t):=rfl
def sel:List Bool->Tm->Tm
 |[],T=>T
 |true::m,x::T=>x::sel m T
 |false::m,_::T=>sel m T
 |_::_,[]=>[]
theorem VP{T:Tm}:sel [] T=T:=by cases T<;>rfl
theorem ab8{m:List Bool}{x:Nat×AV}{T:Tm}:sel (true::m) (x::T)=x::sel m T:=rfl
theorem ab9{m:List Bool}{x:Nat×AV}{T:Tm}:sel (false::m) (x::T)=sel m T:=rfl
section
variable {P:Program}{ro:Option Nat}{w0:World}{S0:SB}{N:Nat}
def Fr(ds:List Nat)(T:Tm):Prop:=∀d∈ds,ar T d=none
theorem nj{d:Option Nat}{v:AV}{T:Tm}{t:Nat}(h:d≠some t):ar (bz d v T) t=ar T t:=by
 cases d with
 |none=>rfl
 |some d=>simp only[bz,ar];rw[if_neg (λe=>h (by rw[e]))]
theorem ie{own:Nat->Nat}{ops:Array Oper}:∀{l m:List aj}{is:List Nat},bp P N own ops is=some (l++m)->∃a b,is=a++b/\bp P N own ops a=some l/\bp P N own ops b=some m
 |[],m,is,h=>⟨[],is,rfl,rfl,h⟩
 | o::l,m,is,h=>by
   cases is with
   |nil=>simp[bp]at h
   | cons i is =>
     simp only[bp]at h;split at h<;>try cases h
     rename_i f g c d;obtain⟨a,b,rfl,e,h4⟩:=ie (l:=l) (m:=m) d;refine⟨i::a,b,rfl,?_,h4⟩;simp only[bp,c,e]
theorem lQ{own:Nat->Nat}{ops:Array Oper}{o:aj}{is:List Nat}(h:bp P N own ops is=some [o]):∃i,is=[i]/\mc P N own ops i=some o:=by
 cases is with
 |nil=>simp[bp]at h
 | cons i is =>
   simp only[bp]at h;split at h<;>try cases h
   rename_i c d b a;cases is with
   |nil=>exact⟨i,rfl,b⟩
   | cons j is =>
     simp only[bp]at a;split at a<;>cases a
theorem OS{own:Nat->Nat}{ops:Array Oper}{K:Tm->List Blk->Prop}{Q:Exit->Act->World->Prop}{i:Nat}{f:aj}{rest:List Nat}(x:mc P N own ops i=some f){T:Tm}{L:List Blk}{E:Env}{a:Act}{w:World}(d:St w0 S0 N E T L a w)(l:f.guard=none\/∃t b,f.guard=some (t,b)/\ar T t=some (.bool b))(h:AOp P f K T L)(s:∀E' T' L' m w',E.le E'->K T' L'->St w0 S0 N E' T' L' m w'->wpOpsIn (fo ro) 0 P ops Q rest m w'):wpOpsIn (fo ro) 0 P ops Q (i::rest) a w:=by
 obtain⟨o,q,g,c,hd,k⟩:=iw x;obtain⟨y,r,z⟩:=f;simp only at g c k l;subst c;simp only[wpOpsIn,q];have p:Region.wanted o (yielded ops a.tmps)=true:=by rcases k with⟨g1,n⟩|⟨j,b,t,g1,n,g3,g4⟩;simp[Region.wanted,g1];subst g4;rcases l with l|⟨t',A,e,u⟩;cases l;cases e;have v:=ke (E:=E) (T:=T) (a:=a) (ops:=ops) d.2.1 n (by rw[d.2.2.1];exact g3);simp[Region.wanted,g1,v.1 b u]
 rw[if_pos p];exact GU g hd d h s
theorem Pv{own:Nat->Nat}{ops:Array Oper}{Q:Exit->Act->World->Prop}{i:Nat}{h:aj}{rest:List Nat}(s:mc P N own ops i=some h){T:Tm}{L:List Blk}{E:Env}{a:Act}{w:World}(d:St w0 S0 N E T L a w){t:Nat}{b:Bool}(e:h.guard=some (t,b))(f:ar T t=some (.bool (!b))\/ar T t=some (.tup []))(n:∀p,St w0 S0 N E (bz h.dst (.tup []) T) L p w->wpOpsIn (fo ro) 0 P ops Q rest p w):wpOpsIn (fo ro) 0 P ops Q (i::rest) a w:=by
 obtain⟨o,q,k,c,hd,g⟩:=iw s;obtain⟨y,r,v⟩:=h;simp only at k c g e n;subst c;simp only[wpOpsIn,q];have u:Region.wanted o (yielded ops a.tmps)=false:=by rcases g with⟨g1,l⟩|⟨j,x,t',g1,l,g3,g4⟩;rw[l]at e;cases e;rw[g4]at e;cases e;have m:=ke (E:=E) (T:=T) (a:=a) (ops:=ops) d.2.1 l (by rw[d.2.2.1];exact g3);rcases f with f|f;simp[Region.wanted,g1,m.1 _ f];simp[Region.wanted,g1,m.2 f]
 rw[if_neg (by simp[u])];exact⟨λ_ _=>trivial,n _ (JO d hd)⟩
def Ext(ds:List Nat)(T T':Tm):Prop:=∀t v,t∉ds->ar T t=some v->ar T' t=some v
mutual
theorem acw{own:Nat->Nat}{ops:Array Oper}{Q:Exit->Act->World->Prop}{L:List Blk}{E:Env}{w:World}(s:SOp){g:Nat×Bool}{seen:List Nat}{is rest:List Nat}{T:Tm}{a:Act}(c:okO g seen s=true)(z:bp P N own ops is=some s.flat)(p:St w0 S0 N E T L a w)(H:ar T g.1=some (.bool (!g.2))\/ar T g.1=some (.tup []))(l:∀d∈seen,ar T d=some (.tup []))(y:∀T' n,Ext (aW s.flat) T T'->(∀d,ar T d=some (.tup [])->ar T' d=some (.tup []))->(∀d∈bH s,ar T' d=some (.tup []))->St w0 S0 N E T' L n w->wpOpsIn (fo ro) 0 P ops Q rest n w):wpOpsIn (fo ro) 0 P ops Q (is++rest) a w:=by
 have q:∀(u:Option Nat) (T:Tm) (d:Nat),ar T d=some (.tup [])->ar (bz u (.tup []) T) d=some (.tup []):=λu T d h=>by
  cases u with
  |none=>exact h
  | some u =>
    simp only[bz,ar];split
    .rfl
    .exact h
 cases s with
 | op o =>
   simp only[SOp.flat]at z y;obtain⟨i,rfl,B⟩:=lQ z;simp only[okO,decide_eq_true_eq]at c;refine Pv B p (t:=g.1) (b:=g.2) c H λn A=>y _ n (λt v m D=>?_) (q _ _) (λd hd=>?_) A
   .rw[nj (λe=>m (by simp[aW,e]))];exact D
   .simp only[bH,agK]at hd;rw[hd];simp[bz,ar]
 | grp g' t b body d x =>
   simp only[okO,aeq,decide_eq_true_eq,agX,aeU,afd,decide_eq_false_iff_not]at c;obtain⟨⟨⟨⟨F,m⟩,O⟩,C⟩,K⟩:=c;simp only[SOp.flat]at z y;obtain⟨S,R,rfl,B,J⟩:=ie z;obtain⟨i,rfl,M⟩:=lQ J;rw[aew];refine OL body K B p (.inr (l t (by simpa using m))) ahe λT' n j f r=>?_
   refine Pv M r (t:=g.1) (b:=g.2) (by simp[cU,F]) ?_ λG k=>y _ G (λt v m D=>?_) (λd hd=>q _ _ _ (f d hd)) (λd hd=>?_) k
   .exact H.imp (λh=>j _ _ C h) (λh=>f _ h)
   .rw[nj (λe=>m (by simp only[cU]at e;simp[aW,cU,e]))];exact j t v (λI=>m (by simp only[aW,afF,aen];exact .inl I)) D
   .simp only[bH,aeG]at hd;subst hd;simp[cU,bz,ar]
theorem OL{own:Nat->Nat}{ops:Array Oper}{Q:Exit->Act->World->Prop}{L:List Blk}{E:Env}{w:World}(l:List SOp){g:Nat×Bool}{seen:List Nat}{is rest:List Nat}{T:Tm}{a:Act}(k:okB g seen l=true)(j:bp P N own ops is=some (SOp.flatL l))(m:St w0 S0 N E T L a w)(D:ar T g.1=some (.bool (!g.2))\/ar T g.1=some (.tup []))(e:∀d∈seen,ar T d=some (.tup []))(p:∀T' u,Ext (aW (SOp.flatL l)) T T'->(∀d,ar T d=some (.tup [])->ar T' d=some (.tup []))->St w0 S0 N E T' L u w->wpOpsIn (fo ro) 0 P ops Q rest u w):wpOpsIn (fo ro) 0 P ops Q (is++rest) a w:=by
 cases l with
 | nil =>
   simp only[SOp.flatL]at j p;have:is=[]:=by
    cases is with
    |nil=>rfl
    | cons i is =>
      simp only[bp]at j;split at j<;>cases j
   subst this;exact p T a (λ_ _ _ h=>h) (λ_ h=>h) m
 | cons s r =>
   simp only[okB,aeq,aev,aeU,bne_iff_ne]at k;obtain⟨⟨q,G⟩,M⟩:=k;simp only[SOp.flatL]at j p;obtain⟨S,R,rfl,h4,O⟩:=ie j;rw[aew];refine acw s q h4 m D e λT' u F A I n=>?_
   have y:ar T' g.1=some (.bool (!g.2))\/ar T' g.1=some (.tup []):=by
    by_cases c:g.1∈aW s.flat
    .cases s with
     | op o =>
       simp only[aW,SOp.flat,List.filterMap_cons,List.filterMap_nil]at c;cases hd:o.dst with
       |none=>simp[hd]at c
       | some d =>
         simp[hd]at c;exact absurd c.symm (G d (by simp[bH,hd])).2
     | grp g' t b body d x =>
       simp only[okO,aeq,aeU,afd,decide_eq_false_iff_not]at q;simp only[aW,SOp.flat,afF,aen]at c;rcases c with c|c
       .exact absurd c q.1.2
       .simp[cU]at c;exact absurd c.symm (G d (by simp[bH])).2
    .exact D.imp (F _ _ c) (A _)
   refine OL r M O n y (λd hd=>?_) λz C J K f=>p z C (λt v B H=>?_) (λd hd=>K d (A d hd)) f
   .rcases aen.1 hd with hd|hd
    .exact I d hd
    .exact A d (e d hd)
   .simp only[aW,afF,aen,not_or]at B;exact J t v B.2 (F t v B.1 H)
end
theorem Fr.put{ds:List Nat}{T:Tm}{d:Option Nat}{v:AV}(h:Fr ds T)(hd:∀k,d=some k->k∉ds):Fr ds (bz d v T):=λk a=>by rw[nj (λe=>hd k e a)];exact h k a
mutual
theorem Zz(s:SOp):∀d∈gds [s],d∈aW s.flat:=by
 cases s with
 |op o=>simp[gds]
 | grp g t b body d x =>
   intro u a;simp only[gds,aeL]at a;simp only[SOp.flat,aW,afF,aen];exact .inl a
end
theorem LM(s:SOp)(r:List SOp):gds (s::r)=gds [s]++gds r:=by cases s<;>simp[gds]
theorem LL:∀(l:List SOp),∀d∈gds l,d∈aW (SOp.flatL l)
 |[],d,h=>by simp[gds]at h
 |s::r,d,h=>by rw[LM,aen]at h;simp only[SOp.flatL,aW,afF,aen];exact h.imp (Zz s d) (LL r d)
theorem Te(s:SOp):∀d∈bH s,d∈aW s.flat:=by
 cases s with
 | op o =>
   intro d hd;simp only[bH,agK]at hd;simp[SOp.flat,aW,hd]
 | grp g t b body d x =>
   intro u a;simp only[bH,aeG]at a;subst a;simp[SOp.flat,aW,cU]
mutual
theorem acV{own:Nat->Nat}{ops:Array Oper}{Q:Exit->Act->World->Prop}{L:List Blk}(s:SOp){g:Nat×Bool}{seen:List Nat}{is rest:List Nat}{T:Tm}{a:Act}{E:Env}{w:World}{k:Tm->Prop}(hok:okO g seen s=true)(hl:bp P N own ops is=some s.flat)(hst:St w0 S0 N E T L a w)(hx:ar T g.1=some (.bool g.2))(hfr:∀d∈gds [s],ar T d=none)(h:GO P L s k T)(hK:∀E' T' a' w',E.le E'->k T'->Ext (bH s) T T'->(∀d,d∉bH s->ar T d=none->ar T' d=none)->St w0 S0 N E' T' L a' w'->wpOpsIn (fo ro) 0 P ops Q rest a' w'):wpOpsIn (fo ro) 0 P ops Q (is++rest) a w:=by
 cases s with
 | op o =>
   simp only[SOp.flat]at hl;obtain⟨i,rfl,h1⟩:=lQ hl;simp only[okO,decide_eq_true_eq]at hok;simp only[GO]at h;have ext:∀v,Ext (bH (.op o)) T (bz o.dst v T):=λv t x ht hv=>by rw[nj (λe=>ht (by simp[bH,e]))];exact hv
   have fre:∀v d,d∉bH (.op o)->ar T d=none->ar (bz o.dst v T) d=none:=λv d hd hn=>by rw[nj (λe=>hd (by simp[bH,e]))];exact hn
   have hA:AOp P o (λT' L'=>L'=L/\∃v,T'=bz o.dst v T/\k T') T L:=by
    obtain⟨d,op,gd⟩:=o;have call:∀{f:FuncId}{args:List AV},aak P f args L (aah k d T)->ae P f args L (Kon (λT' L'=>L'=L/\∃v,T'=bz d v T/\k T') d T):=λ{f args} ⟨v,h1,h2⟩ =>
     h1.mono λav L' ⟨e1,e2⟩=>by subst e1;subst e2;exact⟨rfl,av,rfl,h2⟩
    simp only[GOp]at h;simp only[AOp];cases op
    case call f xs =>
     simp only at h⊢;cases he:iz T xs with
     |none=>rw[he]at h;exact h.elim
     |some args=>rw[he]at h;exact call h
    case callv f xs =>
     simp only at h⊢;cases hf:evX T f with
     |none=>rw[hf]at h;exact h.elim
     | some u =>
       rw[hf]at h;cases he:iz T xs with
       |none=>rw[he]at h;cases u<;>exact h.elim
       | some args =>
         rw[he]at h;cases u<;>simp only[Wv]at h;exact call h
    all_goals
     simp only at h⊢;generalize ak T L _=r at h⊢;cases r with
     |none=>exact h.elim
     | some r =>
       obtain⟨c,av,L'⟩:=r;exact⟨h.1,h.2.1,av,rfl,h.2.2⟩
   refine OS h1 hst (.inr ⟨g.1,g.2,hok,hx⟩) hA λE' T' L' a' w' hle ⟨e1,v,e2,hk⟩ hst'=>?_
   subst e1;subst e2;exact hK E' _ a' w' hle hk (ext v) (fre v) hst'
 | grp g' t b body d x =>
   simp only[okO,aeq,decide_eq_true_eq,aeU,afd,decide_eq_false_iff_not]at hok;obtain⟨⟨⟨⟨hg',ht⟩,htb⟩,hgb⟩,hb⟩:=hok;simp only[SOp.flat]at hl;obtain⟨js,ks,rfl,h1,h2⟩:=ie hl;obtain⟨i,rfl,h3⟩:=lQ h2;rw[aew];simp only[GO]at h;have hfr':Fr (aW (SOp.flatL body)) T:=λd' hd'=>hfr d' (by simp[gds,hd'])
   have fin:∀{E':Env}{T':Tm}{a':Act}{w':World}(p q:Bool),E.le E'->St w0 S0 N E' T' L a' w'->Ext (aW (SOp.flatL body)) T T'->ar T t=some (.bool p)->(p=b->evX T' x=some (.bool q))->k ((d,.bool (mrg b p q))::T)->wpOpsIn (fo ro) 0 P ops Q ([i]++rest) a' w':=λ{E' T' a' w'} p q hle hst' hext hp hq hk=>by
    have hv:ak T' L (.pick (.tmp t) (if b then x else .av (.bool true)) (if b then .av (.bool false)else x))=some (True,.bool (mrg b p q),L):=by have ht':ar T' t=some (.bool p):=hext _ _ htb hp;cases b<;>cases p<;>simp[ak,evX,ht',mrg]<;>exact hq rfl
    refine OS h3 hst' (.inr ⟨g.1,g.2,by simp[cU,hg'],hext _ _ hgb hx⟩) (K:=λT'' L''=>T''=(d,.bool (mrg b p q))::T'/\L''=L) ?_ λE'' T'' L'' a'' w'' hle' ⟨e1,e2⟩ hst''=>?_
    .simp only[cU,AOp,hv,Res,bz,and_self]
    .subst e1;subst e2;refine hK E'' ((d,.bool (mrg b p q))::T) a'' w'' (hle.trans hle') hk (λu v hu hv=>?_) (λu hu hn=>?_) ⟨hst''.1,hst''.2.1.weak λu v hu=>?_,hst''.2.2⟩
     .simp only[bH,aeG]at hu;simp only[ar];rw[if_neg (Ne.symm hu)];exact hv
     .simp only[bH,aeG]at hu;simp only[ar];rw[if_neg (Ne.symm hu)];exact hn
     .simp only[ar]at hu⊢;split
      .rename_i e;rw[if_pos e]at hu;exact hu
      .rename_i e;rw[if_neg e]at hu;refine hext u v (λhm=>?_) hu;rw[hfr' u hm]at hu;cases hu
   rcases hp:ar T t with _|u
   .rw[hp]at h;exact h.elim
   rw[hp]at h;cases u<;>try exact h.elim
   rename_i p;obtain⟨q,hq,hk⟩:=h;by_cases e:p=b
   .subst e;refine R4 body hb h1 hst hp (λd hd=>hfr' d (LL body d hd)) (hq rfl) λE' T' a' w' hle hx' hext hst'=>fin p q hle hst' hext hp (λ_=>hx') hk
   .have:p = !b:=(by cases p<;>cases b<;>simp_all);refine OL body hb h1 hst (.inl (by rw[hp,this])) ahe λT' a' hext _ hst'=>fin p q (.refl E) hst' hext hp (λe'=>absurd e' e) hk
theorem R4{own:Nat->Nat}{ops:Array Oper}{Q:Exit->Act->World->Prop}{L:List Blk}(l:List SOp){g:Nat×Bool}{seen:List Nat}{is rest:List Nat}{T:Tm}{a:Act}{E:Env}{w:World}{k:Tm->Prop}(m:okB g seen l=true)(e:bp P N own ops is=some (SOp.flatL l))(n:St w0 S0 N E T L a w)(F:ar T g.1=some (.bool g.2))(c:Fr (gds l) T)(h:GL P L l k T)(D:∀E' T' u w',E.le E'->k T'->Ext (aW (SOp.flatL l)) T T'->St w0 S0 N E' T' L u w'->wpOpsIn (fo ro) 0 P ops Q rest u w'):wpOpsIn (fo ro) 0 P ops Q (is++rest) a w:=by
 cases l with
 | nil =>
   simp only[SOp.flatL]at e;have:is=[]:=by
    cases is with
    |nil=>rfl
    | cons i is =>
      simp only[bp]at e;split at e<;>cases e
   subst this;rw[GL]at h;exact D E T a w (.refl E) h (λ_ _ _ h=>h) n
 | cons s r =>
   simp only[okB,aeq,aev,aeU,bne_iff_ne,afd,decide_eq_false_iff_not]at m;obtain⟨⟨I,H⟩,O⟩:=m;simp only[SOp.flatL]at e;obtain⟨U,S,rfl,h4,R⟩:=ie e;rw[aew];rw[GL]at h;rw[LM]at c;refine acV s I h4 n F (λd hd=>c d (afp _ hd)) h λE' T' u w' A C G K o=>?_
   refine R4 r O R o (G _ _ (λf=>(H _ f).2 rfl) F) (λd hd=>K d (λf=>(H d f).1 hd) (c d (afG _ hd))) C λz x B q j p M b=>D z x B q (A.trans j) p (λt v y J=>?_) b
   simp only[SOp.flatL,aW,afF,aen,not_or]at y;exact M t v y.2 (G t v (λf=>y.1 (Te s t f)) J)
end
theorem abY{o:aj}{K:Tm->List Blk->Prop}{T:Tm}{L:List Blk}(h:AOp P o K T L):AOp P o (λT' L'=>K T' L'/\∃v,T'=bz o.dst v T) T L:=by
 obtain⟨d,op,gd⟩:=o;have call:∀{f:FuncId}{args:List AV},ae P f args L (Kon K d T)->ae P f args L (Kon (λT' L'=>K T' L'/\∃v,T'=bz d v T) d T):=λ{f args} h=>h.mono λav L' h=>⟨h,av,rfl⟩
 simp only[AOp]at h⊢;cases op
 case call f xs =>
  simp only at h⊢;cases he:iz T xs with
  |none=>rw[he]at h;exact h.elim
  |some args=>rw[he]at h;exact call h
 case callv f xs =>
  simp only at h⊢;cases hf:evX T f with
  |none=>rw[hf]at h;cases he:iz T xs<;>rw[he]at h<;>exact h.elim
  | some u =>
    rw[hf]at h;cases he:iz T xs with
    |none=>rw[he]at h;cases u<;>exact h.elim
    | some args =>
      rw[he]at h;cases u<;>simp only[X2]at h
      case yld i=>exact QU.mono h λav L' h=>⟨h,av,rfl⟩
      exact call h
 all_goals
  simp only at h⊢;generalize ak T L _=r at h⊢;cases r with
  |none=>exact h.elim
  |some r=>exact⟨h.1,h.2,r.2.1,rfl⟩
theorem D2{own:Nat->Nat}{ops:Array Oper}{Q:Exit->Act->World->Prop}{K:Tm->List Blk->Prop}:∀(l:List SOp){is:List Nat}{T:Tm}{L:List Blk}{a:Act}{E:Env}{w:World},okS l=true->bp P N own ops is=some (SOp.flatL l) ->
  St w0 S0 N E T L a w->Fr (gds l) T->SL P l K T L->(∀E' T' L' y w',E.le E'->K T' L'->St w0 S0 N E' T' L' y w'->Q .normal y w')->wpOpsIn (fo ro) 0 P ops Q is a w
 | [],is,T,L,a,E,w,hok,hl,hst,hfr,h,hK=>by
   simp only[SOp.flatL]at hl;have:is=[]:=by
    cases is with
    |nil=>rfl
    | cons i is =>
      simp only[bp]at hl;split at hl<;>cases hl
   subst this;exact hK E T L a w (.refl E) h hst
 | .op o::r,is,T,L,a,E,w,hok,hl,hst,hfr,h,hK=>by
   simp only[okS,aeq,aev,agK,aeU,afd,decide_eq_false_iff_not]at hok;simp only[SOp.flatL,SOp.flat,agu]at hl;obtain⟨js,Y,rfl,X,Z⟩:=ie (l:=[o]) hl;obtain⟨i,rfl,h3⟩:=lQ X;have D:∀v,Fr (gds r) (bz o.dst v T):=λv=>Fr.put (ds:=gds r) hfr λk C=>hok.1 k C
   have U:(o.guard=none\/∃t b,o.guard=some (t,b)/\ar T t=some (.bool b))->AOp P o (SL P r K) T L->wpOpsIn (fo ro) 0 P ops Q ([i]++Y) a w:=λm h =>
    OS h3 hst m (abY h) λE' T' L' y w' s ⟨hs,v,e⟩ c=>by subst e;exact D2 r hok.2 Z c (D v) hs λS z A R V n=>hK S z A R V (s.trans n)
   have G:∀t b,o.guard=some (t,b)->(ar T t=some (.bool (!b))\/ar T t=some (.tup []))->SL P r K (bz o.dst (.tup []) T) L->wpOpsIn (fo ro) 0 P ops Q ([i]++Y) a w:=λt b m H h =>
    Pv h3 hst m H λy c=>D2 r hok.2 Z c (D _) h hK
   rw[SL]at h;rcases m:o.guard with _|⟨t,b⟩
   .rw[m]at h;exact U (.inl m) h
   .rw[m]at h;simp only at h;rcases H:ar T t with _|u
    .rw[H]at h;exact h.elim
    rw[H]at h;cases u<;>try exact h.elim
    .rename_i x;rw[yz]at h;by_cases e:x=b
     .rw[if_pos e]at h;exact U (.inr ⟨t,b,m,by rw[H,e]⟩) h
     .rw[if_neg e]at h;have:x = !b:=(by cases x<;>cases b<;>simp_all);exact G t b m (.inl (by rw[H,this])) h
    .rename_i l;cases l with
     |cons _ _=>exact h.elim
     |nil=>exact G t b m (.inr H) h
 | .grp g t b body d x::r,is,T,L,a,E,w,hok,hl,hst,hfr,h,hK=>by
   simp only[okS,aeq,decide_eq_true_eq,aeU,afd,decide_eq_false_iff_not]at hok;obtain⟨⟨⟨⟨m,al⟩,hb⟩,hd⟩,hr⟩:=hok;simp only[SOp.flatL,SOp.flat,aew]at hl;obtain⟨js,ap,rfl,X,Z⟩:=ie hl;obtain⟨an,Y,rfl,ai,h4⟩:=ie Z;obtain⟨i,rfl,h3⟩:=lQ ai;rw[SL]at h;have B:Fr (aW (SOp.flatL body)) T:=λd' I=>hfr d' (by simp[gds,I])
   have W:Fr (gds r) T:=λd' I=>hfr d' (by simp[gds,I])
   have O:∀{E':Env}{T':Tm}{y:Act}{w':World}(p q:Bool),E.le E'->St w0 S0 N E' T' L y w'->Ext (aW (SOp.flatL body)) T T'->ar T t=some (.bool p)->(p=b->evX T' x=some (.bool q))->SL P r K ((d,.bool (mrg b p q))::T) L->wpOpsIn (fo ro) 0 P ops Q ([i]++Y) y w':=λ{E' T' y w'} p q s c f F hq C=>by
    have hv:ak T' L (.pick (.tmp t) (if b then x else .av (.bool true)) (if b then .av (.bool false)else x))=some (True,.bool (mrg b p q),L):=by have ad:ar T' t=some (.bool p):=f _ _ al F;cases b<;>cases p<;>simp[ak,evX,ad,mrg]<;>exact hq rfl
    refine OS h3 c (.inl (by simp[cU,m])) (K:=λz A=>z=(d,.bool (mrg b p q))::T'/\A=L) ?_ λS z A R V n ⟨e1,e2⟩ j=>?_
    .simp only[cU,AOp,hv,Res,bz,and_self]
    .subst e1;subst e2;refine D2 r hr h4 (T:=(d,.bool (mrg b p q))::T) ⟨j.1,j.2.1.weak λu v J=>?_,j.2.2⟩ (Fr.put (d:=some d) W λk C=>by cases C;exact hd) C λE3 T3 L3 a3 w3 M=>hK E3 T3 L3 a3 w3 ((s.trans n).trans M)
     simp only[ar]at J⊢;split
     .rename_i e;rw[if_pos e]at J;exact J
     .rename_i e;rw[if_neg e]at J;refine f u v (λhm=>?_) J;rw[B u hm]at J;cases J
   rcases F:ar T t with _|u
   .rw[F]at h;exact h.elim
   rw[F]at h;cases u<;>try exact h.elim
   rename_i p;obtain⟨q,hq,C⟩:=h;by_cases e:p=b
   .subst e;exact R4 body hb X hst F (λd hd=>B d (LL body d hd)) (hq rfl) λE' T' y w' s ab f c=>O p q s c f F (λ_=>ab) C
   .have:p = !b:=(by cases p<;>cases b<;>simp_all);exact OL body hb X hst (.inl (by rw[F,this])) ahe λT' y f _ c=>O p q (.refl E) c f F (λe'=>absurd e' e) C
end
theorem aby{p b:Bool}(h:¬p=b):p = !b:=by cases p<;>cases b<;>simp_all
mutual
def RU(g:Option (Nat×Bool))(seen D:List Nat):SOp->Bool
 |.op o=>decide (o.guard=g)&&o.reads.all (λt => !D.contains t)
 |.grp g' t b body d x=>decide (g'=g)&&(g.isNone ||seen.contains t) && !D.contains t && !(aW (SOp.flatL body)).contains t&&(match g with|some g1 => !(aW (SOp.flatL body)).contains g1.1|none=>true) &&
  x.tmps.all (λt => !(D++gds body).contains t)&&okG (some (t,b)) [] D body
def okG(g:Option (Nat×Bool))(seen D:List Nat):List SOp->Bool
 |[]=>true
 |s::r=>RU g seen D s&&(bH s).all (λd => !(D++gds [s]).contains d && !(gds r).contains d&&(match g with|some g1=>d != g1.1|none=>true))&&okG g (bH s++seen) (D++gds [s]) r
end
section
variable {P:Program}{L:List Blk}{K:Tm->List Blk->Prop}
def AR(P:Program)(K:Tm->List Blk->Prop)(l:List aj)(L:List Blk)(T:Tm):Prop:=AG P K (l.map λo=>(o,.read 0 0)) [L] [] T
theorem adp{T:Tm}(h:K T L):AR P K [] L T:=h
theorem O1{o:aj}{r:List aj}{T:Tm}{v:AV}(b:AQ P o T L v)(c:AR P K r L (bz o.dst v T)):AR P K (o::r) L T:=by refine⟨v,λL' a=>?_,c⟩;simp at a;subst a;exact b
def Agr(D:List Nat)(T T1:Tm):Prop:=∀t,t∉D->ar T1 t=ar T t
theorem Agr.put{D:List Nat}{T T1:Tm}(h:Agr D T T1)(d:Option Nat)(v:AV):Agr D (bz d v T) (bz d v T1):=λt a=>by
 cases d with
 |none=>exact h t a
 |some d=>simp only[bz,ar];split;rfl;exact h t a
theorem Tt{d:Option Nat}{T:Tm}{t:Nat}(h:ar T t=some (.tup [])):ar (bz d (.tup []) T) t=some (.tup []):=by
 cases d with
 |none=>exact h
 |some d=>simp only[bz,ar];split;rfl;exact h
mutual
theorem abJ(s:SOp){g:Nat×Bool}{seen D:List Nat}{rest:List aj}{T:Tm}(a:RU (some g) seen D s=true)(f:ar T g.1=some (.bool (!g.2))\/ar T g.1=some (.tup []))(h:∀d∈seen,ar T d=some (.tup []))(n:∀T',(∀t,t∉aW s.flat->ar T' t=ar T t)->(∀d,ar T d=some (.tup [])->ar T' d=some (.tup []))->(∀d∈bH s,ar T' d=some (.tup []))->AR P K rest L T'):AR P K (s.flat++rest) L T:=by
 have c:∀(o:aj) (T:Tm),o.guard=some g->(ar T g.1=some (.bool (!g.2))\/ar T g.1=some (.tup []))->AQ P o T L (.tup []):=λo T w f=>by obtain⟨t,b⟩:=g;simp only[AQ,w];rcases f with f|f<;>simp only at f<;>rw[f]<;>simp
 cases s with
 | op o =>
   simp only[RU,aeq,decide_eq_true_eq]at a;refine O1 (c o T a.1 f) (n _ (λt k=>nj λe=>k (by simp[SOp.flat,aW,e])) (λd hd=>Tt hd) λd hd=>?_);simp only[bH,agK]at hd;rw[hd];simp[bz,ar]
 | grp g' t b body d x =>
   simp only[RU,aeq,decide_eq_true_eq,Option.isNone_some,agh,aeU,afd,decide_eq_false_iff_not]at a;obtain⟨⟨⟨⟨⟨⟨j,k⟩,_⟩,y⟩,l⟩,_⟩,r⟩:=a;simp only[SOp.flat,aew];refine Qq body r (.inr (h t (by simpa using k))) ahe λT' m q=>?_
   refine O1 (o:=cU g' t b d x) (v:=.tup []) (c _ T' (by simp[cU,j]) (by rw[m _ l];exact f)) (n _ (λu i=>?_) (λu i=>Tt (q u i)) λu i=>?_)
   .rw[nj (λe=>i (by simp only[cU]at e;simp[SOp.flat,aW,cU,e]))];exact m u λp=>i (by simp only[SOp.flat,aW,afF,aen];exact .inl p)
   .simp only[bH,aeG]at i;subst i;simp[cU,bz,ar]
theorem Qq(l:List SOp){g:Nat×Bool}{seen D:List Nat}{rest:List aj}{T:Tm}(e:okG (some g) seen D l=true)(u:ar T g.1=some (.bool (!g.2))\/ar T g.1=some (.tup []))(c:∀d∈seen,ar T d=some (.tup []))(q:∀T',(∀t,t∉aW (SOp.flatL l)->ar T' t=ar T t)->(∀d,ar T d=some (.tup [])->ar T' d=some (.tup []))->AR P K rest L T'):AR P K (SOp.flatL l++rest) L T:=by
 cases l with
 |nil=>exact q T (λ_ _=>rfl) (λ_ h=>h)
 | cons s r =>
   simp only[okG,aeq,aev,aeU,bne_iff_ne]at e;obtain⟨⟨k,p⟩,y⟩:=e;simp only[SOp.flatL,aew];refine abJ s k u c λT' n j z=>?_
   have f:ar T' g.1=some (.bool (!g.2))\/ar T' g.1=some (.tup []):=by
    by_cases a:g.1∈aW s.flat
    .cases s with
     | op o =>
       simp only[aW,SOp.flat,List.filterMap_cons,List.filterMap_nil]at a;cases hd:o.dst with
       |none=>simp[hd]at a
       | some d =>
         simp[hd]at a;exact absurd a.symm (p d (by simp[bH,hd])).2
     | grp g' t b body d x =>
       simp only[RU,aeq,aeU,afd,decide_eq_false_iff_not]at k;simp only[aW,SOp.flat,afF,aen]at a;rcases a with a|a
       .exact absurd a k.1.1.2
       .simp[cU]at a;exact absurd a.symm (p d (by simp[bH])).2
    .exact u.imp (λh=>by rw[n _ a];exact h) (j _)
   refine Qq r y f (λd hd=>?_) λi v w=>q i (λt m=>?_) (λd hd=>w d (j d hd))
   .rcases aen.1 hd with hd|hd
    .exact z d hd
    .exact j d (c d hd)
   .simp only[SOp.flatL,aW,afF,aen,not_or]at m;rw[v t m.2,n t m.1]
end
def Lw(l:List SOp):List Nat:=l.flatMap bH
theorem Rg:∀(l:List SOp),∀d∈Lw l,d∈aW (SOp.flatL l)
 |[],d,h=>by simp[Lw]at h
 |s::r,d,h=>by simp only[Lw,afe,aen]at h;simp only[SOp.flatL,aW,afF,aen];exact h.imp (Te s d) (Rg r d)
theorem adi{o:aj}{k:Tm->Prop}{T:Tm}(h:GOp P L o k T):∃v,AQv P o T L v/\k (bz o.dst v T):=by
 obtain⟨d,op,gd⟩:=o;simp only[GOp]at h;unfold AQv;cases op
 case call f xs =>
  simp only at h⊢;cases he:iz T xs with
  |none=>rw[he]at h;exact h.elim
  |some args=>rw[he]at h;obtain⟨v,h1,h2⟩:=h;exact⟨v,h1,h2⟩
 case callv f xs =>
  simp only at h⊢;cases hf:evX T f with
  |none=>rw[hf]at h;exact h.elim
  | some u =>
    rw[hf]at h;cases he:iz T xs with
    |none=>rw[he]at h;cases u<;>exact h.elim
    | some args =>
      rw[he]at h;cases u<;>simp only[Wv]at h;obtain⟨v,h1,h2⟩:=h;exact⟨v,h1,h2⟩
 all_goals
  simp only at h⊢;generalize ak T L _=r at h⊢;cases r with
  |none=>exact h.elim
  | some r =>
    obtain⟨c,av,L'⟩:=r;exact⟨av,⟨h.1,rfl,h.2.1⟩,h.2.2⟩
mutual
theorem ac5(s:SOp){g:Option (Nat×Bool)}{seen D:List Nat}{rest:List aj}{T T1:Tm}{k:Tm->Prop}(f:RU g seen D s=true)(X:∀g1,g=some g1->g1.1∉D/\ar T g1.1=some (.bool g1.2))(M:∀d∈gds [s],ar T d=none)(F:Agr D T T1)(h:GO P L s k T)(N:∀T' B,k T'->Agr (D++gds [s]) T' B->(∀t,t∉bH s->ar T' t=ar T t)->AR P K rest L B):AR P K (s.flat++rest) L T1:=by
 cases s with
 | op o =>
   simp only[RU,aeq,decide_eq_true_eq,aev,aeU,afd,decide_eq_false_iff_not]at f;simp only[GO]at h;obtain⟨v,j,r⟩:=adi h;have n:AQ P o T L v:=by
    unfold AQ;rw[f.1];cases g with
    |none=>exact j
    | some g1 =>
      obtain⟨t,b⟩:=g1;have:=(X _ rfl).2;simp only at this⊢;rw[this];simp[j]
   refine O1 (n.congr λt G=>(F t (f.2 t G)).symm) (N _ _ r (λt G=>?_) λt G=>nj λe=>G (by simp[bH,e]));exact(F.put _ _) t λw=>G (afp _ w)
 | grp g' t b body d x =>
   simp only[RU,aeq,decide_eq_true_eq,aev,aeU,afd,decide_eq_false_iff_not]at f;obtain⟨⟨⟨⟨⟨⟨E,_⟩,m⟩,V⟩,J⟩,Q⟩,Y⟩:=f;simp only[GO]at h;have z:∀u∈aW (SOp.flatL body),ar T u=none:=λu i=>M u (by simp[gds,i])
   have S:gds [SOp.grp g' t b body d x]=aW (SOp.flatL body):=(by simp[gds]);rw[S]at N;simp only[SOp.flat,aew];have C:∀{c:Tm}(p q:Bool),ar T t=some (.bool p)->(∀u,u∉D->u∉aW (SOp.flatL body)->ar c u=ar T u)->(p=b->evX c x=some (.bool q))->k ((d,.bool (mrg b p q))::T)->AR P K ([cU g' t b d x]++rest) L c:=λ{c} p q l O n H=>by
    have Z:ak c L (.pick (.tmp t) (if b then x else .av (.bool true)) (if b then .av (.bool false)else x))=some (True,.bool (mrg b p q),L):=by have I:ar c t=some (.bool p):=(by rw[O t m V];exact l);cases b<;>cases p<;>simp[ak,evX,I,mrg]<;>exact n rfl
    have A:AQv P (cU g' t b d x) c L (.bool (mrg b p q)):=by simp only[AQv,cU,Z,and_self]
    have n:AQ P (cU g' t b d x) c L (.bool (mrg b p q)):=by
     unfold AQ;cases g with
     |none=>simp only[cU,E];exact A
     | some g1 =>
       obtain⟨W,b1⟩:=g1;have j:=X _ rfl;simp only[cU,E];rw[show ar c W=some (.bool b1)by rw[O W j.1 (by simpa using J)];exact j.2];simp;exact A
    refine O1 n (N ((d,.bool (mrg b p q))::T) _ H (λu i=>?_) λu i=>?_)
    .simp only[aen,not_or]at i;simp only[cU,bz,ar];split
     .rfl
     .exact O u i.1 i.2
    .simp only[bH,aeG]at i;simp only[ar];rw[if_neg (Ne.symm i)]
   rcases l:ar T t with _|u
   .rw[l]at h;exact h.elim
   rw[l]at h;cases u<;>try exact h.elim
   rename_i p;obtain⟨q,n,H⟩:=h;by_cases e:p=b
   .subst e;refine Sm body Y (λg1 e=>by cases e;exact⟨m,l⟩) (λu i=>z u (LL body u i)) F (n rfl) λTb c R y U=>C p q l (λu j r=>?_) (λ_=>?_) H
    .rw[y u (by simp only[aen,not_or];exact⟨j,λw=>r (LL body u w)⟩)];exact U u λw=>r (Rg body u w)
    .have hxb':evX Tb x=some (.bool q):=R;rw[<- hxb'];cases x with
     |av a=>rfl
     |tmp t'=>exact y t' (by have:=Q t' (by simp[Opd.tmps]);simpa using this)
   .have:p = !b:=aby e;refine Qq body Y (.inl (by show ar T1 t=_;rw[F t m,l,this])) ahe λc j _=>C p q l (λu r h3=>?_) (λe'=>absurd e' e) H
    rw[j u h3,F u r]
theorem Sm(l:List SOp){g:Option (Nat×Bool)}{seen D:List Nat}{rest:List aj}{T T1:Tm}{k:Tm->Prop}(i:okG g seen D l=true)(z:∀g1,g=some g1->g1.1∉D/\ar T g1.1=some (.bool g1.2))(a:∀d∈gds l,ar T d=none)(A:Agr D T T1)(h:GL P L l k T)(u:∀T' e,k T'->Agr (D++gds l) T' e->(∀t,t∉Lw l->ar T' t=ar T t)->AR P K rest L e):AR P K (SOp.flatL l++rest) L T1:=by
 cases l with
 | nil =>
   rw[GL]at h;exact u T T1 h (by simpa[gds]using A) (λ_ _=>rfl)
 | cons s r =>
   simp only[okG,aeq,aev,aeU,afd,decide_eq_false_iff_not]at i;obtain⟨⟨m,j⟩,I⟩:=i;have F:∀d∈bH s,d∉gds r:=λd hd=>(j d hd).1.2
   simp only[SOp.flatL,aew];rw[GL]at h;rw[LM]at a u;refine ac5 s m z (λd hd=>a d (afp _ hd)) A h λT' e E C q=>?_
   refine Sm r I (λg1 B=>?_) (λd hd=>?_) C E λp f y G H=>u p f y (by rwa[aew]at G) λt v=>?_
   .subst B;have w:g1.1∉bH s:=λc=>by have:=(j _ c).2;simp at this
    have n:g1.1∉gds [s]:=λc=>by
     cases s with
     |op o=>simp[gds]at c
     | grp g' t b body d x =>
       simp only[RU,aeq,aeU,afd,decide_eq_false_iff_not]at m;simp only[gds,aeL]at c;exact m.1.1.2 c
    have h4:=z g1 rfl;exact⟨by simp only[aen,not_or];exact⟨h4.1,n⟩,by rw[q _ w];exact h4.2⟩
   .rw[q d (λc=>F d c hd)];exact a d (afG _ hd)
   .simp only[Lw,afe,aen,not_or]at v;rw[H t v.2,q t v.1]
end
theorem Tf:∀(l:List SOp){g:Option (Nat×Bool)}{seen D:List Nat},okG g seen D l=true->∀t∈Lw l,t∉D++gds l
 |[],_,_,_,_,t,h=>by simp[Lw]at h
 | s::r,g,seen,D,hok,t,h=>by
   simp only[okG,aeq,aev,aeU,afd,decide_eq_false_iff_not]at hok;obtain⟨⟨c,a⟩,b⟩:=hok;rw[LM];simp only[Lw,afe,aen]at h;rcases h with h|h
   .have:=(a t h).1;simp only[aen,not_or]at this⊢;exact⟨this.1.1,this.1.2,this.2⟩
   .have:=Tf r b t h;simp only[aen,not_or]at this⊢;exact⟨this.1.1,this.1.2,this.2⟩
theorem XR{l:List SOp}{T:Tm}{k:Tm->Prop}(a:okG none [] [] l=true)(b:Fr (gds l) T)(h:GL P L l k T):AR P (λT1 L'=>L'=L/\∃T',k T'/\∀t v,ar T' t=some v->ar T1 t=some v) (SOp.flatL l) L T:=by
 have:=Sm (K:=λT1 L'=>L'=L/\∃T',k T'/\∀t v,ar T' t=some v->ar T1 t=some v) (rest:=[]) l a (λ_ e=>by cases e) b (T1:=T) (λ_ _=>rfl) h λT' m i g j=>adp ⟨rfl,T',i,λt v d=>?_⟩
 simpa using this;by_cases c:t∈gds l;by_cases f:t∈Lw l;exact absurd (by simpa using c) (Tf l a t f);rw[j t f,b t c]at d;cases d;rw[g t (by simpa using c)];exact d
end
section
variable {P:Program}{r:Option Nat}{w0:World}{S0:SB}{N:Nat}
inductive aS where
 |skip
 |sreg (sops:List SOp) (mask:List Bool)
 |sdreg (sops:List SOp) (kds:List Kd) (mask:List Bool)
 |dregM (qk:List (aj×Kd)) (ts:List aj) (mask:List Bool)
 |region (ops:List aj)
 |dregion (qk:List (aj×Kd)) (ts:List aj)
 |seq (a b:aS)
 |cond (c:Opd) (a b:aS)
 |block (id:Nat) (c:aS)
 |loop (c:aS)
 |exit (id:Nat)
 |ret
 |rangeF (g:Opd) (ps:List Nat) (x y:aS)
 |scope (c:aS)
 |label
 deriving Inhabited
def aS.raw:aS->aS
 |.sreg s _=>.region (SOp.flatL s)
 |.dregM qk ts _=>.dregion qk ts
 |.sdreg s kds _=>.dregion ((SOp.flatL s).zip kds) ((SOp.flatL s).drop kds.length)
 |.seq a b=>.seq a.raw b.raw
 |.cond c a b=>.cond c a.raw b.raw
 |.block id c=>.block id c.raw
 |.loop c=>.loop c.raw
 |.rangeF g ps x y=>.rangeF g ps x.raw y.raw
 |.scope c=>.scope c.raw
 |c=>c
def aS.hasRF:aS->Bool
 |.seq a b=>a.hasRF ||b.hasRF
 |.cond _ a b=>a.hasRF ||b.hasRF
 |.block _ c=>c.hasRF
 |.loop c=>c.hasRF
 |.scope c=>c.hasRF
 |.rangeF ..=>true
 |_=>false
theorem aS.hasRF_raw:∀c:aS,c.raw.hasRF=c.hasRF
 |.seq a b=>by simp[aS.raw,aS.hasRF,hasRF_raw a,hasRF_raw b]
 |.cond c a b=>by simp[aS.raw,aS.hasRF,hasRF_raw a,hasRF_raw b]
 |.block _ c=>by simp[aS.raw,aS.hasRF,hasRF_raw c]
 |.loop c=>by simp[aS.raw,aS.hasRF,hasRF_raw c]
 |.scope c=>by simp[aS.raw,aS.hasRF,hasRF_raw c]
 |.rangeF ..=>rfl
 |.skip|.label|.sreg .. |.sdreg .. |.dregM .. |.region .. |.dregion .. |.exit .. |.ret=>rfl
def LOp.effB:LOp->Bool
 |.alloc _|.box _|.s2bO _|.s2bG _|.rangeS _|.nextS _|.store .. |.mkslice .. |.app .. |.appz .. |.copy .. |.clear .. |.mkmap|.mset .. |.mdel .. |.mclr _|.mrange _|.mnext _=>true
 |.bslice own ..=>own
 |_=>false
def adE(own:Nat->Nat)(i:Nat)(o:aj):Bool:=o.op.effB ||own i == 3
def acO(eff:Nat->aj->Bool)(tbl:List Nat)(es:List Nat)(i:Nat)(o:aj):Kd :=
 if o.op.pureB=true then .pure else if eff i o=true then .eff
 else .read (es.filter λe=>decide (e<i) && !(tbl.getD i 0).testBit e).length (es.filter λe=>decide (i<e) && !(tbl.getD e 0).testBit i).length
def RY(eff:Nat->aj->Bool)(tbl:List Nat)(qs:List aj):List (aj×Kd):=
 let es:=(qs.zipIdx.filter λp=>eff p.2 p.1).map (·.2)
 qs.zipIdx.map λp=>(p.1,acO eff tbl es p.2 p.1)
theorem Tv(a:Nat->aj->Bool)(tbl:List Nat)(qs:List aj):(RY a tbl qs).map (·.1)=qs:=by simp[RY,aeH,Function.comp_def]
def aF(P:Program)(N:Nat)(own:Nat->Nat->Nat):Code->Option aS
 |.skip=>some .skip
 |.region id ops false=>(bp P N (own id) ops (List.range ops.size)).map .region
 | .region id ops true=>(bp P N (own id) ops (List.range ops.size)).bind fun los =>
   let n:=RB (nG ops.toList []) 0 los.length
   let qk:=RY (adE (own id)) (nG ops.toList []) (los.take n)
   if(Gi ops los n&&decide (n<=los.length)&&P.follows .mixedOrders&&Mo (nG ops.toList []) qk)=true then some (.dregion qk (los.drop n))else none
 | .seq a b=>match aF P N own a,aF P N own b with
   |some x,some y=>some (.seq x y)
   |_,_=>none
 | .cond c a b=>match aY c,aF P N own a,aF P N own b with
   |some c,some x,some y=>some (.cond c x y)
   |_,_,_=>none
 |.block id c=>(aF P N own c).map (.block id)
 |.loop c=>(aF P N own c).map .loop
 |.exit id=>some (.exit id)
 |.ret=>some .ret
 |.scope c=>(aF P N own c).map .scope
 |.label _=>some .label
 | .rangeFunc g ps x y=>match aY g,aF P N own x,aF P N own y with
   |some g,some x,some y=>if(!x.hasRF && !y.hasRF&&ps.all λp=>decide (p<N))=true then some (.rangeF g ps.toList x y)else none
   |_,_,_=>none
 |_=>none
structure Bs(w0:World)(S0:SB)(w1:World)(S1:SB):Prop where
 size:w0.heap.size<=w1.heap.size
 fr:∀k,k<w0.heap.size->¬S0 k->¬S1 k/\w1.heap[k]?=w0.heap[k]?
 sub:∀k,S1 k->S0 k\/w0.heap.size<=k
 os:w1.os=w0.os
 tape:w1.tape=w0.tape
 output:w1.output=w0.output
 low:S1.B=S0.B
theorem Bs.refl(w0:World)(S0:SB):Bs w0 S0 w0 S0:=⟨aek _,λ_ _ h=>⟨h,rfl⟩,λ_ h=>.inl h,rfl,rfl,rfl,rfl⟩
theorem Bs.trans{w0 c d:World}{S0 e f:SB}(h:Bs w0 S0 c e)(k:Bs c e d f):Bs w0 S0 d f :=
 ⟨aeR h.size k.size,λi b j=>by
  obtain⟨a,l⟩:=h.fr i b j;obtain⟨g,h4⟩:=k.fr i (afs b h.size) a;exact⟨g,h4.trans l⟩,λi b=>by
  rcases k.sub i b with a|a;exact h.sub i a;exact .inr (aeR h.size a),k.os.trans h.os,k.tape.trans h.tape,k.output.trans h.output,k.low.trans h.low⟩
theorem Bs.rel{w0 f w:World}{S0 j:SB}(h:Bs w0 S0 f j){E:Env}{L:List Blk}(a:Rel f j E L w):Rel w0 S0 E L w :=
 ⟨a.mem,a.blk,a.fresh,λi k c b d e=>⟨(a.own i k c b d e).1,by
  rcases(a.own i k c b d e).2 with h4|h4;exact h.sub _ h4;exact .inr (aeR h.size h4)⟩,a.inj,a.tkfresh,λi n sz t k b d e=>⟨(a.tkown i n sz t k b d e).1,by
  rcases(a.tkown i n sz t k b d e).2 with h4|h4;exact h.sub _ h4;exact .inr (aeR h.size h4)⟩,a.tkloc,a.tkinj,λk g l=>by
  obtain⟨b,d⟩:=h.fr k g l;exact(a.frame k (afs g h.size) b).trans d,aeR h.size a.size,a.os.trans h.os,a.tape.trans h.tape,a.output.trans h.output,a.glob,a.gsz⟩
theorem Rel.ownSub{w0 w:World}{S0:SB}{E:Env}{L:List Blk}(f:Rel w0 S0 E L w)(k:Nat)(g:LZ E L k):S0 k\/w0.heap.size<=k:=by rcases g with⟨i,b,c,a,d,e,rfl⟩|⟨i,n,sz,t,c,a,d,e,rfl⟩;exact(f.own i b c a d e).2;exact(f.tkown i n sz t c a d e).2
theorem Rel.bs{w0 w:World}{S0:SB}{E:Env}{L:List Blk}(a:Rel w0 S0 E L w):Bs w0 S0 w ⟨LZ E L,S0.B⟩:=
 ⟨a.size,λk d b=>⟨λe=>by rcases a.ownSub k e with c|c;exact b c;omega,a.frame k d b⟩,a.ownSub,a.os,a.tape,a.output,rfl⟩
theorem Uh.bs{w0 a:World}{S0 e:SB}{ds:List Deferred}(h:Uh w0 S0 ds)(b:Bs w0 S0 a e):Uh a e ds:=⟨by rw[b.low];exact aeR h.1 b.size,h.2.1,λd hd=>by obtain⟨D,j,f,c,g,h4⟩:=h.2.2 d hd;obtain⟨k,i⟩:=b.fr D c g;exact⟨D,j,by rw[b.low];exact f,afs c b.size,k,i.trans h4⟩⟩
def AW(P:Program)(N:Nat)(own:Nat->Nat->Nat)(lc:aS)(Q:Exit->Tm->List Blk->Prop)(T:Tm)(L:List Blk):Prop :=
 ∀c,aF P N own c=some lc.raw->∀(r:Option Nat),(lc.hasRF=true->r=none)->∀(w0:World) (S0:SB) (E:Env) (a:Act) (w:World),St w0 S0 N E T L a w ->
  c.wpIn (fo r) 0 P (λe a' w'=>∃w1 S1 E' T' L',Bs w0 S0 w1 S1/\E.le E'/\Q e T' L'/\St w1 S1 N E' T' L' a' w') a w
variable {own:Nat->Nat->Nat}{Q:Exit->Tm->List Blk->Prop}{T:Tm}{L:List Blk}
theorem AW.mono{lc:aS}{f:Exit->Tm->List Blk->Prop}(h:AW P N own lc Q T L)(l:∀e T L,Q e T L->f e T L):AW P N own lc f T L:=λc n r hr w0 S0 E a w d =>
 wpIn_mono (h c n r hr w0 S0 E a w d) λe o w' ⟨g,m,E',T',L',b,i,j,k⟩=>⟨g,m,E',T',L',b,i,l _ _ _ j,k⟩
theorem AW.weakT{lc:aS}{T':Tm}(h:AW P N own lc Q T' L)(f:∀t v,ar T' t=some v->ar T t=some v):AW P N own lc Q T L:=λc d r hr w0 S0 E a w b =>
 h c d r hr w0 S0 E a w (b.weak f rfl λ_ _ e=>.inr e)
theorem su{c:Code}{x:aS}(d:aF P N own c=some x):match x with
  |.skip=>c=.skip
  |.exit id=>c=.exit id
  |.ret=>c=.ret
  |.label=>∃l,c=.label l
  |.seq x y=>∃g i,c=.seq g i/\aF P N own g=some x/\aF P N own i=some y
  |.cond o x y=>∃m g i,c=.cond m g i/\aY m=some o/\aF P N own g=some x/\aF P N own i=some y
  |.block id x=>∃g,c=.block id g/\aF P N own g=some x
  |.loop x=>∃g,c=.loop g/\aF P N own g=some x
  |.scope x=>∃g,c=.scope g/\aF P N own g=some x
  |.region ops=>∃id os,c=.region id os false/\bp P N (own id) os (List.range os.size)=some ops
  |.dregion qk ts=>∃id os e n,c=.region id os true/\bp P N (own id) os (List.range os.size)=some e/\Gi os e n=true/\n<=e.length/\P.follows .mixedOrders=true/\qk.map (·.1)=e.take n/\ts=e.drop n/\Mo (nG os.toList []) qk=true
  |_=>True:=by
 cases c with
 |skip=>cases d;rfl
 |ret=>cases d;rfl
 |exit id=>cases d;rfl
 |label l=>cases d;exact⟨_,rfl⟩
 |goto l=>cases d
 |refuse s=>cases d
 |block id c=>simp only[aF,aeK]at d;obtain⟨_,h,rfl⟩:=d;exact⟨_,rfl,h⟩
 |loop c=>simp only[aF,aeK]at d;obtain⟨_,h,rfl⟩:=d;exact⟨_,rfl,h⟩
 |scope c=>simp only[aF,aeK]at d;obtain⟨_,h,rfl⟩:=d;exact⟨_,rfl,h⟩
 | seq a b => simp only [aF] at d; split at d <;> try (cases d; done)
              rename_i h j;cases d;exact⟨_,_,rfl,h,j⟩
 | cond k a b => simp only [aF] at d; split at d <;> try (cases d; done)
                 rename_i h j p;cases d;exact⟨_,_,_,rfl,h,j,p⟩
 | rangeFunc f ps a b =>
   simp only[aF]at d
   repeat' split at d
   all_goals cases d
   trivial
 | region id ops draw =>
   cases draw
   .simp only[aF,aeK]at d;obtain⟨_,h,rfl⟩:=d;exact⟨_,_,rfl,h⟩
   .simp only[aF,af2]at d;obtain⟨e,h,d⟩:=d;split at d
    .rename_i hb;simp only[aeq,decide_eq_true_eq]at hb;cases d;exact⟨_,_,e,_,rfl,h,hb.1.1.1,hb.1.1.2,hb.1.2,Tv _ _ _,rfl,hb.2⟩
    .cases d
theorem Zf{c:Code}(a:aF P N own c=some .skip):c=.skip:=su a
theorem Zh{c:Code}{id:Nat}(a:aF P N own c=some (.exit id)):c=.exit id:=su a
theorem abj{c:Code}(a:aF P N own c=some .ret):c=.ret:=su a
theorem Wd{c:Code}{x y:aS}(d:aF P N own c=some (.seq x y)):∃a b,c=.seq a b/\aF P N own a=some x/\aF P N own b=some y:=su d
theorem Ty{c:Code}{o:Opd}{x y:aS}(e:aF P N own c=some (.cond o x y)):∃b a d,c=.cond b a d/\aY b=some o/\aF P N own a=some x/\aF P N own d=some y:=su e
theorem Xl{c:Code}{id:Nat}{x:aS}(b:aF P N own c=some (.block id x)):∃a,c=.block id a/\aF P N own a=some x:=su b
theorem Zg{c:Code}{x:aS}(b:aF P N own c=some (.loop x)):∃a,c=.loop a/\aF P N own a=some x:=su b
theorem Jh{c:Code}{ops:List aj}(a:aF P N own c=some (.region ops)):∃id os,c=.region id os false/\bp P N (own id) os (List.range os.size)=some ops:=su a
theorem N3{c:Code}{qk:List (aj×Kd)}{ts:List aj}(b:aF P N own c=some (.dregion qk ts)):∃id os a n,c=.region id os true/\bp P N (own id) os (List.range os.size)=some a/\Gi os a n=true/\n<=a.length/\P.follows .mixedOrders=true/\qk.map (·.1)=a.take n/\ts=a.drop n/\Mo (nG os.toList []) qk=true:=su b
theorem jH{b:Frame}{a:Act}{k:List Item}{cs:List Frame}{w:World}{c:Code}:step P (lone (b.atR a (.code (.scope c)::k)) cs w)=.next (lone (b.atR a (.code c :: .inScope c::k)) cs w):=
 step_lone_go (by simp[stepG,stepG.exec,Frame.atR])
theorem QC{b:Frame}{a:Act}{k:List Item}{cs:List Frame}{w:World}{c:Code}:step P (lone (b.atR a (.inScope c::k)) cs w)=.next (lone (b.atR a k) cs w):=
 step_lone_go (by simp[stepG,stepG.exec,Frame.atR])
theorem Up{F:Fence}{n:Nat}{a:Act}{w:World}{Q:Exit->Act->World->Prop}{c:Code}(h:c.wpIn F n P (Exit.noGoto Q) a w):(Code.scope c).wpIn F n P Q a w:=by
 intro b k cs q p hr;have f:(lone (b.atR a (.code (.scope c)::k)) cs w).fenced P F:=fenced_calm p hr rfl;obtain⟨e,j,i,g,d⟩:=h b (.inScope c::k) cs q p hr;cases e with
 |normal=>exact⟨.normal,j,i,g,.head f jH (StepsIn.trans d (.one (fenced_calm p hr rfl) QC))⟩
 | exit id =>
   have r:exitTo id (.inScope c::k)=exitTo id k:=(by simp[exitTo]);exact⟨.exit id,j,i,g,λk' m=>.head f jH (d.1 k' (by rw[r];exact m)),
    λo m=>let ⟨k₁,h1,h2⟩:=d.2 o (by rw[r];exact m);⟨k₁,h1,.head f jH h2⟩⟩
 |goto l=>exact g.elim
 |ret=>exact⟨_,j,i,g,.of_steps (.one f jH) d⟩
 |panic ch=>exact⟨_,j,i,g,.of_steps (.one f jH) d⟩
 |outgrown=>exact⟨_,j,i,g,.of_steps (.one f jH) d⟩
theorem iF(h:Q .normal T L):AW P N own .skip Q T L:=λc d r hr w0 S0 E a w b=>by obtain rfl:=Zf d;exact wpIn_skip ⟨w0,S0,E,T,L,.refl _ _,.refl E,h,b⟩
theorem jv{id:Nat}(h:Q (.exit id) T L):AW P N own (.exit id) Q T L:=λc d r hr w0 S0 E a w b=>by obtain rfl:=Zh d;exact wpIn_exit ⟨w0,S0,E,T,L,.refl _ _,.refl E,h,b⟩
theorem nW(h:Q .ret T L):AW P N own .ret Q T L:=λc d r hr w0 S0 E a w b=>by obtain rfl:=abj d;exact wpIn_ret ⟨w0,S0,E,T,L,.refl _ _,.refl E,h,b⟩
def Uf(K:Tm->List Blk->Prop)(Q:Exit->Tm->List Blk->Prop):Exit->Tm->List Blk->Prop
 |.normal,T,L=>K T L
 |e,T,L=>Q e T L
theorem kX{x y:aS}(h:AW P N own x (Uf (AW P N own y Q) Q) T L):AW P N own (.seq x y) Q T L:=λc hc r hr w0 S0 E a w hst=>by
 obtain⟨c1,c2,rfl,h1,h2⟩:=Wd hc;refine wpIn_seq (wpIn_mono (h c1 h1 r (λe=>hr (by simp[aS.hasRF,e])) w0 S0 E a w hst) λe a' w' ⟨w1,S1,E',T',L',b,g1,g2,g3⟩=>?_);cases e
 case normal=>exact wpIn_mono (g2 c2 h2 r (λe=>hr (by simp[aS.hasRF,e])) w1 S1 E' a' w' g3) λe a'' w'' ⟨w2,S2,E'',T'',L'',b2,k1,k2,k3⟩=>⟨w2,S2,E'',T'',L'',b.trans b2,g1.trans k1,k2,k3⟩
 all_goals exact⟨w1,S1,E',T',L',b,g1,g2,g3⟩
theorem eQ{x:Opd}{y z:aS}{b:Bool}(f:evX T x=some (.bool b))(l:b=true->AW P N own y Q T L)(j:b=false->AW P N own z Q T L):AW P N own (.cond x y z) Q T L:=λc n r hr w0 S0 E a w d=>by obtain⟨o,m,g,rfl,h,i,k⟩:=Ty n;have:=ah h f d.2.1;simp only[VR]at this;exact wpIn_cond_split this (λe=>l e m i r (λe=>hr (by simp[aS.hasRF,e])) w0 S0 E a w d) (λe=>j e g k r (λe=>hr (by simp[aS.hasRF,e])) w0 S0 E a w d)
def Vw(id:Nat)(Q:Exit->Tm->List Blk->Prop):Exit->Tm->List Blk->Prop
 |.exit id',T,L=>if id'=id then Q .normal T L else Q (.exit id') T L
 |e,T,L=>Q e T L
theorem cG{x:Opd}{y z:aS}(g:evX T x=some .anyb)(m:AW P N own y Q T L)(l:AW P N own z Q T L):AW P N own (.cond x y z) Q T L:=λc o r hr w0 S0 E a w d=>by obtain⟨p,n,i,rfl,h,j,k⟩:=Ty o;have f:=ah h g d.2.1;simp only[VR]at f;obtain⟨b,f⟩:=f;exact wpIn_cond_split f (λ_=>m n j r (λe=>hr (by simp[aS.hasRF,e])) w0 S0 E a w d) (λ_=>l i k r (λe=>hr (by simp[aS.hasRF,e])) w0 S0 E a w d)
theorem fU{id:Nat}{x:aS}(h:AW P N own x (Vw id Q) T L):AW P N own (.block id x) Q T L:=λc hc r hr w0 S0 E a w hst=>by
 obtain⟨c1,rfl,h1⟩:=Xl hc;refine wpIn_block (wpIn_mono (h c1 h1 r (λe=>hr (by simp[aS.hasRF,e])) w0 S0 E a w hst) λe a' w' ⟨w1,S1,E',T',L',b,g1,g2,g3⟩=>?_);cases e
 case exit i =>
  simp only[Vw]at g2;simp only[Exit.inBlock];split at g2
  .rename_i e;rw[if_pos e];exact⟨w1,S1,E',T',L',b,g1,g2,g3⟩
  .rename_i e;rw[if_neg e];exact⟨w1,S1,E',T',L',b,g1,g2,g3⟩
 all_goals exact⟨w1,S1,E',T',L',b,g1,g2,g3⟩
def Sq(Q:Exit->Tm->List Blk->Prop):Exit->Tm->List Blk->Prop
 |.goto _,_,_=>False
 |e,T,L=>Q e T L
theorem aae:Sq Q .normal T L=Q .normal T L:=rfl
theorem aaf{i:Nat}:Sq Q (.exit i) T L=Q (.exit i) T L:=rfl
theorem aad:Sq Q .ret T L=Q .ret T L:=rfl
attribute [push_cast] aae aaf aad
theorem fP{x:aS}(h:AW P N own x (Sq Q) T L):AW P N own (.scope x) Q T L:=λc hc r hr w0 S0 E a w hst=>by
 obtain⟨c1,rfl,h1⟩:=su hc;refine Up (wpIn_mono (h c1 h1 r (λe=>hr (by simp[aS.hasRF,e])) w0 S0 E a w hst) λe a' w' ⟨w1,S1,E',T',L',b,g1,g2,g3⟩=>?_);cases e
 case goto l=>exact g2.elim
 all_goals exact⟨w1,S1,E',T',L',b,g1,g2,g3⟩
theorem fQ(h:Q .normal T L):AW P N own .label Q T L:=λc d r hr w0 S0 E a w b=>by obtain⟨l,rfl⟩:=su d;exact wpIn_label ⟨w0,S0,E,T,L,.refl _ _,.refl E,h,b⟩
theorem R7(p:Nat->Prop):∀n,p n->∃m,p m/\∀k,p k->m<=k:=by
 intro n;induction n using Nat.strongRecOn with
 | _ n ih =>
   intro b;by_cases h:∃k,k<n/\p k
   .obtain⟨k,a,h2⟩:=h;exact ih k a h2
   .refine⟨n,b,λk c=>?_⟩;rcases aeN k n with a|a
    .exact absurd ⟨k,a,c⟩ h
    .exact a
theorem St.draw{E:Env}{a:Act}{w:World}{T:Tm}{L:List Blk}(h:St w0 S0 N E T L a w)(n:Nat):St w0 S0 N E T L a {w with drawn:=n}:=⟨h.1.draw n,h.2⟩
theorem QB{qk:List (aj×Kd)}{ts:List aj}(h:AG P (l7 P (Q .normal) ts) qk [L] [] T):AW P N own (.dregion qk ts) Q T L:=λc t r hr w0 S0 E a w b=>by
 obtain⟨id,os,p,n,rfl,m,o,u,h4,f,rfl,l⟩:=N3 t;refine wpIn_region_any h4 ?_;have q:qk.length=n:=by have:=congrArg List.length f;simp at this;omega
 exact Ua (w0:=w0) (S0:=S0) (L:=L) (T:=T) (Q:=λe i w'=>∃d g E' T' L',Bs w0 S0 d g/\E.le E'/\Q e T' L'/\St d g N E' T' L' i w') (K:=Q .normal) (E0:=E) m o (by rw[f,afH]) q l h (λE' T' L' i w' j k s=>⟨w0,S0,E',T',L',.refl _ _,j,k,s⟩) a _ E (.refl E) (b.draw _)
def acz(mask:List Bool)(T:Tm):Bool:=(mask.zip T).all λp=>p.1 ||(ar (sel mask T) p.2.1).isNone
theorem O9:∀{a:List Bool}{T:Tm}{t:Nat}{v:AV},(∀p∈a.zip T,p.1=true\/p.2.1≠t)->ar (sel a T) t=some v->ar T t=some v
 |[],T,t,v,_,h=>by rwa[VP]at h
 |true::m,[],t,v,_,h=>by simp[sel,ar]at h
 |false::m,[],t,v,_,h=>by simp[sel,ar]at h
 | true::m,x::T,t,v,hm,h=>by
   obtain⟨k,u⟩:=x;rw[ab8]at h;simp only[ar]at h⊢;split
   .rename_i e;rw[if_pos e]at h;exact h
   .rename_i e;rw[if_neg e]at h;exact O9 (λp b=>hm p (by simp only[List.zip_cons_cons,aeJ];exact .inr b)) h
 | false::m,x::T,t,v,hm,h=>by
   obtain⟨k,u⟩:=x;rw[ab9]at h;have c:k≠t:=by
    rcases hm (false,(k,u)) ahe with h|h
    .cases h
    .exact h
   simp only[ar];rw[if_neg c];exact O9 (λp b=>hm p (by simp only[List.zip_cons_cons,aeJ];exact .inr b)) h
theorem GJ{a:List Bool}{T:Tm}{t:Nat}{v:AV}(d:acz a T=true)(h:ar (sel a T) t=some v):ar T t=some v :=
 O9 (λp c=>by
  have:=aev.1 d p c;rcases Bool.or_eq_true_iff.1 this with b|b;exact .inl b;refine .inr λe=>?_
  rw[e,h]at b;cases b) h
def Qw(mask:List Bool)(K:Tm->List Blk->Prop)(T:Tm)(L:List Blk):Prop:=acz mask T=true/\K (sel mask T) L
theorem jo{a:List Bool}{K:Tm->List Blk->Prop}{T:Tm}{L:List Blk}(b:acz a T=true)(c:K (sel a T) L):Qw a K T L:=⟨b,c⟩
def frB(ds:List Nat)(T:Tm):Bool:=ds.all λd=>(ar T d).isNone
theorem ju{b:List SOp}{f:List Bool}(i:(okS b&&frB (gds b) T)=true)(h:SL P b (Qw f (Q .normal)) T L):AW P N own (.sreg b f) Q T L:=λc n r hr w0 S0 E a w g=>by obtain⟨id,os,rfl,l⟩:=Jh n;rw[aeq]at i;refine wpIn_region (D2 b i.1 l g (λd hd=>?_) h λE' T' L' o w' k j h4=>⟨w0,S0,E',sel f T',L',.refl _ _,k,j.2,h4.weak (λt v m=>GJ j.1 m) rfl λ_ _ e=>.inr e⟩);have:=aev.1 i.2 d hd;simpa using this
def adc(mask:List Bool)(K:Tm->List Blk->Prop)(L:List Blk)(T:Tm):Prop:=Qw mask K T L
theorem abP{a:List Bool}{K:Tm->List Blk->Prop}{T:Tm}{L:List Blk}:adc a K L T=Qw a K T L:=rfl
theorem fO{b:List SOp}{kds:List Kd}{f:List Bool}(B:(okG none [] [] b&&frB (gds b) T&&decide (kds.length<=(SOp.flatL b).length))=true)(h:GL P L b (adc f (Q .normal) L) T):AW P N own (.sdreg b kds f) Q T L:=λc Y r hr w0 S0 E a w x=>by
 obtain⟨id,os,g,n,rfl,A,F,h3,h4,H,M,_⟩:=N3 Y;simp only[aeq,decide_eq_true_eq]at B;obtain⟨⟨W,X⟩,Z⟩:=B;have q:g=SOp.flatL b:=by
  have u:((SOp.flatL b).zip kds).map (·.1)=(SOp.flatL b).take kds.length:=by
   have key:∀(l:List aj) (m:List Kd),(l.zip m).map (·.1)=l.take m.length:=by
    intro l;induction l with
    |nil=>intro m;simp
    |cons o l ih=>intro m;cases m<;>simp[ih]
   exact key _ _
  rw[u]at H;rw[<- afH n g,<- H,<- M,afH]
 have G:g.length=os.size:=by simpa using(yJ A).1
 refine wpIn_region_any h4 ?_;have j:Gi os g g.length=true:=by simp only[Gi,aeq]at F⊢;refine⟨F.1,?_⟩;simp only[Vr,aev,List.mem_range,ae4,decide_eq_true_eq];exact λi hi=>.inl ahd
 have s:=XR (P:=P) (L:=L) W (T:=T) (λd hd=>by have:=aev.1 X d hd;simpa using this) h
 refine Ua (w0:=w0) (S0:=S0) (L:=L) (T:=T) (Q:=λe D w'=>∃z I E' T' L',Bs w0 S0 z I/\E.le E'/\Q e T' L'/\St z I N E' T' L' D w') (E0:=E) (qk:=g.map λo=>(o,.read 0 0)) (ts:=[]) A j (by simp[aeH,Function.comp_def]) ahe ?_ (K:=λT1 L'=>L'=L/\∃T',adc f (Q .normal) L T'/\∀t v,ar T' t=some v->ar T1 t=some v)
  ?_ (λE' T' L' D w' u ⟨U,S,C,J⟩ V=>?_) a _ E (.refl E) (x.draw _)
 have y:∀(l:List aj) (k:Nat),dq (l.map λo=>(o,Kd.read 0 0)) k=[]:=by
  intro l;induction l with
  |nil=>intro k;rfl
  |cons o l ih=>intro k;simp only[aex,dq];exact ih _
 simp only[Mo,y,aeY,List.range_zero,af4,ae9,aev];intro p R;obtain⟨⟨o,kd⟩,i⟩:=p;have:kd=Kd.read 0 0:=by have:=List.fst_mem_of_mem_zipIdx R;simp only[ael]at this;obtain⟨o',_,e⟩:=this;cases e;rfl
 subst this;rfl;rw[q];exact s;subst U;exact⟨w0,S0,E',sel f S,_,.refl _ _,u,C.2,V.weak (λt v O=>J t v (GJ C.1 O)) rfl λ_ _ e=>.inr e⟩
theorem fR{qk:List (aj×Kd)}{ts:List aj}{d:List Bool}(h:AG P (l7 P (Qw d (Q .normal)) ts) qk [L] [] T):AW P N own (.dregM qk ts d) Q T L:=λc l r hr w0 S0 E a w f=>by
 have:=QB (N:=N) (own:=own) (Q:=λe T' L'=>e=.normal/\Qw d (Q .normal) T' L') (L:=L) (T:=T) (qk:=qk) (ts:=ts) (P:=P) ?_ c l r hr w0 S0 E a w f;refine wpIn_mono this λe m w' ⟨g,k,E',T',L',b,g1,⟨j,g3⟩,g4⟩=>?_
 subst j;exact⟨g,k,E',sel d T',L',b,g1,g3.2,g4.weak (λt v i=>GJ g3.1 i) rfl λ_ _ e=>.inr e⟩;have e:(λT' L'=>Exit.normal=Exit.normal/\Qw d (Q .normal) T' L')=Qw d (Q .normal):=by funext T' L';simp
 rw[e];exact h
theorem dS{ops:List aj}(h:l7 P (Q .normal) ops T L):AW P N own (.region ops) Q T L:=λc g r hr w0 S0 E a w b=>by obtain⟨id,os,rfl,e⟩:=Jh g;exact wpIn_region (JE _ _ e b h λE' T' L' i w' d f h4=>⟨w0,S0,E',T',L',.refl _ _,d,f,h4⟩)
end
inductive Ui where
 |tmp (t:Nat)
 |cell (agg:Bool) (sz t:Nat)
 deriving Inhabited
structure aI where
 ntmps:Nat
 code:aS
 res:List Ui
 deriving Inhabited
def aI.raw(f:aI):aI:=⟨f.ntmps,f.code.raw,f.res⟩
def Jd(P:Program):List ResultVar->Option (List Ui)
 |[]=>some []
 |.tmp t::l=>(Jd P l).map (.tmp t::·)
 | .cell a t::l=>match iV P t,bG P t,Jd P l with
   |some g,some s,some m=>some (.cell g s a::m)
   |_,_,_=>none
def aL(P:Program)(own:Nat->Nat->Nat)(f:FuncId):Option aI :=
 match P.funcs[f]? with
 |none=>none
 | some fn=>if (fn.name == "runtime.NumGoroutine")=true then none else match fn.body with
   |none=>none
   | some c=>match aF P fn.ntmps own c,Jd P fn.results.toList with
     |some lc,some rs=>some ⟨fn.ntmps,lc,rs⟩
     |_,_=>none
def Od(T:Tm)(L:List Blk):List Ui->Option (Prop×List AV)
 |[]=>some (True,[])
 | .tmp t::l=>match ar T t,Od T L l with
   |some v,some (c,m)=>some (c,v::m)
   |_,_=>none
 | .cell g sz t::l=>match (ar T t).bind (row L),Od T L l with
   |some (r,off),some (c,m)=>if g then some (off+sz<=r.length/\c,.agg ((r.drop off).take sz)::m)else some (off<r.length/\c,r.getD off .undef::m)
   |_,_=>none
def RJ:List AV->AV
 |[v]=>v
 |l=>.tup l
def am(i:Nat):List AV->Tm
 |[]=>[]
 |a::l=>(i,a)::am (i+1) l
section
variable {P:Program}{w0:World}{S0:SB}{N:Nat}{E:Env}{L:List Blk}{w:World}{T:Tm}{a:Act}
theorem JT:∀{rs:List ResultVar}{ls:List Ui}{c:Prop}{m:List AV},Jd P rs=some ls->Od T L ls=some (c,m)->c->Rel w0 S0 E L w->TR E T a ->
  ∃vs,VRL E m vs/\(rs.mapM (m:=Sem) fun
   |.tmp t=>pure (a.tmps.getD t undef)
   |.cell x t=>do loadVar t (<- asAddr (a.tmps.getD x undef))).run P w=.ok vs w
 |[],ls,c,m,hl,he,hc,hR,hT=>by simp[Jd]at hl;subst hl;simp[Od]at he;obtain⟨_,rfl⟩:=he;exact⟨[],by simp[VRL],ahe⟩
 | .tmp t::rs,ls,c,m,hl,he,hc,hR,hT=>by
   simp only[Jd,aeK]at hl;obtain⟨n,f,rfl⟩:=hl;simp only[Od]at he;split at he<;>try cases he
   rename_i v c' F h i;obtain⟨vs,h4,z⟩:=JT f i hc hR hT;exact⟨_::vs,⟨_,_,rfl,hT _ _ h,h4⟩,by simp only[agG,aer,aeP,aes,z]⟩
 | .cell x t::rs,ls,c,m,hl,he,hc,hR,hT=>by
   simp only[Jd]at hl;split at hl<;>try cases hl
   rename_i g s n B D f;simp only[Od]at he;split at he<;>try cases he
   rename_i r off c' F h i;rcases h6:ar T x with _|u
   .simp_all
   .simp only[h6,afO]at h;have G:=hT _ _ h6;obtain⟨b,o,H,d⟩:=Mc hR h G;have p:(asAddr (a.tmps.getD x undef)).run P w=.ok ⟨b,o+off,none⟩ w:=(by rw[H];rfl);cases g
    .obtain⟨rfl,rfl⟩:=he;obtain⟨vs,h4,z⟩:=JT f i hc.2 hR hT;obtain⟨y,A,C⟩:=d off r[off] (aeF hc.1);refine⟨y::vs,⟨_,_,rfl,by rw[aeA,aeF hc.1];exact C,h4⟩,?_⟩;have k:(loadVar t ⟨b,o+off,none⟩).run P w=.ok y w:=(by simp[loadVar,yl B,A]);simp_all
    .obtain⟨rfl,rfl⟩:=he;obtain⟨vs,h4,z⟩:=JT f i hc.2 hR hT;have e:((r.drop off).take s).length=s:=(by simp;omega);obtain⟨cs,A,C⟩:=N2 (P:=P) (w:=w) (b:=b) (o:=o+off) (l:=(r.drop off).take s) B (by rw[e];exact D) (λj a q=>by have I:j<s:=(by have:=(aei.1 q).1;omega);rw[aeS I,aeX]at q;have:=d _ _ q;rwa[<- afm]at this)
     refine⟨.agg ⟨cs⟩::vs,⟨_,_,rfl,⟨cs,rfl,A⟩,h4⟩,?_⟩;simp_all
theorem YF{m:List AV}{vs:List Value}(h:VRL E m vs):VR E (RJ m) (if h:vs.length=1 then vs[0]else .tuple ⟨vs⟩):=by
 have a:=h.length;by_cases b:vs.length=1
 match m,vs,h,a,b with
 | [x],[y],h,_,_ =>
   obtain⟨_,_,⟨rfl,rfl⟩,c,_⟩:=h;exact c
 rw[dif_neg b];have:RJ m=.tup m:=by
  match m,a with
  |[],_=>rfl
  |[x],a=>simp at a;exact absurd a b
  |_::_::_,_=>rfl
 rw[this];exact⟨vs,rfl,h⟩
theorem PD:∀{args:List AV}{i t:Nat}{v:AV},ar (am i args) t=some v->i<=t/\args[t-i]?=some v
 |[],i,t,v,h=>by simp[am,ar]at h
 | x::args,i,t,v,h=>by
   simp only[am,ar]at h;split at h
   .simp[*]
   .rename_i e;have:=PD h
    grind
def Fin(L0:List Blk)(r:AV)(L:List Blk)(Q:AV->List Blk->Prop):Prop :=
 ∀(w0:World) (S0:SB) (E0 E:Env) (w:World) (v:Value),E0.le E->(∀i,L0.length<=i->E0.loc i=none/\E0.tok i=none)->(∀k∈L0,k.refs (λi=>decide (i<L0.length))=true) ->
  Rel w0 S0 E L w->VR E r v->∃E' av L',E0.le E'/\Q av L'/\VR E' av v/\Rel w0 S0 E' L' w
mutual
theorem VR.refs{n:Nat}(g:∀i,n<=i->E.loc i=none)(j:∀i,n<=i->E.tok i=none):∀(a:AV) (v:Value),VR E a v->a.refs (λi=>decide (i<n))=true
 |.undef,_,_=>rfl
 |.bool _,_,_=>rfl
 |.anyb,_,_=>rfl
 |.int _ _,_,_=>rfl
 |.str _,_,_=>rfl
 |.nilptr,_,_=>rfl
 |.gptr _ _,_,_=>rfl
 | .ptr i off,v,r=>by
   simp only[VR]at r;obtain⟨c,h,_⟩:=r;simp only[AV.refs,decide_eq_true_eq];rcases aeN i n with e|e
   .exact e
   .rw[g i e]at h;cases h
 |.iptr l off,v,r=>by simp only[VR]at r;obtain⟨b,o,_,h⟩:=r;exact VRC.refs g j l b o h
 |.nilsl,_,_=>rfl
 | .sl l m cap,v,r=>by
   simp only[VR]at r;obtain⟨p,c,_,_,_,h⟩:=r;rcases h with⟨_,_,_,rfl⟩|⟨b,o,_,h⟩
   .rfl
   .exact VRC.refs g j l b o h
 | .gsl l m i sz,v,r=>by
   simp only[VR]at r;obtain⟨p,c,_,_,_,h,t,k,_⟩:=r;simp only[AV.refs,decide_eq_true_eq,aeq];refine⟨?_,?_⟩
   .rcases aeN i n with e|e
    .exact e
    .rw[j i e]at k;cases k
   .rcases h with⟨_,_,_,rfl⟩|⟨b,o,_,h⟩
    .rfl
    .exact VRC.refs g j l b o h
 | .lsl i off len cap sz,v,r=>by
   simp only[VR]at r;obtain⟨c,q,d,h,_⟩:=r;simp only[AV.refs,decide_eq_true_eq];rcases aeN i n with e|e
   .exact e
   .rw[g i e]at h;cases h
 |.nilmap,_,_=>rfl
 | .lmap i,v,r=>by
   simp only[VR]at r;obtain⟨c,h,_⟩:=r;simp only[AV.refs,decide_eq_true_eq];rcases aeN i n with e|e
   .exact e
   .rw[g i e]at h;cases h
 | .yld i,v,r=>by
   simp only[VR]at r;obtain⟨c,h,_⟩:=r;simp only[AV.refs,decide_eq_true_eq];rcases aeN i n with e|e
   .exact e
   .rw[g i e]at h;cases h
 |.func f caps,v,r=>by simp only[VR]at r;obtain⟨vs,_,h⟩:=r;exact VRL.refs g j caps vs h
 |.nilfunc,_,_=>rfl
 |.nilif,_,_=>rfl
 |.iface t x,v,r=>by simp only[VR]at r;obtain⟨y,_,h⟩:=r;exact VR.refs g j x y h
 |.agg l,v,r=>by simp only[VR]at r;obtain⟨vs,_,h⟩:=r;exact VRL.refs g j l vs h
 |.tup l,v,r=>by simp only[VR]at r;obtain⟨vs,_,h⟩:=r;exact VRL.refs g j l vs h
theorem VRL.refs{n:Nat}(b:∀i,n<=i->E.loc i=none)(c:∀i,n<=i->E.tok i=none):∀(l:List AV) (vs:List Value),VRL E l vs->AV.refsL (λi=>decide (i<n)) l=true
 |[],_,_=>rfl
 |a::l,vs,r=>by simp only[VRL]at r;obtain⟨x,xs,_,d,e⟩:=r;simp only[AV.refsL,aeq];exact⟨VR.refs b c a x d,VRL.refs b c l xs e⟩
theorem VRC.refs{n:Nat}(c:∀i,n<=i->E.loc i=none)(d:∀i,n<=i->E.tok i=none):∀(l:List AV) (b o:Nat),VRC E l b o->AV.refsL (λi=>decide (i<n)) l=true
 |[],_,_,_=>rfl
 |a::l,b,o,r=>by simp only[VRC]at r;obtain⟨⟨x,_,e⟩,f⟩:=r;simp only[AV.refsL,aeq];exact⟨VR.refs c d a x e,VRC.refs c d l b (o+1) f⟩
end
theorem az.refs{n:Nat}(a:∀i,n<=i->E.loc i=none)(c:∀i,n<=i->E.tok i=none):∀{l:List (AV×AV×Nat)}{es:List MapEntry},az E l es->(l.all λe=>e.1.refs (λi=>decide (i<n))&&e.2.1.refs (λi=>decide (i<n)))=true
 |[],_,_=>rfl
 |(k,x,b)::l,es,r=>by simp only[az]at r;obtain⟨e,t,_,d,f,_,g⟩:=r;simp only[afl,aeq];exact⟨⟨VR.refs a c _ _ d,VR.refs a c _ _ f⟩,az.refs a c g⟩
theorem Rel.refs(h:Rel w0 S0 E L w):∀k∈L,k.refs (λi=>decide (i<L.length))=true:=λk n=>by
 obtain⟨i,p⟩:=afT.1 n;have e:=h.blk i k p;cases k<;>simp only[bf]at e;rfl;obtain⟨c,cs,ty,fr,_,_,_,_,b,_⟩:=e;refine AV.refsL_iff.2 λa f=>?_
 obtain⟨j,l⟩:=afT.1 f;obtain⟨v,_,g⟩:=b j a l;exact VR.refs h.fresh h.tkfresh _ _ g;obtain⟨c,rs,_,_,o⟩:=e;exact az.refs h.fresh h.tkfresh o;rename_i m _ _ _;obtain⟨c,q,_,_,_,h4⟩:=e;cases m with
 |none=>rfl
 | some j =>
   obtain⟨d,g1,_⟩:=h4;simp only[Blk.refs,decide_eq_true_eq];rcases aeN j L.length with b|b
   .omega
   .rw[h.fresh j b]at g1;cases g1
 rfl;obtain⟨c,cs,ty,fr,_,_,_,_,b,_⟩:=e;refine AV.refsL_iff.2 λa f=>?_
 obtain⟨j,l⟩:=afT.1 f;obtain⟨v,_,g⟩:=b j a l;exact VR.refs h.fresh h.tkfresh _ _ g;rfl;obtain⟨c,D,tm,_,_,_,_,b⟩:=e;simp only[Blk.refs,aev];rintro⟨t,u⟩ _;rcases hl:ar _ t with _|v;rfl;simpa using VR.refs h.fresh h.tkfresh _ _ (b t v hl)
def abU(res:List Ui)(L0:List Blk)(Q:AV->List Blk->Prop)(e:Exit)(T:Tm)(L':List Blk):Prop :=
 (e=.normal\/e=.ret)/\∃c rs,Od T L' res=some (c,rs)/\c/\Fin L0 (RJ rs) L' Q
theorem Rel.shut{w0 w:World}{S0:SB}{E:Env}{L:List Blk}(h:Rel w0 S0 E L w){D:Nat}(A:w0.heap.size<=D)(d:¬LZ E L D)(q:w.heap[D]?=some (.deferred (some []))):Rel w0 S0 E L (w.putObj D (.deferred none)):=by
 have same:∀k,k≠D->(w.putObj D (.deferred none)).heap[k]?=w.heap[k]?:=λk a=>agv a
 refine⟨λb o v s=>?_,λi k a=>?_,h.fresh,h.own,h.inj,h.tkfresh,h.tkown,h.tkloc,h.tkinj,λk a m=>?_,by simpa using h.size,h.os,h.tape,h.output,h.glob,λp u j=>?_⟩;have f:=h.mem b o v s;have z:b≠D:=λe=>by subst e;simp[World.cell?,q]at f
 simp only[World.cell?]at f⊢;simp_all;cases hl:k.live;refine bf.still hl rfl (λt c n sz e r l=>?_) (h.blk i k a);exact same _ λg=>d (.inr ⟨i,n,sz,t,c,e▸a,r,l,g⟩)
 refine bf.worldL hl (λc l=>?_) (h.blk i k a);exact same _ λg=>d (.inl ⟨i,k,c,a,hl,l,g⟩)
 rw[same k ahd];exact h.frame k a m;obtain⟨cs,ty,fr,x,y⟩:=h.gsz p u j
 grind
theorem Q0{fn:Func}{tmps:Array Value}{R:Ending->World->Prop}{wE:World}{SE:SB}{E:Env}{L:List Blk}(c:∀w,Rel wE SE E L w->∃v,(results fn tmps).run P w=.ok v w/\R (.returned v) w):
  ∀(ds:List Deferred) (w:World),Rel wE SE E L w->ds.Nodup->(∀d∈ds,∃D,d=mkD D/\wE.heap.size<=D/\¬LZ E L D/\w.heap[D]?=some (.deferred (some [])))->LeavesInM (fo none) 0 P fn tmps R ds .returning w
 |[],w,h,_,_=>c w h
 |d::ds,w,h,hn,hd=>by obtain⟨D,rfl,j,k,b⟩:=hd _ List.mem_cons_self;obtain⟨f,l⟩:=aff.1 hn;refine⟨λe=>(by cases e),.inl ⟨D,_,rfl,run_takeDeferred b,Q0 c ds _ (h.shut j k b) l λd a=>?_⟩⟩;obtain⟨i,rfl,m,g,n⟩:=hd d (afZ _ a);refine⟨i,rfl,m,g,?_⟩;rw[agv λe=>f (by subst e;exact a)];omega
theorem aa{own:Nat->Nat->Nat}{f:FuncId}{j:aI}(h:aL P own f=some j.raw){args:List AV}{L:List Blk}{Q:AV->List Blk->Prop}(l:args.length<=j.ntmps)(H:AW P j.ntmps own j.code (abU j.res L Q) (am 0 args) L):ae P f args L Q:=by
 intro w0 S0 E w vs m J;obtain⟨nt,code,W⟩:=j;simp only[aI.raw]at h l H;unfold aL at h;split at h;cases h;rename_i fn k;split at h;cases h;rename_i a;split at h;cases h;rename_i c N;split at h<;>try cases h
 rename_i lc rs u C;refine .inl ⟨?_,?_⟩;have:(fn.name == "runtime.NumGoroutine")=false:=by simpa using a
 simp only[callFunc,aer,run_program,aes,k,this,N,Option.isNone_some,aeE,if_false,aeP];refine(callsIn_wide (n:=0)).1 (callsIn_of_wp_marks (F:=fo none) k N trivial ?_);have Z:=J.length;have A:St w ⟨LZ E L,w.heap.size⟩ fn.ntmps E (am 0 args) L {tmps:=(⟨vs⟩:Array Value)++Array.replicate (fn.ntmps-vs.length) undef,defers:=[]} w:=by refine⟨m.enter _,λt x S=>?_,by simp;omega,Uh.nil (aek _)⟩;obtain⟨_,p⟩:=PD S;simp only[agj]at p;obtain⟨y,B,K⟩:=J.get p;have q:t<vs.length:=(aei.1 B).1;rw[afD,agL (by simpa using q)];simp[*]
 refine wpIn_mono (H c u none (λ_=>rfl) w _ E _ w A) λe z w' ⟨w1,S1,E',T',L',b,g1,⟨V,c',U,g3,g4,Y⟩,g⟩=>?_
 have key:LeavesInM (fo none) 0 P fn z.tmps (λe w'=>∃E' v av L',e=.returned v/\E.le E'/\Q av L'/\VR E' av v/\Rel w0 S0 E' L' w') z.defers .returning w':=by
  refine Q0 (wE:=w) (SE:=⟨LZ E L,w.heap.size⟩) (E:=E') (L:=L') (λs o=>?_) _ _ (b.rel g.1) g.2.2.2.2.1 λd hd=>?_
  obtain⟨us,R,T⟩:=JT C g3 g4 o g.2.1;obtain⟨ab,av,X,k3,k4,k5,k6⟩:=Y w0 S0 E E' s _ g1 (λi I=>⟨m.fresh i I,m.tkfresh i I⟩) m.refs (m.back o) (YF R);have M:(results fn z.tmps).run P s=.ok (if h:us.length=1 then us[0]else .tuple ⟨us⟩) s:=by unfold results;rw[Array.mapM_eq_mapM_toList];simp only[aer,Sem.run_map];refine(congrArg (λr=>(Result.andThen r λx w=>Result.ok x.toArray w).andThen _) T).trans ?_;simp
  grind
  obtain⟨D,p,G,B,K,h4⟩:=g.2.2.2.2.2 d hd;refine⟨D,p,by rw[b.low]at G;exact G,λO=>?_,?_⟩;rcases g.1.ownSub D O with h5|h5;simp_all;omega;rw[g.1.frame D B K];exact h4
 rcases V with rfl|rfl<;>exact key
theorem ag{L0 L:List Blk}{r:AV}{Q:AV->List Blk->Prop}(h:Q r L):Fin L0 r L Q:=λw0 S0 E0 E w v a _ _ b c=>⟨E,r,L,a,h,c,b⟩
theorem YH{E0 E:Env}{n m:Nat}(d:E0.le E)(l:∀i,n<=i->E0.loc i=none/\E0.tok i=none)(k:n<=m)(g:Nat->Nat)(f:∀i,i<n->g i=i):E0.le (E.res m g):=by
 have lt:∀i,(E0.loc i≠none\/E0.tok i≠none)->i<n:=λi a=>by grind
 refine⟨λb o x j=>d.mem b o x j,λi c h=>?_,λi t e=>?_⟩;have a:=lt i (.inl (by simp[h]));rw[Env.res_loc ahd,f i a];exact d.loc i c h;have a:=lt i (.inr (by simp[e]));rw[Env.res_tok ahd,f i a];exact d.tok i t e
theorem aai{L0 L1 L2:List Blk}{r:AV}{Q:AV->List Blk->Prop}(m:L1.length=L0.length)(e:(∀k∈L0,k.refs (λi=>decide (i<L0.length))=true)->∀k∈L1,k.refs (λi=>decide (i<L0.length))=true)(hr:r.refs (λi=>decide (i<L0.length))=true)(h:Q r L1):Fin L0 r (L1++L2) Q:=λw0 S0 E0 E w v d l f n j=>by
 have a:=n.cut (by rw[m];exact e f);refine⟨E.res L1.length id,r,L1,YH d l ahd id (λ_ _=>rfl),h,VR.cut (E:=E) (E':=E.res L1.length id) (p:=λi=>decide (i<L0.length)) (λ_ _ _ x=>x) (λi c b o=>?_) (λi t b g=>?_) r v hr j,a⟩
 .rw [Env.res_loc (by have : i < L0.length := by simpa using b
                      omega)];exact o
 .rw [Env.res_tok (by have : i < L0.length := by simpa using b
                      omega)];exact g
theorem aB{L0 L:List Blk}{r:AV}{Q:AV->List Blk->Prop}(h:Fin L0 r.frz L Q):Fin L0 r L Q:=λw0 S0 E0 E w v a d b e c =>
 h w0 S0 E0 E w v a d b e (VR.frz _ _ c)
theorem aal{res:List Ui}{L0 L':List Blk}{T:Tm}{Q:AV->List Blk->Prop}{c:Prop}{rs:List AV}(h:Od T L' res=some (c,rs))(b:c)(a:Fin L0 (RJ rs) L' Q):abU res L0 Q .ret T L':=⟨.inr rfl,c,rs,h,b,a⟩
theorem GH{res:List Ui}{L0 L':List Blk}{T:Tm}{Q:AV->List Blk->Prop}{c:Prop}{rs:List AV}(h:Od T L' res=some (c,rs))(b:c)(a:Fin L0 (RJ rs) L' Q):abU res L0 Q .normal T L':=⟨.inl rfl,c,rs,h,b,a⟩
theorem af{L0 L2:List Blk}{r:AV}{Q:AV->List Blk->Prop}(hr:r.refs (λi=>decide (i<L0.length))=true)(h:Q r L0):Fin L0 r (L0++L2) Q :=
 aai rfl (λh=>h) hr h
mutual
def AV.snap(i:Nat)(l:List AV):AV->AV
 |.lsl j off n cap s=>if j=i then .sl ((l.drop off).take (n*s)) n cap else .lsl j off n cap s
 |.agg xs=>.agg (AV.snapL i l xs)
 |.tup xs=>.tup (AV.snapL i l xs)
 |a=>a
def AV.snapL(i:Nat)(l:List AV):List AV->List AV
 |[]=>[]
 |a::xs=>AV.snap i l a::AV.snapL i l xs
end
mutual
theorem VR.snap{i:Nat}{l:List AV}{c:Loc}(h:E.loc i=some c)(g:VRC E l c.blk c.off):∀(a:AV) (v:Value),VR E a v->VR E (a.snap i l) v
 | .lsl j off n cap s,v,r=>by
   simp only[AV.snap];split
   .rename_i e;subst e;simp only[VR]at r⊢;obtain⟨c',o,d,b,rfl,f,m,h4,p⟩:=r;rw[h]at b;cases b;refine⟨_,o,rfl,m,h4,.inr ⟨c.blk,d,rfl,?_⟩⟩;rcases afy n with k|k
    .subst k;simp[VRC]
    .rw[f ahd];exact(g.drop off).take _
   .exact r
 |.agg xs,v,r=>by simp only[AV.snap,VR]at r⊢;obtain⟨vs,b,f⟩:=r;exact⟨vs,b,VRL.snap h g xs vs f⟩
 |.tup xs,v,r=>by simp only[AV.snap,VR]at r⊢;obtain⟨vs,b,f⟩:=r;exact⟨vs,b,VRL.snap h g xs vs f⟩
 |.undef,_,r=>r
 |.bool _,_,r=>r
 |.anyb,_,r=>r
 |.int _ _,_,r=>r
 |.str _,_,r=>r
 |.nilptr,_,r=>r
 |.gptr _ _,_,r=>r
 |.ptr _ _,_,r=>r
 |.iptr _ _,_,r=>r
 |.nilsl,_,r=>r
 |.sl _ _ _,_,r=>r
 |.gsl _ _ _ _,_,r=>r
 |.nilmap,_,r=>r
 |.lmap _,_,r=>r
 |.yld _,_,r=>r
 |.func _ _,_,r=>r
 |.nilfunc,_,r=>r
 |.nilif,_,r=>r
 |.iface _ _,_,r=>r
theorem VRL.snap{i:Nat}{l:List AV}{c:Loc}(e:E.loc i=some c)(b:VRC E l c.blk c.off):∀(xs:List AV) (vs:List Value),VRL E xs vs->VRL E (AV.snapL i l xs) vs
 |[],_,r=>r
 |a::xs,vs,r=>by simp only[AV.snapL,VRL]at r⊢;obtain⟨x,d,f,g,h⟩:=r;exact⟨x,d,f,VR.snap e b a x g,VRL.snap e b xs d h⟩
end
theorem GC{L0 L:List Blk}{r:AV}{Q:AV->List Blk->Prop}{i:Nat}{l:List AV}(b:L[i]?=some (.cells l))(h:Fin L0 (r.snap i l) (L.set i .dead) Q):Fin L0 r L Q:=λw0 S0 E0 E w v e j f d g=>by obtain⟨c,cs,ty,fr,a,_⟩:=d.blk i _ b;obtain⟨E',g1,k,g3,g4⟩:=d.snap b a;exact h w0 S0 E0 E' w v (e.trans g1) j f k (VR.snap (by rw[g4];exact a) g3 _ _ (VR.mono g1 _ _ g))
end
theorem R5(L:List α)(x:α)(l:List α):(L++x::l)[L.length]?=some x:=ahe
theorem yP(L l:List α)(k:Nat):(L++l)[L.length+k]?=l[k]?:=by grind
theorem aaU(L:List α)(x y:α)(l:List α):(L++x::l).set L.length y=L++y::l:=by simp
theorem aaT(L l:List α)(k:Nat)(y:α):(L++l).set (L.length+k) y=L++l.set k y:=by simp
theorem abN(L l m:List α):(L++l)++m=L++(l++m):=aew _ _ _
theorem ac{n:Int}(a : -9223372036854775808<=n)(b:n<9223372036854775808):IntKind.i64.wrap n=n:=by simp only[IntKind.wrap,IntKind.bits,IntKind.signed];simp;omega
theorem aee(j:Nat)(h:j<9223372036854775807):IntKind.i64.wrap ((j:Int)+1)=(j:Int)+1:=ac ahd ahd
theorem qA{n:Int}(a:0<=n)(b:n<256):IntKind.u8.wrap n=n:=by simp only[IntKind.wrap,IntKind.bits,IntKind.signed];simp;omega
theorem I4{n:Int}(a:0<=n)(b:n<18446744073709551616):IntKind.u64.wrap n=n:=by simp only[IntKind.wrap,IntKind.bits,IntKind.signed];simp;omega
theorem fS{P:Program}{N:Nat}{own:Nat->Nat->Nat}{Q:Exit->Tm->List Blk->Prop}{T:Tm}{L:List Blk}{x:Opd}{y z:aS}(a:evX T x=some (.bool true))(h:AW P N own y Q T L):AW P N own (.cond x y z) Q T L :=
 eQ a (λ_=>h) (λe=>by cases e)
theorem fT{P:Program}{N:Nat}{own:Nat->Nat->Nat}{Q:Exit->Tm->List Blk->Prop}{T:Tm}{L:List Blk}{x:Opd}{y z:aS}(a:evX T x=some (.bool false))(h:AW P N own z Q T L):AW P N own (.cond x y z) Q T L :=
 eQ a (λe=>by cases e) (λ_=>h)
def adW(v:AV)(xs:List Int):Prop:=(v=.nilsl/\xs=[])\/∃cap,v=.sl (xs.map (AV.int .i64)) xs.length cap
theorem WS{p:Nat->Bool}(xs:List Int):AV.refsL p (xs.map (AV.int .i64))=true:=AV.refsL_iff.2 λa b=>by obtain⟨x,_,rfl⟩:=ael.1 b;rfl
theorem adW.refs{p:Nat->Bool}{xs:List Int}(h:adW v xs):v.refs p=true:=by rcases h with⟨rfl,_⟩|⟨cap,rfl⟩;rfl;exact WS xs
theorem dQ{p:Prop}[Decidable p]{A B:Prop}(a:p->A)(b:¬p->B):if p then A else B:=by simp_all
theorem cF{p:Prop}[Decidable p]{A B:Prop}(a:p->B)(b:¬p->A):if ¬p then A else B:=by simp_all
def acj(L0 L':List Blk)(Q:AV->List Blk->Prop):Option (Prop×List AV)->Prop
 |some (c,rs)=>c/\Fin L0 (RJ rs) L' Q
 |none=>False
theorem Vy{L0:List Blk}{Q:AV->List Blk->Prop}{c:Prop}{rs:List AV}:acj L0 L' Q (some (c,rs))=(c/\Fin L0 (RJ rs) L' Q):=rfl
theorem dR{res:List Ui}{L0:List Blk}{T:Tm}{Q:AV->List Blk->Prop}(h:acj L0 L' Q (Od T L' res)):abU res L0 Q .ret T L':=by rcases hr:Od T L' res with _|⟨c,rs⟩;rw[hr]at h;exact h.elim;rw[hr]at h;exact aal hr h.1 h.2
def Hid(p:Prop):Prop:=p
theorem hid{p:Prop}(h:p):Hid p:=h
theorem Hid.o{p:Prop}(h:Hid p):p:=h
theorem Kto{K:AV->List Blk->Prop}{L:List Blk}{a b:AV}(h:K a L)(e:a=b):K b L:=e▸h
def QS(T' T:Tm):Prop:=∀p∈T',∃v,ar T p.1=some v/\(p.2=v\/p.2=v.frz)
theorem TR.sub{E:Env}{T:Tm}{a:Act}(r:TR E T a)(h:QS T' T):TR E T' a:=λt v d=>by obtain⟨u,c,b⟩:=h _ (LC d);have:=r t u c;rcases b with b|b;simp_all;simp only at b;subst b;exact VR.frz _ _ this
theorem GA{T:Tm}:QS [] T:=λp h=>by cases h
theorem j6{T:Tm}{t:Nat}{u:AV}(h:ar T t=some u)(e:v=u)(b:QS T' T):QS ((t,v)::T') T:=λp a=>by rcases aeJ.1 a with rfl|a;simp[*];exact b p a
theorem zf{T:Tm}{t:Nat}{u:AV}(h:ar T t=some u)(e:v=u.frz)(b:QS T' T):QS ((t,v)::T') T:=λp a=>by rcases aeJ.1 a with rfl|a;simp[*];exact b p a
def Cut(B:Nat)(T':Tm)(L':List Blk)(T:Tm)(L:List Blk):Prop :=
 QS T' T/\∃X,L=L'++X/\B<=L'.length/\(X=[]\/((∀p∈T',p.2.refs (λi=>decide (i<L'.length))=true)/\∀k∈L',k.refs (λi=>decide (i<L'.length))=true))
theorem GF{T:Tm}{L:List Blk}(h:QS T' T)(a:B<=L.length):Cut B T' L T L:=⟨h,[],ahe,a,.inl rfl⟩
theorem CutS{B:Nat}{T' T:Tm}{L:List Blk}(a:QS T' T:=by repeat' first|exact GA|refine j6 rfl rfl ?_|refine zf rfl rfl ?_)(b:B<=L.length):Cut B T' L T L:=GF a b
theorem CutL{B:Nat}{T' T:Tm}{L:List Blk}(a:QS T' T:=by repeat' first|exact GA|refine j6 rfl rfl ?_|refine zf rfl rfl ?_|refine j6 rfl (congrArg (AV.int _) ahd) ?_|refine j6 rfl (by first|(simp_all;done)|(simp_all;omega)|(simp_all;intros;omega)) ?_)(b:B<=L.length):Cut B T' L T L:=GF a b
abbrev aeg:=@ae Tryz.prog
abbrev aeh:=AV->List Blk->Prop
abbrev Ctr(P:Program)(f:FuncId)(A:List AV)(v:AV):Prop:=∀{L:List Blk}{K:AV->List Blk->Prop},K v L->ae P f A L K
theorem ahk{P:Program}{f:FuncId}{A:List AV}{v:AV}(h:Ctr P f A v):Hid (Ctr P f A v):=hid h
abbrev o0(x:LOp):SOp:=.op ⟨none,x,none⟩
abbrev o1(n:Nat)(x:LOp):SOp:=.op ⟨some n,x,none⟩
abbrev og(n t:Nat)(b:Bool)(x:LOp):SOp:=.op ⟨some n,x,some (t,b)⟩
abbrev od(n:Nat)(x:LOp)(k:Kd):aj×Kd:=(⟨some n,x,none⟩,k)
abbrev tm(t:Nat):Opd:=.tmp t
abbrev iv(n:Int):Opd:=.av (.int .i64 n)
attribute [push_cast] o0 o1 og od tm iv
abbrev ag6(x:List SOp)(m:List Bool)(r:aS):aS:=.seq (.sreg x m) r
abbrev ag7(t:Nat)(a b:aS):aS:=.cond (.tmp t) a b
abbrev ag8(t:Nat)(a:aS):aS:=.cond (.tmp t) (.seq a .ret) .skip
abbrev ag9(n:Nat)(a:aS):aS:=.block n (.loop a)
abbrev aha(t n:Nat):aS:=.cond (.tmp t) .skip (.exit n)
attribute [push_cast] ag6 ag7 ag8 ag9 aha
noncomputable abbrev ahb(n:Nat):=aL Tryz.prog (λ_ _=>1) n
abbrev ahc(c:aI):=some c.raw
abbrev Aa(a b:Nat):SOp:=.op ⟨some a,(.mv (.tmp b)),none⟩
abbrev Ab(a:Nat)(b:Int):SOp:=.op ⟨some a,(.mv (.av (.int .i64 b))),none⟩
abbrev Ac(a b c:Nat):SOp:=.op ⟨some a,(.load false b (.tmp c)),none⟩
abbrev Ad(a b c:Nat):SOp:=.op ⟨some a,(.faddr b (.tmp c)),none⟩
abbrev Ae(a b:Nat):SOp:=.op ⟨some a,(.nilchk (.tmp b)),none⟩
abbrev Af(a b:Nat):SOp:=.op ⟨some a,(.len false (.tmp b)),none⟩
abbrev Ag(a b c:Nat):SOp:=.op ⟨some a,(.call b [(.tmp c)]),none⟩
abbrev Ah(a b c:Nat):SOp:=.op ⟨some a,(.mv (.tmp c)),some (b,false)⟩
abbrev Ai(a b c:Nat):SOp:=.op ⟨none,(.store a (.tmp b) (.tmp c)),none⟩
abbrev Aj(a b:Nat)(c:Int):SOp:=.op ⟨some a,(.bin .add (.tmp b) (.av (.int .i64 c))),none⟩
abbrev Ak(a b c d:Nat):SOp:=.op ⟨some a,(.iaddr b (.tmp c) (.tmp d)),none⟩
abbrev Al(a:Nat):SOp:=.op ⟨some a,(.mv (.av (.bool false))),none⟩
abbrev Am(a b:Nat):SOp:=.op ⟨some a,(.extract (.tmp b) 0),none⟩
abbrev An(a b:Nat):SOp:=.op ⟨some a,(.extract (.tmp b) 1),none⟩
abbrev Ao(a b c:Nat):SOp:=.op ⟨some a,(.mv (.tmp c)),some (b,true)⟩
abbrev Ap(a b c:Nat):SOp:=.op ⟨some a,(.bin .lss (.tmp b) (.tmp c)),none⟩
abbrev Aq(a:Nat):SOp:=.op ⟨some a,(.mv (.av (.sl [] 0 (some 0)))),none⟩
abbrev Ar(a b:Nat):aj×Kd:=(⟨some a,(.mv (.tmp b)),none⟩,.pure)
abbrev As(a:Nat):SOp:=.op ⟨some a,(.mv (.av (.str []))),none⟩
abbrev Au(a b c:Nat):aj×Kd:=(⟨some a,(.faddr b (.tmp c)),none⟩,.pure)
abbrev Aw(a b c d e:Nat):aj×Kd:=(⟨some a,(.load false b (.tmp c)),none⟩,(.read d e))
abbrev Ax(a b c d:Nat):SOp:=.op ⟨some a,(.call b [(.tmp c),(.tmp d)]),none⟩
abbrev Ay(a b c:Nat):SOp:=.op ⟨some a,(.load true b (.tmp c)),none⟩
abbrev Az(a b:Nat)(c:Int):SOp:=.op ⟨some a,(.bin .neq (.tmp b) (.av (.int .i64 c))),none⟩
abbrev A0(a b:Nat)(c:Int):SOp:=.op ⟨some a,(.bin .eql (.tmp b) (.av (.int .i64 c))),none⟩
abbrev A1(a b:Nat):SOp:=.op ⟨some a,(.box (.tmp b)),none⟩
abbrev A3(a b c d:Nat):aj×Kd:=(⟨some a,(.nilchk (.tmp b)),none⟩,(.read c d))
abbrev A4(a b c d:Nat):SOp:=.op ⟨some a,(.load false c (.tmp d)),some (b,false)⟩
abbrev A5(a b:Nat):SOp:=.op ⟨some a,(.len true (.tmp b)),none⟩
abbrev A6(a b:Nat):SOp:=.op ⟨some a,(.un .not (.tmp b)),none⟩
abbrev A7(a b c d:Nat):SOp:=.op ⟨some a,(.faddr c (.tmp d)),some (b,false)⟩
abbrev A8(a b:Nat)(c:Int):SOp:=.op ⟨some a,(.bin .gtr (.tmp b) (.av (.int .i64 c))),none⟩
abbrev A9(a b c:Nat):SOp:=.op ⟨some a,(.bin .add (.tmp b) (.tmp c)),none⟩
abbrev AA(a:Nat):SOp:=.op ⟨some a,(.mv (.av (.bool true))),none⟩
abbrev AB(a b:Nat):SOp:=.op ⟨some a,(.eqk false .ptr (.tmp b) (.av .nilptr)),none⟩
abbrev AC(a b:Nat):SOp:=.op ⟨some a,(.conv .u64 (.tmp b)),none⟩
abbrev AD(a b c:Nat)(d:Int):SOp:=.op ⟨some a,(.bin .gtr (.tmp c) (.av (.int .i64 d))),some (b,false)⟩
abbrev AE(a b c:Nat)(d:Int):SOp:=.op ⟨some a,(.call b [(.tmp c),(.av (.int .i64 d))]),none⟩
abbrev AF(a:Nat):SOp:=.op ⟨some a,(.alloc [(.int .i64 0),(.str []),(.sl [] 0 (some 0))]),none⟩
abbrev AH(a b:Nat)(c:Int):SOp:=.op ⟨some a,(.bin .lss (.tmp b) (.av (.int .i64 c))),none⟩
abbrev AI(a b c:Nat):SOp:=.op ⟨some a,(.len false (.tmp c)),some (b,false)⟩
abbrev AJ(a:Nat):SOp:=.op ⟨some a,(.mv (.av .nilptr)),none⟩
abbrev AK(a b:Nat):SOp:=.op ⟨some a,(.bslice false 1 1 [(.str [])] [(0,(1,(.tmp b)))]),none⟩
abbrev AM(a b:Nat)(c:Int):SOp:=.op ⟨some a,(.bin .sub (.tmp b) (.av (.int .i64 c))),none⟩
abbrev AN(a b c d:Nat):SOp:=.op ⟨some a,(.load false c (.tmp d)),some (b,true)⟩
abbrev AO(a b:Nat):SOp:=.op ⟨some a,(.extract (.tmp b) 2),none⟩
abbrev AP(a b c d e:Nat):aj×Kd:=(⟨some a,(.call b [(.tmp c)]),none⟩,(.read d e))
abbrev AS(a b c d:Nat):SOp:=.op ⟨some a,(.faddr c (.tmp d)),some (b,true)⟩
abbrev AT(a b c:Nat):SOp:=.op ⟨some a,(.bin .neq (.tmp b) (.tmp c)),none⟩
abbrev AU(a b c:Nat)(d:Int):SOp:=.op ⟨some a,(.bin .eql (.tmp c) (.av (.int .i64 d))),some (b,true)⟩
abbrev AX(a b c d e:Nat):SOp:=.op ⟨some a,(.call b [(.tmp c),(.tmp d),(.tmp e)]),none⟩
abbrev AY(a b c:Nat)(d:Int):SOp:=.op ⟨some a,(.bin .eql (.tmp c) (.av (.int .i64 d))),some (b,false)⟩
abbrev AZ(a b c:Nat):SOp:=.op ⟨some a,(.mget .int false .nilptr (.tmp b) (.tmp c)),none⟩
abbrev Ba(a b c d:Nat)(e:Int):SOp:=.op ⟨some a,(.call b [(.tmp c),(.tmp d),(.av (.int .i64 e))]),none⟩
abbrev Bb(a b c:Nat):SOp:=.op ⟨some a,(.bin .eql (.tmp b) (.tmp c)),none⟩
abbrev Bc(a b:Nat)(c:Int):SOp:=.op ⟨some a,(.idxS (.tmp b) (.av (.int .i64 c))),none⟩
abbrev Bd(a b:Nat):SOp:=.op ⟨some a,(.conv .i64 (.tmp b)),none⟩
abbrev Be(a b c:Nat):SOp:=.op ⟨some a,(.app 1 1 16 [(.str [])] (.tmp b) (.tmp c)),none⟩
abbrev Bf(a b:Nat)(c:Int):SOp:=.op ⟨some a,(.bin .geq (.tmp b) (.av (.int .i64 c))),none⟩
abbrev Bg(a b c:Nat):aj×Kd:=(⟨some a,(.bin .add (.tmp b) (.tmp c)),none⟩,.pure)
abbrev Bh(a b:Nat):SOp:=.op ⟨some a,(.b2s (.tmp b)),none⟩
abbrev Bi(a b:Nat):SOp:=.op ⟨some a,(.bslice false 1 1 [(.sl [] 0 (some 0))] [(0,(1,(.tmp b)))]),none⟩
abbrev Bj(a:Nat):SOp:=.op ⟨some a,(.alloc [(.int .i64 0),(.sl [] 0 (some 0)),(.sl [] 0 (some 0)),(.sl [] 0 (some 0))]),none⟩
abbrev Bk(a:Nat):SOp:=.op ⟨some a,(.build [(.int .i64 0),(.sl [] 0 (some 0)),(.sl [] 0 (some 0)),(.sl [] 0 (some 0))] []),none⟩
abbrev Bl(a b c:Nat):SOp:=.op ⟨some a,(.bin .sub (.tmp b) (.tmp c)),none⟩
abbrev Bm(a b c:Nat):SOp:=.op ⟨some a,(.len false (.tmp c)),some (b,true)⟩
abbrev Bn(a b c:Nat):SOp:=.op ⟨some a,(.app 1 1 1 [(.int .u8 0)] (.tmp b) (.tmp c)),none⟩
abbrev Bo(a b c:Nat):SOp:=.op ⟨some a,(.un .not (.tmp c)),some (b,false)⟩
abbrev Bp(a:Nat):SOp:=.op ⟨some a,(.build [(.int .i64 0),(.str []),(.sl [] 0 (some 0))] []),none⟩
abbrev Bq(a b:Nat):SOp:=.op ⟨some a,(.bslice false 3 1 [(.int .i64 0),(.str []),(.sl [] 0 (some 0))] [(0,(3,(.tmp b)))]),none⟩
abbrev Br(a b:Nat):SOp:=.op ⟨some a,(.call b []),none⟩
abbrev Bt(a:Nat)(b:Int)(c:Nat):SOp:=.op ⟨some a,(.minmax true [(.av (.int .i64 b)),(.tmp c)]),none⟩
abbrev Bu(a b c d:Nat):SOp:=.op ⟨some a,(.bin .neq (.tmp c) (.tmp d)),some (b,false)⟩
abbrev Bv(a b c:Nat):SOp:=.op ⟨some a,(.nilchk (.tmp c)),some (b,false)⟩
abbrev Bw(a b c d:Nat):SOp:=.op ⟨some a,(.call c [(.tmp d)]),some (b,false)⟩
abbrev Bx(a b c d e:Nat):SOp:=.op ⟨some a,(.iaddr c (.tmp d) (.tmp e)),some (b,false)⟩
abbrev By(a b c:Nat):SOp:=.op ⟨some a,(.len true (.tmp c)),some (b,false)⟩
abbrev Bz(a b c:Nat):SOp:=.op ⟨some a,(.app 1 3 48 [(.int .i64 0),(.str []),(.sl [] 0 (some 0))] (.tmp b) (.tmp c)),none⟩
abbrev B0(a:Nat):SOp:=.op ⟨some a,(.alloc [(.str []),(.sl [] 0 (some 0))]),none⟩
abbrev B3(a b c:Nat):SOp:=.op ⟨some a,(.app 1 1 24 [(.sl [] 0 (some 0))] (.tmp b) (.tmp c)),none⟩
abbrev B4(a b c:Nat)(d:Int):SOp:=.op ⟨some a,(.iaddr b (.tmp c) (.av (.int .i64 d))),none⟩
abbrev B5(a:Nat):SOp:=.op ⟨some a,(.alloc [(.int .u64 0),(.int .u64 0),(.int .u64 0),(.int .u64 0),(.str [])]),none⟩
abbrev B6(a b c:Nat)(d:Int):SOp:=.op ⟨some a,(.idxS (.tmp c) (.av (.int .i64 d))),some (b,false)⟩
abbrev B7(a b:Nat)(c d:Int):SOp:=.op ⟨some a,(.build [.nilptr,(.int .i64 0),(.int .i64 0)] [(0,(1,(.tmp b))),(1,(1,(.av (.int .i64 c)))),(2,(1,(.av (.int .i64 d))))]),none⟩
abbrev B8(a:Nat)(b:Int)(c:Nat):SOp:=.op ⟨some a,(.bin .add (.av (.int .i64 b)) (.tmp c)),none⟩
abbrev B9(a b c:Nat):SOp:=.op ⟨some a,(.slS (.tmp b) (some (.tmp c)) none),none⟩
abbrev BA(a b c:Nat):SOp:=.op ⟨some a,(.nilchk (.tmp c)),some (b,true)⟩
abbrev BB(a b:Nat):SOp:=.op ⟨some a,(.bslice false 1 1 [(.int .u8 0)] [(0,(1,(.tmp b)))]),none⟩
abbrev BC(a b c:Nat):SOp:=.op ⟨some a,(.bin .eql (.tmp c) (.av (.int .u8 32))),some (b,true)⟩
abbrev BD(a b c:Nat):SOp:=.op ⟨some a,(.idxS (.tmp b) (.tmp c)),none⟩
abbrev BE(a b:Nat):SOp:=.op ⟨some a,(.bin .eql (.tmp b) (.av (.str []))),none⟩
abbrev BF(a b c:Nat)(d:Int):SOp:=.op ⟨some a,(.bin .neq (.tmp c) (.av (.int .i64 d))),some (b,true)⟩
abbrev BG(a b:Nat)(c:Int)(d:Nat):SOp:=.op ⟨some a,(.call b [(.av (.int .i64 c)),(.tmp d)]),none⟩
abbrev BH(a b c:Nat):SOp:=.op ⟨some a,(.callv (.tmp b) [(.tmp c)]),none⟩
abbrev BI(a b c:Nat):SOp:=.op ⟨some a,(.call b [(.tmp c),(.av (.sl [] 0 (some 0)))]),none⟩
abbrev BJ(a b c:Nat)(d:Int):SOp:=.op ⟨some a,(.bin .neq (.tmp c) (.av (.int .i64 d))),some (b,false)⟩
abbrev BK(a:Nat):SOp:=.op ⟨some a,(.alloc [(.str []),(.str [])]),none⟩
abbrev BM(a b:Nat)(c:Int):SOp:=.op ⟨some a,(.slS (.tmp b) (some (.av (.int .i64 c))) none),none⟩
abbrev BN(a:Nat):SOp:=.op ⟨some a,(.build [(.int .u64 0),(.int .u64 0),(.int .u64 0),(.int .u64 0),(.str [])] []),none⟩
abbrev BO(a b c d:Nat):SOp:=.op ⟨some a,(.bin .neq (.tmp c) (.tmp d)),some (b,true)⟩
abbrev BP(a b:Nat)(c:Int):SOp:=.op ⟨some a,(.minmax false [(.tmp b),(.av (.int .i64 c))]),none⟩
abbrev BQ(a b c:Nat)(d:Int):SOp:=.op ⟨some a,(.bin .lss (.tmp c) (.av (.int .i64 d))),some (b,false)⟩
abbrev BR(a b c:Nat)(d:Int):SOp:=.op ⟨some a,(.bin .geq (.tmp c) (.av (.int .i64 d))),some (b,false)⟩
abbrev BS(a b c d:Nat):aj×Kd:=(⟨some a,(.len false (.tmp b)),none⟩,(.read c d))
abbrev BT(a b c:Nat)(d:Int):SOp:=.op ⟨some a,(.bin .sub (.tmp c) (.av (.int .i64 d))),some (b,true)⟩
abbrev BU(a:Nat):SOp:=.op ⟨some a,(.mv (.av (.int .u64 0))),none⟩
abbrev BV(a b:Nat):SOp:=.op ⟨some a,(.bin .eql (.tmp b) (.av (.int .u8 0))),none⟩
abbrev BW(a b c d e:Nat):aj×Kd:=(⟨some a,(.load true b (.tmp c)),none⟩,(.read d e))
abbrev BX(a b c d e:Nat):aj×Kd:=(⟨some a,(.slS (.tmp b) (some (.tmp c)) none),none⟩,(.read d e))
abbrev BY(a b c:Nat):SOp:=.op ⟨some a,(.eqk false .ptr (.tmp c) (.av .nilptr)),some (b,false)⟩
abbrev BZ(a b c:Nat):SOp:=.op ⟨some a,(.app 2 1 16 [(.str [])] (.tmp b) (.tmp c)),none⟩
abbrev Ca(a b:Nat)(c:Int):SOp:=.op ⟨some a,(.slV 1 (.tmp b) (some (.av (.int .i64 c))) none none),none⟩
abbrev Cb(a b c d e:Nat):SOp:=.op ⟨some a,(.call c [(.tmp d),(.tmp e)]),some (b,false)⟩
abbrev LSO:=List SOp
abbrev Cc:List Bool:=[true,false]
abbrev Cd:List Bool:=[true,false,false]
abbrev Ce:List Bool:=[true,false,false,false]
abbrev Cf:List Bool:=[true,false,false,false,false]
abbrev Cg:List Bool:=[true,false,false,false,false,false,false]
abbrev Ch:List Bool:=[true,false,false,false,false,false]
abbrev Ci:List Bool:=[true,true,false]
abbrev Cj:List Bool:=[true,false,false,false,false,false,false,false]
abbrev Ck:List Bool:=[true,true,false,false,false,false,false]
abbrev Cl:List Bool:=[true,false,false,false,false,false,false,false,false,false]
abbrev Cm:List Bool:=[true,true,false,false,false]
abbrev Co:List Bool:=[true,true,true,false]
abbrev Cp:List Bool:=[false,false,false,false]
abbrev Cq:List Bool:=[true,true,false,false,false,false,false,false]
abbrev Cr:List Bool:=[true,true,true,false,false,false,false,false,false]
abbrev Cs:List Bool:=[true,true,false,false]
abbrev Ct:List Bool:=[false,false,false]
abbrev Cu:List Bool:=[true,false,false,false,false,false,false,false,false,false,false]
abbrev Cv:List Bool:=[true,true,false,false,false,false,false,false,false]
abbrev Cw:List Bool:=[false,false]
abbrev Cx:List Bool:=[true,true,false,false,false,false]
abbrev Cy:List Bool:=[false,false,false,false,false]
abbrev Cz:List Bool:=[true,true,false,false,false,false,false,false,false,false]
abbrev C0:List Bool:=[false,false,false,false,false,false,false,false]
abbrev C1:List Bool:=[false,false,false,false,false,false,false]
abbrev C2:List Bool:=[true,true,false,false,false,false,false,false,false,false,false]
abbrev C3:List Bool:=[false,false,false,false,false,false]
abbrev C4:List Bool:=[true,false,false,false,false,false,false,false,false]
abbrev C5:List Bool:=[false,true,false,false,false,false,false]
abbrev C6:List Bool:=[true,true,true,false,false,false,false,false]
abbrev C7:List Bool:=[true,true,true,false,false]
abbrev C8:List Bool:=[true,false,false,false,false,false,false,false,false,false,false,false,false,false,false,false,false]
abbrev C9:List Bool:=[true,true,true,false,false,false,false]
abbrev CA:List Bool:=[true,true,false,false,false,false,false,false,false,false,false,false]
abbrev CB:List Bool:=[true,false,false,false,false,false,false,false,false,false,false,false,false]
abbrev CC:List Bool:=[false,false,false,false,false,false,false,false,false,false,false,false,false,false]
abbrev CD:List Bool:=[true,true,true,false,false,false,false,false,false,false,false]
abbrev CE:List Bool:=[true,false,false,false,false,false,false,false,false,false,false,false,false,false,false]
abbrev CF:List Bool:=[true,false,false,false,false,false,false,false,false,false,false,false]
abbrev CG:List Bool:=[false,false,false,false,false,false,false,false,false,false,false,false,false,false,false,false,false,false,false]
abbrev CH:List Bool:=[false,true,false,false,false,false,false,false]
abbrev CI:List Bool:=[false,false,false,false,false,false,false,false,false,false]
abbrev CJ:List Bool:=[false,false,false,false,false,false,false,false,false,false,false]
abbrev CK:List Bool:=[true,false,false,false,false,false,false,false,false,false,false,false,false,false]
attribute [push_cast] Aa Ab Ac Ad Ae Af Ag Ah Ai Aj Ak Al Am An Ao Ap Aq Ar As Au Aw Ax Ay Az A0 A1 A3 A4 A5 A6 A7 A8 A9 AA AB AC AD AE AF AH AI AJ AK AM AN AO AP AS AT AU AX AY AZ Ba Bb Bc Bd Be Bf Bg Bh Bi Bj Bk Bl Bm Bn Bo Bp Bq Br Bt Bu Bv Bw Bx By Bz B0 B3 B4 B5 B6 B7 B8 B9 BA BB BC BD BE BF BG BH BI BJ BK BM BN BO BP BQ BR BS BT BU BV BW BX BY BZ Ca Cb Cc Cd Ce Cf Cg Ch Ci Cj Ck Cl Cm Co Cp Cq Cr Cs Ct Cu Cv Cw Cx Cy Cz C0 C1 C2 C3 C4 C5 C6 C7 C8 C9 CA CB CC CD CE CF CG CH CI CJ CK
section
variable {P:Program}{w0:World}{S0:SB}{N:Nat}{own:Nat->Nat->Nat}{Q:Exit->Tm->List Blk->Prop}{T:Tm}{L:List Blk}
theorem Rel.none_of{E:Env}{w:World}(h:Rel w0 S0 E L w):∀i,L.length<=i->E.loc i=none/\E.tok i=none:=λi a=>⟨h.fresh i a,h.tkfresh i a⟩
theorem St.cut{E0 E:Env}{a:Act}{w:World}{T':Tm}{L':List Blk}{B:Nat}(f:E0.le E)(n:∀i,B<=i->E0.loc i=none/\E0.tok i=none)(h:St w0 S0 N E T L a w)(d:Cut B T' L' T L):∃E',E0.le E'/\St w0 S0 N E' T' L' a w:=by obtain⟨g,X,rfl,b,k⟩:=d;rcases k with rfl|⟨l,m⟩;exact⟨E,f,by simpa using h.1,h.2.1.sub g,h.2.2⟩;refine⟨E.res L'.length id,YH f n b id (λ_ _=>rfl),h.1.cut m,λt v j=>?_,h.2.2⟩;have:=(h.2.1.sub g) t v j;refine VR.cut (E:=E) (E':=E.res L'.length id) (p:=λi=>decide (i<L'.length)) (λ_ _ _ x=>x) (λi c e d=>?_) (λi c e d=>?_) v _ (l _ (LC j)) this;rw[Env.res_loc (by simpa using e)];exact d;rw[Env.res_tok (by simpa using e)];exact d
def Nxt(B n:Nat)(I:Nat->Tm->List Blk->Prop)(T1:Tm)(L1:List Blk):Prop:=∃m T2 L2,m<n/\Cut B T2 L2 T1 L1/\I m T2 L2
def Mid(B:Nat)(R:Tm->List Blk->Prop)(T1:Tm)(L1:List Blk):Prop:=∃T2 L2,Cut B T2 L2 T1 L1/\R T2 L2
theorem au{B n:Nat}{I:Nat->Tm->List Blk->Prop}{T1:Tm}{L1:List Blk}(m:Nat)(a:Tm)(L2:List Blk)(c:m<n)(d:Cut B a L2 T1 L1)(b:I m a L2):Nxt B n I T1 L1:=⟨m,a,L2,c,d,b⟩
theorem ahg{B:Nat}{T' T:Tm}{L:List Blk}(a:QS T' T:=by repeat' first|exact GA|refine j6 rfl rfl ?_|refine zf rfl rfl ?_|refine j6 rfl (congrArg (AV.int _) ahd) ?_|refine j6 rfl (by first|(simp_all;done)|(simp_all;omega)|(simp_all;intros;omega)) ?_)(b:B<=L.length:=by simp):Cut B T' L T L:=GF a b
theorem ahh{B:Nat}{T' T:Tm}{L:List Blk}(a:QS T' T:=by repeat' first|exact GA|refine j6 rfl rfl ?_|refine zf rfl rfl ?_)(b:B<=L.length:=by simp):Cut B T' L T L:=GF a b
theorem ahi{B n:Nat}{I:Nat->Tm->List Blk->Prop}{T1:Tm}{L1:List Blk}{m:Nat}{a:Tm}{L2:List Blk}(c:m<n)(d:Cut B a L2 T1 L1)(b:I m a L2):Nxt B n I T1 L1:=⟨m,a,L2,c,d,b⟩
theorem zh{B:Nat}{R:Tm->List Blk->Prop}{T1:Tm}{L1:List Blk}(a:Tm)(L2:List Blk)(b:Cut B a L2 T1 L1)(c:R a L2):Mid B R T1 L1:=⟨a,L2,b,c⟩
theorem ao{x:aS}(I:Nat->Tm->List Blk->Prop){n0:Nat}{T0:Tm}{L0:List Blk}(s:Cut L.length T0 L0 T L)(V:I n0 T0 L0)(round:∀n T' L',I n T' L'->AW P N own x (Uf (Nxt L.length n I) Q) T' L'):AW P N own (.loop x) Q T L:=λc hc r hr w0 S0 E a w g=>by
 classical
 obtain⟨Y,rfl,p⟩:=Zg hc;have B:=g.1.none_of
 let J:Act->World->Nat->Prop:=λa w n=>∃j l E' T' L',Bs w0 S0 j l/\E.le E'/\I n T' L'/\St j l N E' T' L' a w
 have d:∀a w,∃m,(∃n,J a w n)->J a w m/\∀k,J a w k->m<=k:=λa w=>by by_cases h:∃n,J a w n;obtain⟨n,hn⟩:=h;obtain⟨m,p,X⟩:=R7 (J a w) n hn;exact⟨m,λ_=>⟨p,X⟩⟩;simp[*]
 let μ:Act->World->Nat:=λa w=>Classical.choose (d a w)
 have z:∀a w,(∃n,J a w n)->J a w (μ a w)/\∀k,J a w k->μ a w<=k:=λa w=>Classical.choose_spec (d a w)
 obtain⟨M,U,W⟩:=g.cut (.refl E) B s;refine wpIn_loop (λa w=>∃n,J a w n) μ ⟨n0,w0,S0,M,_,_,.refl _ _,U,V,W⟩ λa w Z=>?_
 obtain⟨⟨j,l,E',T',L',b,g1,g2,g3⟩,_⟩:=z a w Z;refine wpIn_mono (round _ T' L' g2 Y p r (λe=>hr (by simp[aS.hasRF,e])) j l E' a w g3) λe v w' ⟨D,F,t,q,o,C,u,y,A⟩=>?_
 cases e;obtain⟨m,O,L2,G,i,R⟩:=y;obtain⟨S,H,K⟩:=A.cut (g1.trans u) B i;have f:J v w' m:=⟨D,F,S,O,L2,b.trans C,H,R,K⟩;exact⟨⟨m,f⟩,Nat.lt_of_le_of_lt ((z v w' ⟨m,f⟩).2 m f) G⟩
 all_goals exact⟨D,F,t,q,o,b.trans C,g1.trans u,y,A⟩
theorem O0{x y:aS}(R:Tm->List Blk->Prop)(h:AW P N own x (Uf (Mid L.length R) Q) T L)(J:∀i L2,R i L2->L.length<=L2.length->AW P N own y Q i L2):AW P N own (.seq x y) Q T L:=λc K r hr w0 S0 E a w d=>by
 obtain⟨F,B,rfl,p,C⟩:=Wd K;refine wpIn_seq (wpIn_mono (h F p r (λe=>hr (by simp[aS.hasRF,e])) w0 S0 E a w d) λe v w' ⟨k,m,E',T',L',b,g1,l,g3⟩=>?_);cases e;obtain⟨i,L2,g,j⟩:=l;obtain⟨z,o,t⟩:=g3.cut g1 d.1.none_of g;obtain⟨_,X,_,f,_⟩:=g;exact wpIn_mono (J i L2 j f B C r (λe=>hr (by simp[aS.hasRF,e])) k m z v w' t) λe H n ⟨u,s,A,q,I,G,g,j,D⟩=>⟨u,s,A,q,I,b.trans G,o.trans g,j,D⟩
 all_goals exact⟨k,m,E',T',L',b,g1,l,g3⟩
theorem TR.cons{E:Env}{a:Act}{t:Nat}{v:AV}(r:TR E T a)(c:VR E v (a.tmps.getD t undef)):TR E ((t,v)::T) a:=λt' b h=>by simp only[ar]at h;split at h;simp_all;exact r t' b h
theorem cB{lc:aS}(t sz:Nat){l:List AV}{n:Nat}(k:ar T t=some (.sl l n (some n)))(x:l.length=n*sz)(h:AW P N own lc Q ((t,.gsl l n L.length sz)::T) (L++[.spare n sz])):AW P N own lc Q T L:=λc z r hr w0 S0 E a w d=>by
 obtain⟨f,C⟩:=d.1.addtok (n:=n) (sz:=sz) (lc:=none) MI;have o:=d.2.1 t _ k;have s:=d.2.1.mono f;refine wpIn_mono (h c z r hr w0 S0 _ a w ⟨C,s.cons ?_,d.2.2⟩) λe D w' ⟨i,B,E',T1,L1,b,q,u,y⟩=>⟨i,B,E',T1,L1,b,f.trans q,u,y⟩
 have g:=VR.mono f _ _ o;obtain⟨p,c',j,m,A,v⟩:=g;exact⟨p,c',j,m,x,v,⟨n,sz,none⟩,ahe,aek _,λ_=>⟨rfl,λ_=>A n rfl,ahe⟩⟩
theorem ir{x:Opd}{y z:aS}{p:Prop}[Decidable p](a:evX T x=some (.bool (decide p)))(b:p->AW P N own y Q T L)(c:¬p->AW P N own z Q T L):AW P N own (.cond x y z) Q T L :=
 eQ a (λe=>b (of_decide_eq_true e)) (λe=>c (of_decide_eq_false e))
theorem iq{x:Opd}{y z:aS}{p:Prop}[Decidable p](a:evX T x=some (.bool (!decide p)))(b:¬p->AW P N own y Q T L)(c:p->AW P N own z Q T L):AW P N own (.cond x y z) Q T L :=
 eQ a (λe=>b (of_decide_eq_false (by simpa using e))) (λe=>c (of_decide_eq_true (by simpa using e)))
end
section
variable {P:Program}{K:Tm->Prop}{L L1:List Blk}{Ls:List (List Blk)}{p:AV}{d:Option Nat}{op:LOp}{rest:List aj}{T:Tm}{t:Nat}{b:Bool}{al:Option Nat}{n:Nat}
def aab(L:List Blk)(k:AV->Prop):Option (Prop×AV×List Blk)->Prop
 |some (c,av,L')=>c/\L'=L/\k av
 |none=>False
theorem XX{k:AV->Prop}{c:Prop}{av:AV}{L':List Blk}:aab L k (some (c,av,L'))=(c/\L'=L/\k av):=rfl
def Vu(L L1:List Blk)(k:AV->Prop):Option (Prop×AV×List Blk)->Option (Prop×AV×List Blk)->Prop
 |some (c,av,L'),some (c2,av2,L2)=>c/\L'=L/\c2/\av2=av/\L2=L1/\k av
 |_,_=>False
theorem XW{k:AV->Prop}{c b:Prop}{av a:AV}{L' L2:List Blk}:Vu L L1 k (some (c,av,L')) (some (b,a,L2))=(c/\L'=L/\b/\a=av/\L2=L1/\k av):=rfl
def ado(P:Program)(f:FuncId)(L:List Blk)(k:AV->Prop):Option (List AV)->Prop
 |some args=>∃v,ae P f args L (λav L'=>av=v/\L'=L)/\k v
 |none=>False
def abT(P:Program)(f:FuncId)(L L1:List Blk)(k:AV->Prop):Option (List AV)->Prop
 |some args=>∃v,ae P f args L (λav L'=>av=v/\L'=L)/\ae P f args L1 (λav L'=>av=v/\L'=L1)/\k v
 |none=>False
def Uj(b:Bool)(y n:Prop):Option AV->Prop
 |some (.bool x)=>if x=b then y else n
 |some (.tup [])=>n
 |_=>False
theorem X0{b x:Bool}{y n:Prop}:Uj b y n (some (.bool x))=if x=b then y else n:=rfl
theorem aag{b:Bool}{y n:Prop}:Uj b y n (some (.tup []))=n:=rfl
def aci(P:Program)(f:FuncId)(args:List AV)(L L1:List Blk)(k:AV->Prop):Prop:=∃v,ae P f args L (λav L'=>av=v/\L'=L)/\ae P f args L1 (λav L'=>av=v/\L'=L1)/\k v
theorem dv{f:FuncId}{args:List AV}{k:AV->Prop}{v:AV}(h:ae P f args L (λav L'=>av=v/\L'=L))(b:ae P f args L1 (λav L'=>av=v/\L'=L1))(a:k v):aci P f args L L1 k:=⟨v,h,b,a⟩
theorem adn{f:FuncId}{k:AV->Prop}{args:List AV}:ado P f L k (some args)=aak P f args L k:=rfl
theorem adm{f:FuncId}{k:AV->Prop}{args:List AV}:abT P f L L1 k (some args)=aci P f args L L1 k:=rfl
theorem aan{o:aj}{v:AV}(h:o.op.isCall=false):AQv P o T L v=(match ak T L o.op with|some (c,av,L')=>c/\av=v/\L'=L|none=>False):=by obtain⟨d,op,g⟩:=o;cases op<;>simp only[LOp.isCall,afS]at h<;>rfl
def QT(P:Program)(L:List Blk)(k:AV->Prop)(T:Tm)(op:LOp):Prop :=
 match op with
 |.call f xs=>ado P f L k (iz T xs)
 |.callv f xs=>∃v,AQv P ⟨none,.callv f xs,none⟩ T L v/\k v
 |lo=>aab L k (ak T L lo)
def Z8(P:Program)(L L1:List Blk)(k:AV->Prop)(T:Tm)(op:LOp):Prop :=
 match op with
 |.call f xs=>abT P f L L1 k (iz T xs)
 |.callv f xs=>∃v,(AQv P ⟨none,.callv f xs,none⟩ T L v/\AQv P ⟨none,.callv f xs,none⟩ T L1 v)/\k v
 |lo=>Vu L L1 k (ak T L lo) (ak T L1 lo)
def AGK(P:Program)(K:Tm->List Blk->Prop)(Ls:List (List Blk))(H:List nC)(rest:List (aj×Kd))(d:Option Nat)(T:Tm)(av:AV):Prop:=AG P K rest Ls H (bz d av T)
def AGR(P:Program)(K:Tm->List Blk->Prop)(Ls:List (List Blk))(H:List nC)(rest:List (aj×Kd))(f:Nat)(o:aj)(T:Tm)(av:AV):Prop:=AG P K rest Ls (UW f o T av H) (bz o.dst av T)
def AGE(P:Program)(K:Tm->List Blk->Prop)(Ls:List (List Blk))(H:List nC)(rest:List (aj×Kd))(d:Option Nat)(T:Tm)(av:AV)(L2:List Blk):Prop:=DQ P L2 H/\AG P K rest (L2::Ls) (Jj H) (bz d av T)
def aaa(k:AV->List Blk->Prop):Option (Prop×AV×List Blk)->Prop
 |some (c,av,L2)=>c/\k av L2
 |none=>False
theorem XV{k:AV->List Blk->Prop}{c:Prop}{av:AV}{L2:List Blk}:aaa k (some (c,av,L2))=(c/\k av L2):=rfl
def IsV(v av:AV):Prop:=av=v
theorem acQ{o:aj}{T:Tm}{v:AV}{H:List nC}:UW 0 o T v H=H:=rfl
theorem acP{f:Nat}{o:aj}{T:Tm}{v:AV}{H:List nC}:UW (f+1) o T v H=(f+1,o,T,v)::H:=rfl
theorem ZK:Jj []=[]:=rfl
theorem ZJ{y:aj×Tm×AV}{H:List nC}:Jj ((1,y)::H)=Jj H:=rfl
theorem acZ{y:aj×Tm×AV}{H:List nC}:Jj ((n+2,y)::H)=(n+1,y)::Jj H:=rfl
theorem GW{k:AV->Prop}:(∃v,AQ P ⟨d,op,none⟩ T L v/\k v)=QT P L k T op:=by
 by_cases h:op.isCall=false;have e:QT P L k T op=aab L k (ak T L op):=by cases op<;>simp only[LOp.isCall,afS]at h<;>rfl
 rw[e];simp only[AQ,aan (o:=⟨d,op,none⟩) h];rcases ak T L op with _|⟨c,av,L'⟩;simp[aab];simp only[aab,eq_iff_iff]
 grind
 cases op<;>simp only[LOp.isCall,not_true_eq_false]at h;rename_i f xs;simp only[AQ,AQv,QT];rcases iz T xs with _|args;simp[ado];rfl;rfl
theorem abX{k:AV->Prop}:(∃v,(AQ P ⟨d,op,none⟩ T L v/\AQ P ⟨d,op,none⟩ T L1 v)/\k v)=Z8 P L L1 k T op:=by
 by_cases h:op.isCall=false;have e:Z8 P L L1 k T op=Vu L L1 k (ak T L op) (ak T L1 op):=by cases op<;>simp only[LOp.isCall,afS]at h<;>rfl
 rw[e];simp only[AQ,aan (o:=⟨d,op,none⟩) h];rcases ak T L op with _|⟨c,av,L'⟩<;>rcases ak T L1 op with _|⟨b,a,L2⟩;simp[Vu];simp[Vu];simp[Vu];simp only[Vu,eq_iff_iff]
 grind
 cases op<;>simp only[LOp.isCall,not_true_eq_false]at h;rename_i f xs;simp only[AQ,AQv,Z8];rcases iz T xs with _|args;simp[abT];simp only[abT,and_assoc];rfl
theorem Vz{k:AV->Prop}{g:aj->AV->Prop}(a:∀v,g ⟨d,op,some (t,b)⟩ v=match ar T t with|some (.bool x)=>if x=b then g ⟨d,op,none⟩ v else v=.tup []|some (.tup [])=>v=.tup []|_=>False):
  (∃v,g ⟨d,op,some (t,b)⟩ v/\k v)=Uj b (∃v,g ⟨d,op,none⟩ v/\k v) (k (.tup [])) (ar T t):=by
 simp only[a];rcases ar T t with _|x;simp[Uj];cases x<;>simp only[Uj,false_and,exists_false]
 grind
 grind
theorem adq{K:Tm->List Blk->Prop}{H:List nC}:AG P K [] (L::Ls) H T=K T L:=rfl
theorem abZ{K:Tm->List Blk->Prop}{H:List nC}{r:List (aj×Kd)}:AG P K ((⟨d,op,none⟩,.pure)::r) (L::Ls) H T=QT P L (AGK P K (L::Ls) H r d T) T op:=GW
theorem aas{K:Tm->List Blk->Prop}{H:List nC}{r:List (aj×Kd)}:AG P K ((⟨d,op,some (t,b)⟩,.pure)::r) (L::Ls) H T=Uj b (QT P L (AGK P K (L::Ls) H r d T) T op) (AGK P K (L::Ls) H r d T (.tup [])) (ar T t):=by rw[<- GW (d:=d)];exact Vz (g:=λo v=>AQ P o T L v) λv=>rfl
theorem aar{K:Tm->List Blk->Prop}{H:List nC}{r:List (aj×Kd)}{f:Nat}:AG P K ((⟨d,op,none⟩,.read 0 f)::r) (L::Ls) H T=QT P L (AGR P K (L::Ls) H r f ⟨d,op,none⟩ T) T op:=by rw[<- GW (d:=d)];simp only[AG,agi,afV,aeG,forall_eq,AGR]
theorem X4{K:Tm->List Blk->Prop}{H:List nC}{r:List (aj×Kd)}{f:Nat}:AG P K ((⟨d,op,some (t,b)⟩,.read 0 f)::r) (L::Ls) H T=Uj b (QT P L (AGR P K (L::Ls) H r f ⟨d,op,some (t,b)⟩ T) T op) (AGR P K (L::Ls) H r f ⟨d,op,some (t,b)⟩ T (.tup [])) (ar T t):=by rw[<- GW (d:=d)];simp only[AG,agi,afV,aeG,forall_eq];exact Vz (g:=λo v=>AQ P o T L v) (k:=AGR P K (L::Ls) H r f ⟨d,op,some (t,b)⟩ T) λv=>rfl
theorem aaq{K:Tm->List Blk->Prop}{H:List nC}{r:List (aj×Kd)}{f:Nat}:AG P K ((⟨d,op,none⟩,.read 1 f)::r) (L::L1::Ls) H T=Z8 P L L1 (AGR P K (L::L1::Ls) H r f ⟨d,op,none⟩ T) T op:=by rw[<- abX (d:=d)];simp only[AG,agi,afV,aeJ,afq,or_false,forall_eq_or_imp,forall_eq,AGR]
def adV(P:Program)(L:List Blk)(k:AV->List Blk->Prop)(T:Tm)(op:LOp):Prop :=
 match op with
 |.call f xs=>∃v L2,EQv P ⟨none,.call f xs,none⟩ T L v L2/\k v L2
 |.callv f xs=>∃v L2,EQv P ⟨none,.callv f xs,none⟩ T L v L2/\k v L2
 |lo=>aaa k (ak T L lo)
theorem adr{K:Tm->List Blk->Prop}{H:List nC}{r:List (aj×Kd)}:AG P K ((⟨d,op,none⟩,.eff)::r) (L::Ls) H T=adV P L (AGE P K (L::Ls) H r d T) T op:=by
 simp only[AG,EQ];have key:∀lo:LOp,lo.isCall=false->(∃v L2,EQv P ⟨d,lo,none⟩ T L v L2/\AGE P K (L::Ls) H r d T v L2)=aaa (AGE P K (L::Ls) H r d T) (ak T L lo):=λlo hlo=>by
  have e:∀v L2,EQv P ⟨d,lo,none⟩ T L v L2=(match ak T L lo with|some (c,av,L')=>c/\av=v/\L'=L2|none=>False):=λv L2=>by cases lo<;>simp only[LOp.isCall,afS]at hlo<;>rfl
  simp only[e];rcases ak T L lo with _|⟨c,av,L'⟩;simp[aaa];simp only[aaa,eq_iff_iff]
  grind
 have key2:(∃v L2,EQv P ⟨d,op,none⟩ T L v L2/\DQ P L2 H/\AG P K r (L2::L::Ls) (Jj H) (bz d v T))=(∃v L2,EQv P ⟨d,op,none⟩ T L v L2/\AGE P K (L::Ls) H r d T v L2):=rfl;cases op
 case call=>rfl
 case callv=>rfl
 all_goals exact key _ rfl
theorem XY:DQ P L []=True:=rfl
theorem Vv{f:Nat}{v:AV}{H:List nC}:DQ P L ((f,⟨d,op,none⟩,T,v)::H)=(QT P L (IsV v) T op/\DQ P L H):=by rw[<- GW (d:=d)];simp[DQ,IsV]
theorem Ue{f:Nat}{v:AV}{H:List nC}:DQ P L ((f,⟨d,op,some (t,b)⟩,T,v)::H)=(Uj b (QT P L (IsV v) T op) (IsV v (.tup [])) (ar T t)/\DQ P L H):=by rw[<- GW (d:=d),<- Vz (g:=λo v=>AQ P o T L v) (k:=IsV v) (d:=d) (op:=op) (t:=t) (b:=b) (T:=T) λv=>rfl];simp[DQ,IsV]
theorem jw{N:Nat}{own:Nat->Nat->Nat}{Q:Exit->Tm->List Blk->Prop}{qk:List (aj×Kd)}{ts:List aj}(h:AG P (l7 P (Q .normal) ts) qk [L] [] T):AW P N own (.dregion qk ts) Q T L:=QB h
end
theorem Xz(xs:List Int):AV.frzL (xs.map (AV.int .i64))=xs.map (AV.int .i64):=by rw[AV.frzL_eq,aeH];rfl
theorem Y0(xs:List Int):(xs.map (AV.int .i64)).all AV.one=true:=by rw[List.all_map];simp[AV.one]
theorem acn:IntKind.i64.wrap 0=0:=by decide
theorem acm:IntKind.i64.wrap 1=1:=by decide
theorem acl:IntKind.i64.wrap 2=2:=by decide
theorem aav:IntKind.i64.wrap (-1)=-1:=by decide
structure Nx(p:Prop):Prop where
 o:p
structure NxI(c p:Prop):Prop where
 o:c->p
theorem nQ{c p:Prop}(h:c->p):NxI c p:=⟨h⟩
theorem DR{p:Prop}(h:p):Nx p:=⟨h⟩
section
variable {P:Program}{L:List Blk}{body:List SOp}{d:Nat}{x:Opd}{k:Tm->Prop}{T:Tm}{c:Prop}[Decidable c]{p q:Bool}
theorem nS(h:NxI (c) (GL P L body (IsX x q) T))(a:Nx (k ((d,.bool (decide c&&q))::T))):GQ P L true body d x k T (decide c):=⟨q,λe=>h.o (of_decide_eq_true e),a.o⟩
theorem jq(h:NxI (¬c) (GL P L body (IsX x q) T))(a:Nx (k ((d,.bool (!decide c&&q))::T))):GQ P L true body d x k T (!decide c):=⟨q,λe=>h.o (by simpa using e),a.o⟩
theorem nT(h:NxI (¬c) (GL P L body (IsX x q) T))(a:Nx (k ((d,.bool (decide c ||q))::T))):GQ P L false body d x k T (decide c):=⟨q,λe=>h.o (of_decide_eq_false e),a.o⟩
theorem jr(h:NxI (c) (GL P L body (IsX x q) T))(a:Nx (k ((d,.bool (!decide c ||q))::T))):GQ P L false body d x k T (!decide c):=⟨q,λe=>h.o (by simpa using e),a.o⟩
theorem nV(h:NxI (p=true) (GL P L body (IsX x q) T))(a:Nx (k ((d,.bool (p&&q))::T))):GQ P L true body d x k T p:=⟨q,h.o,a.o⟩
theorem jt(h:NxI (p=false) (GL P L body (IsX x q) T))(a:Nx (k ((d,.bool (p ||q))::T))):GQ P L false body d x k T p:=⟨q,h.o,a.o⟩
variable {a b:Prop}[Decidable a][Decidable b]
theorem ada:(decide a&&decide b)=decide (a/\b):=(agM a b).symm
theorem ac8:(!decide a&&decide b)=decide (¬a/\b):=by simp[agM]
theorem ac9:(decide a && !decide b)=decide (a/\¬b):=by simp[agM]
theorem ac7:(!decide a && !decide b)=decide (¬a/\¬b):=by simp[agM]
theorem adB:(decide a ||decide b)=decide (a\/b):=(agN a b).symm
theorem adz:(!decide a ||decide b)=decide (¬a\/b):=by simp[agN]
theorem adA:(decide a || !decide b)=decide (a\/¬b):=by simp[agN]
theorem ady:(!decide a || !decide b)=decide (¬a\/¬b):=by simp[agN]
end
attribute [push_cast] abP evD deg aeC adj ad0 adk abR adZ adY adU adf adT ade adg VP ab8 ab9 aah ad1 Wv adX GOp IsX ada ac8 ac9 ac7 adB adz adA ady ae9 af1 afX agO Bool.true_or Bool.or_true agh Bool.or_false agt agI
attribute [push_cast] acn acm acl aav AGK AGR AGE IsV XV acQ acP ZK ZJ acZ adq abZ aas aar X4 aaq adr adV XY Vv Ue XX XW adn adm X0 aag QT Z8 eq_self Vy RJ aao X3 VA yz Sr Z9 aaj X1 AOp ak evX iz ar bz bin abD abC un eqA row kK AV.cells? bnd Uf Vw am Od RJ elems app Qr cY AV.frz AV.frzL Xz Y0 afO Option.bind_none aeC aeT afB Option.getD_none if_true if_false true_and and_true aeB aeY aez aeu afc ags R5 yP aaU aaT abN ae6 ae5 aeL afC afE Nat.mul_one Nat.one_mul aeW Nat.mul_zero List.getD_cons_zero List.getD_cons_succ agt agI decide_true decide_false forall_const not_true_eq_false not_false_eq_true ne_eq aeE afS agw agx agi afV bP List.set_cons_zero List.set_cons_succ afl af4 AV.one Bool.and_self af1 ae9 false_implies implies_true decide_eq_true_eq decide_eq_false_iff_not agj Int.toNat_zero Int.toNat_natCast aeU Bool.not_not Bool.not_eq_false
theorem Rel.frzB{w0:World}{S0:SB}{E:Env}{L:List Blk}{w:World}(h:Rel w0 S0 E L w){i:Nat}{c:List AV}(z:L[i]?=some (.cells c)):Rel w0 S0 E (L.set i (.cells (AV.frzL c))) w:=by
 have l:i<L.length:=(aei.1 z).1;have m:∀(j:Nat) (k:Blk),(L.set i (.cells (AV.frzL c)))[j]?=some k->k.live=true->∃k',L[j]?=some k'/\k'.live=true:=λj k f r=>by rw[aeV]at f;split at f;rename_i e;subst e;exact⟨_,z,rfl⟩;exact⟨k,f,r⟩
 have g:∀(j n sz:Nat),(L.set i (.cells (AV.frzL c)))[j]?=some (.spare n sz)->L[j]?=some (.spare n sz):=λj n sz f=>by rw[aeV]at f;split at f;cases f;exact f
 refine⟨h.mem,λj k f=>?_,λi l=>h.fresh i (by simpa using l),λi k c f r O=>?_,λi j k k' c c' l K y H=>?_,
  λi l=>h.tkfresh i (by simpa using l),λi n sz t d l=>h.tkown i n sz t d (g i n sz l),λi n sz t d j k' c' l x hd y r=>?_,
  λi n sz t d A B q t' D l x hd u=>h.tkinj i n sz t d A B q t' D (g i n sz l) x hd (g A B q u),h.frame,h.size,h.os,h.tape,h.output,h.glob,h.gsz⟩
 rw[aeV]at f;split at f;rename_i e;subst e;cases f;obtain⟨cl,cs,ty,fr,g1,N,g3,g4,G,F⟩:=h.blk _ _ z;refine⟨cl,cs,ty,fr,g1,N,g3,by rw[AV.frzL_eq];simpa using g4,λj a C=>?_,F⟩;rw[AV.frzL_eq,ae8,aeK]at C;obtain⟨b,J,rfl⟩:=C;obtain⟨v,o,p⟩:=G j b J;exact⟨v,o,VR.frz _ _ p⟩;exact h.blk j k f;obtain⟨k',o,p⟩:=m i k f r;exact h.own i k' c o p O;obtain⟨s,o,p⟩:=m i k l K;obtain⟨I,M,h4⟩:=m j k' y H;exact h.inj i j s I c c' o p M h4;obtain⟨s,o,p⟩:=m j k' y r;exact h.tkloc i n sz t d j s c' (g i n sz l) x hd o p
theorem abW{P:Program}{N:Nat}{own:Nat->Nat->Nat}{Q:Exit->Tm->List Blk->Prop}{T:Tm}{L:List Blk}{lc:aS}(i:Nat){c:List AV}(f:L[i]?=some (.cells c))(h:AW P N own lc Q T (L.set i (.cells (AV.frzL c)))):AW P N own lc Q T L:=λe d r hr w0 S0 E a w b =>
 h e d r hr w0 S0 E a w ⟨b.1.frzB f,b.2⟩
theorem dT{P:Program}{f:FuncId}{args:List AV}{L:List Blk}{K:AV->List Blk->Prop}(h:ae P f (AV.frzL args) L K):ae P f args L K:=λw0 S0 E w vs a b =>
 h w0 S0 E w vs a (VRL.frz _ _ b)
end Go.Proofs.YtajkbcmleihaoaaGreatDoor.Av
