/- Joined texts of the walk, made small by a program. -/
import Derived.Test.YtdnfjhflkkpokaaGreatDoorKk3
import Derived.Scope
import Derived.Test.YtdnfjhflkkpokaaGreatDoorProg
set_option linter.unusedSimpArgs false
set_option linter.unusedVariables false
namespace Go.Proofs.YtdnfjhflkkpokaaGreatDoor.Av
open Go
variable {T':Tm}{L2 L':List Blk}{v:AV}{α:Type}{B:Nat}
def EQv(P:Program)(o:aw)(T:Tm)(L:List Blk)(v:AV)(L2:List Blk):Prop :=
 match o.op with
 | .call f xs=>match gR T xs with
   |some args=>af P f args L λav L'=>av=v/\L'=L2
   |none=>False
 | .callv f xs=>match evX T f,gR T xs with
   |some (.func g caps),some args=>af P g (args++caps) L λav L'=>av=v/\L'=L2
   |_,_=>False
 | lo=>match au T L lo with
   |some (c,av,L')=>c/\av=v/\L'=L2
   |none=>False
def EQ(P:Program)(o:aw)(T:Tm)(L:List Blk)(v:AV)(L2:List Blk):Prop :=
 match o.guard with
 |none=>EQv P o T L v L2
 | some (t,b)=>match ay T t with
   |some (.bool x)=>if x=b then EQv P o T L v L2 else v=.tup []/\L2=L
   |some (.tup [])=>v=.tup []/\L2=L
   |_=>False
theorem EQv.congr{P:Program}{o:aw}{T:Tm}{L:List Blk}(h1:∀t∈o.op.tmps,ay T t=ay T' t)(hv:EQv P o T L v L2):EQv P o T' L v L2:=by unfold EQv at hv⊢;split at hv;rename_i f xs e;rw[e]at h1;rw[<- iB (l:=xs) h1];exact hv;rename_i f xs e;rw[e]at h1;simp only[LOp.tmps,ajx]at h1;rw[<- iB (l:=xs) (λt ht=>h1 t (.inr ht)),<- aD (x:=f) (λt ht=>h1 t (.inl ht))];exact hv;rw[<- Q9 h1];exact hv
theorem EQ.congr{P:Program}{o:aw}{T:Tm}{L:List Blk}(h:∀t∈o.reads,ay T t=ay T' t)(hq:EQ P o T L v L2):EQ P o T' L v L2:=by
 have h1:∀t∈o.op.tmps,ay T t=ay T' t:=λt ht=>h t (by simp[aw.reads,ht])
 unfold EQ at hq⊢;split at hq;exact hq.congr h1;rename_i t b hg;rw[<- h t (by simp[aw.reads,hg])];split at hq;split at hq;rename_i e;rw[if_pos e];exact hq.congr h1;simp[*];omega;omega
theorem EQv.aop{P:Program}{o:aw}{T:Tm}{L:List Blk}(hq:EQv P o T L v L2):AOp P o (λT' L'=>T'=cB o.dst v T/\L'=L2) T L:=by
 unfold EQv at hq;unfold AOp;split at hq;rename_i f xs e;simp only[e];split at hq;rename_i args ha;rw[ha];exact af.mono hq λav L' ⟨h1,h2⟩=>⟨by rw[h1],h2⟩
 simp_all;rename_i f xs e;simp only[e];split at hq;rename_i g caps args hf ha;rw[hf,ha];exact af.mono hq λav L' ⟨h1,h2⟩=>⟨by rw[h1],h2⟩
 simp_all;rename_i lo h1 h2;split at hq;rename_i c av L' he;have hres:Res (λT' L'=>T'=cB o.dst v T/\L'=L2) o.dst T (au T L o.op):=by rw[he];obtain⟨hc,rfl,rfl⟩:=hq;exact⟨hc,rfl,rfl⟩
 simp_all;simp_all
theorem EQ.aops{P:Program}{o:aw}{T:Tm}{L:List Blk}(hq:EQ P o T L v L2):ku P (λT' L'=>T'=cB o.dst v T/\L'=L2) [o] T L:=by unfold EQ at hq;simp only[ku];split at hq;rename_i hg;simp only[hg];exact hq.aop;rename_i t b hg;simp only[hg];split at hq;rename_i x hx;rw[hx,xL];split at hq;rename_i e;rw[if_pos e];exact hq.aop;simp[*];rename_i hx;rw[hx,X7];exact⟨by rw[hq.1],hq.2.symm⟩;simp_all
def done(es:List Nat)(listed:Array Bool):Nat:=es.countP λe=>listed.getD e false
theorem S9:∀(es:List Nat) (f:Nat->Bool) (m:Nat),(∀(j e:Nat),es[j]?=some e->f e=decide (j<m))->m<=es.length->es.countP f=m
 |[],f,m,_,hm=>by simp at hm;simp[hm]
 | e::es,f,0,h,_=>by
   refine amz.2 λx hx=>?_
   obtain⟨j,hj,rfl⟩:=akk.1 hx;have:=h j _ (ajF hj);simp[*]
 |e::es,f,m+1,h,hm=>by rw[List.countP_cons_of_pos (by have:=h 0 e rfl;simpa using this)];rw[S9 es f m (λj x hx=>by have:=h (j+1) x (by simpa using hx);rw[this];congr 1;simp) (by simpa using hm)]
theorem SU:∀(es:List Nat) (f:Nat->Bool),(∀(j j' e e':Nat),es[j]?=some e->es[j']?=some e'->j<j'->f e'=true->f e=true)->∀(j e:Nat),es[j]?=some e->f e=decide (j<es.countP f)
 |[],f,_,j,e,h=>by simp at h
 | x::es,f,hp,j,e,h=>by
   have ih:=SU es f λa b y z h1 h2 h3=>hp (a+1) (b+1) y z (by simpa using h1) (by simpa using h2) amM
   by_cases hx:f x=true
   .grind
   .have all:∀y∈es,f y=false:=λy hy=>by
     obtain⟨k,hk,rfl⟩:=akk.1 hy;rcases hf:f es[k]with _|_
     .rfl
     .exact absurd (hp 0 (k+1) x es[k] rfl amN amM hf) hx
    rw[List.countP_cons_of_neg hx,amz.2 (λy hy=>by simp[all y hy])]
    grind
section
variable {P:Program}{r:Option Nat}{w0:World}{S0:SB}{N:Nat}{own:Nat->Nat}{ops:Array Oper}{L:List Blk}
theorem aaI{los:List aw}{n:Nat}(hlow:b7 P N own ops (List.range ops.size)=some los)(hok:Jx ops los n=true){qs ts:List aw}(hsplit:los=qs++ts)(hn:qs.length=n){es:List Nat}{Ms:Nat->List Blk}(hes:∀e∈es,e<qs.length)(hch:∀(j j' e e':Nat),es[j]?=some e->es[j']?=some e'->j<j'->((ml ops.toList []).getD e' 0).testBit e=true){K:Tm->List Blk->Prop}{T:Tm}{Q:Exit->Act->World->Prop}{E0:Env}{tr:List AV}(htr:tr.length=qs.length)(hq:∀(i:Nat) (o:aw) (v:AV),qs[i]?=some o->tr[i]?=some v->(∃m,es[m]?=some i/\EQ P o (TL T qs tr 0 λj=>decide (j<i)) (Ms m) v (Ms (m+1))) \/
   (i∉es/\∀m,m<=es.length->(∀(j e:Nat),es[j]?=some e->j<m->((ml ops.toList []).getD e 0).testBit i=false)->(∀(j e:Nat),es[j]?=some e->m<=j->((ml ops.toList []).getD i 0).testBit e=false)->AQ P o (TL T qs tr 0 λj=>decide (j<i)) (Ms m) v))(hK:ku P K ts (TL T qs tr 0 λ_=>true) (Ms es.length))(hQ:∀E' T' L' a' w',E0.le E'->K T' L'->St w0 S0 N E' T' L' a' w'->Q .normal a' w'):
  ∀(fuel:Nat) (listed:Array Bool) (a:Act) (w:World) (E:Env),listed.size=ops.size->listed.toList.count false=fuel->R5 ops listed->E0.le E ->
   (∀i,qs.length<=i->listed.getD i false=false)->St w0 S0 N E (TL T qs tr 0 λj=>listed.getD j false) (Ms (done es listed)) a w->wpAnyIn (fM r) 0 P .any ops Q fuel listed a w:=by
 simp only[Jx,ajv]at hok;generalize htbl:ml ops.toList []=tbl at hok hch hq;obtain⟨⟨⟨⟨hdist,htied⟩,hahead⟩,hfix⟩,hchain⟩:=hok;have hget:=xW hlow;have hlen:los.length=ops.size:=by simpa using hget.1
 have hlo:∀i,i<ops.size->∃lo,los[i]?=some lo/\kD P N own ops i=some lo:=λi hi=>hget.2 i i (by simp[hi])
 have hD:ZC qs:=by
  have:=Vm hdist;rw[hsplit]at this;have sub:∀(qs ts:List aw),ZC (qs++ts)->ZC qs:=by
   intro qs;induction qs with
   |nil=>intro _ _;trivial
   |cons q qs ih=>intro ts h;exact⟨λp hp=>h.1 p (by simp[hp]),ih ts h.2⟩
  grind
 have hqlen:qs.length+ts.length=ops.size:=by rw[<- hlen,hsplit];simp
 have allListed:∀listed:Array Bool,listed.size=ops.size->Region.ready .any ops listed=[]->∀i,i<ops.size->listed.getD i false=true:=by
  intro listed hsz hr i;induction i using Nat.strongRecOn with
  | _ i ih =>
    intro hi;rcases hb:listed.getD i false with _|_
    .exfalso;have:i∈Region.ready .any ops listed:=by
      refine mem_ready.2 ⟨?_,ops[i],akq hi,λe he hbd=>?_⟩
      .have hi':i<listed.size:=amM;simp[akZ,hi']at hb⊢;exact hb
      .have:=ajE.1 hahead (ops[i],i) (by rw[alN];simp[hi])
       have:=ajE.1 this e (by simpa using he);simp only[hbd,alc,akE,decide_eq_true_eq]at this;exact ih e.on this amM
     rw[hr]at this;cases this
    .rfl
 have getD_eq:∀(listed:Array Bool) (i:Nat),listed.size=ops.size->i<ops.size->listed.getD i true=listed.getD i false:=λlisted i h1 h2=>by have:i<listed.size:=amM;simp[akZ,this]
 have finish:∀(listed:Array Bool) (a:Act) (w:World) (E:Env) (fuel:Nat),listed.size=ops.size->listed.toList.count false=fuel->R5 ops listed->E0.le E->(∀i,qs.length<=i->listed.getD i false=false)->St w0 S0 N E (TL T qs tr 0 λj=>listed.getD j false) (Ms (done es listed)) a w ->
   (∀i,i<qs.length->listed.getD i false=true)->wpAnyIn (fM r) 0 P .any ops Q fuel listed a w:=by
  intro listed a w E fuel hsz hcnt hcl hE hnot hst hall;have hTL:TL T qs tr 0 (λj=>listed.getD j false)=TL T qs tr 0 λ_=>true:=X5 λj hj=>by simp only[akw];exact hall j hj
  have hL:Ms (done es listed)=Ms es.length:=by congr 1;exact List.countP_eq_length.2 λe he=>hall e (hes e he)
  rw[hTL,hL]at hst;have hdrop:los.drop qs.length=ts:=(by rw[hsplit];simp);have hfuel:fuel=ts.length:=by
   rw[<- hcnt,<- Nat.add_left_cancel_iff (n:=qs.length),hqlen,<- hsz];have e:listed.toList=List.replicate qs.length true++List.replicate (listed.size-qs.length) false:=by
    apply alv;intro i;rcases ajT i qs.length with h1|h1
    .have:=hall i h1;have hlt:i<listed.size:=amM;rw[ajw (by simpa using h1)];simp[akZ,hlt]at this;simp[hlt,h1,this]
    .rw[ajG (by simpa using h1)];have:=hnot i h1;rcases ajT i listed.size with h2|h2
     .simp[akZ,h2]at this;simp only[List.length_replicate];rw[List.getElem?_replicate];rw[if_pos amM];simp[h2,this]
     .rw[alt (by simpa using h2),alt (by simp;omega)]
   rw[e];simp[List.count_append,List.count_replicate];omega
  rw[hfuel];exact ZO hlow hahead hfix hchain hQ ts qs.length listed _ _ a w E amM hqlen hdrop hsz (λi hi=>by
   rcases ajT i qs.length with h1|h1
   .rw[hall i h1];simpa using h1
   .rw[hnot i h1];simpa using h1) hcl hE hst hK
 intro fuel;induction fuel with
 | zero =>
   intro listed a w E hsz hcnt hcl hE hnot hst;have hr:Region.ready .any ops listed=[]:=by
    refine List.eq_nil_iff_forall_not_mem.2 λi hi=>?_
    obtain⟨h1,o,ho,_⟩:=mem_ready.1 hi;have hi':i<ops.size:=(akf.1 ho).1;have:false∈listed.toList:=by have hlt:i<listed.size:=amM;simp[akZ,hlt]at h1;rw[<- h1];simp
    rw[List.count_eq_zero]at hcnt;exact hcnt this
   exact finish listed a w E 0 hsz hcnt hcl hE hnot hst λi hi=>allListed listed hsz hr i amM
 | succ fuel ih =>
   intro listed a w E hsz hcnt hcl hE hnot hst;by_cases hall:∀i,i<qs.length->listed.getD i false=true
   .exact finish listed a w E _ hsz hcnt hcl hE hnot hst hall
   refine⟨λhr=>absurd (λi hi=>allListed listed hsz hr i amM) hall,λi hi=>?_⟩;obtain⟨hun,o,ho,hedges⟩:=mem_ready.1 hi;have hi':i<ops.size:=(akf.1 ho).1;have hun':listed.getD i false=false:=(by rw[<- getD_eq listed i hsz hi'];exact hun);obtain⟨lo,hlo1,hlo2⟩:=hlo i hi';have hready:∀o',ops[i]?=some o'->∀e∈o'.after,Region.binds .any e=true->listed.getD e.on false=true:=λo' ho'=>by rw[ho]at ho';cases ho';exact hedges
   have hset:∀k,(listed.setIfInBounds i true).getD k false=if k=i then true else listed.getD k false:=λk=>by
    by_cases e:k=i
    .subst e;have:k<listed.size:=amM;simp[akZ,this]
    .rw[if_neg e];exact getD_set_ne false (Ne.symm e)
   have hcnt':(listed.setIfInBounds i true).toList.count false=fuel:=by
    have hlt:i<listed.size:=amM;have:=acM listed.toList i (by simp[akZ,hlt]at hun';simp[hlt,hun'])
    rw[Array.toList_setIfInBounds];omega
   have hcl':R5 ops (listed.setIfInBounds i true):=λk o' hk ho' e he hb=>by
    rw[hset]at hk⊢;by_cases e1:e.on=i
    .rw[if_pos e1]
    .rw[if_neg e1];by_cases e2:k=i
     .subst e2;exact hready o' ho' e he hb
     .rw[if_neg e2]at hk;exact hcl k o' hk ho' e he hb
   rcases ajT i qs.length with hiq|hiq
   .
    have hqi:qs[i]?=some lo:=by rw[hsplit,ajw hiq]at hlo1;exact hlo1
    have hti:i<tr.length:=amM;have agree:∀t∈lo.reads,ay (TL T qs tr 0 λj=>decide (j<i)) t=ay (TL T qs tr 0 λj=>listed.getD j false) t:=by
     intro t ht;by_cases hw:∃(j:Nat) (p:aw),qs[j]?=some p/\p.dst=some t
     .obtain⟨j,p,hp,hd⟩:=hw;have hjq:j<qs.length:=(ajr.1 hp).1;rw[X3 hD htr hp hd,X3 hD htr hp hd];have hlj:los[j]?=some p:=(by rw[hsplit,ajw hjq];exact hp);have:=ajE.1 htied (lo,i) (by rw[alN];simpa using hlo1);have:=ajE.1 this t ht;have:=ajE.1 this (p,j) (by rw[alN];simpa using hlj);simp only[hd,beq_self_eq_true,alc,akE,akc,akN]at this;rcases this with h1|h1
      .have e1:=XV hahead hfix _ _ amM h1;have e2:=fO hahead hfix hcl i j hi' hready h1;simp only[decide_eq_true_eq,if_pos e1,if_pos e2]
      .have e1:=XV hahead hfix _ _ amM h1;have e2:listed.getD j false=false:=by
        rcases hb:listed.getD j false with _|_
        .rfl
        .have:=fO hahead hfix hcl j i amM (λo' ho'=>hcl j o' hb ho') h1;rw[hun']at this;cases this
       simp only[decide_eq_true_eq,if_neg (show ¬j<i by omega),e2,ajK,if_false]
     .have hno:∀(j:Nat) (p:aw),qs[j]?=some p->p.dst≠some t:=λj p hp hd=>hw ⟨j,p,hp,hd⟩
      rw[X4 hno,X4 hno]
    have hTnew:∀(t:Nat) (v:AV),ay (TL T qs tr 0 λj=>(listed.setIfInBounds i true).getD j false) t=some v->ay (cB lo.dst tr[i] (TL T qs tr 0 λj=>listed.getD j false)) t=some v:=by
     intro t v hv;by_cases hw:∃(j:Nat) (p:aw),qs[j]?=some p/\p.dst=some t
     .obtain⟨j,p,hp,hd⟩:=hw;rw[X3 hD htr hp hd]at hv;by_cases e:j=i
      .subst e;rw[hqi]at hp;cases hp;rw[hd,QX];rw[if_pos (by rw[hset,if_pos rfl]),ajF hti]at hv;exact hv
      .have hne:lo.dst≠some t:=λe'=>e (JU hD hp hqi hd e')
       rw[xY hne,X3 hD htr hp hd];simp only[hset,if_neg e]at hv;exact hv
     .have hno:∀(j:Nat) (p:aw),qs[j]?=some p->p.dst≠some t:=λj p hp hd=>hw ⟨j,p,hp,hd⟩
      rw[X4 hno]at hv;rw[xY (hno i lo hqi),X4 hno];exact hv
    have hnot':∀k,qs.length<=k->(listed.setIfInBounds i true).getD k false=false:=λk hk=>by rw[hset,if_neg amM];exact hnot k hk
    have hpre:∀j e,es[j]?=some e->listed.getD e false=decide (j<done es listed):=SU es _ λj j' e e' h1 h2 h3 h4=>by have hlt:e'<ops.size:=(by have:=hes e' (akg h2);omega);exact fO hahead hfix hcl e' e hlt (λo' ho'=>hcl e' o' h4 ho') (hch j j' e e' h1 h2 h3)
    have hdl:done es listed<=es.length:=List.countP_le_length;rcases hq i lo tr[i] hqi (ajF hti)with⟨m,g1,g2⟩|⟨g1,g2⟩
    .have hm:done es listed=m:=by
      have h1:=hpre m i g1;rw[hun']at h1;have h2:¬m<done es listed:=(by simpa using h1.symm);rcases ajT (done es listed) m with h3|h3
      .obtain⟨e,he⟩:∃e,es[done es listed]?=some e:=⟨_,ajF (by have:=(ajr.1 g1).1;omega)⟩;have h4:=hpre _ e he;rw[fO hahead hfix hcl i e hi' hready (hch _ _ e i he g1 h3)]at h4;simp at h4
      .omega
     have hm':done es (listed.setIfInBounds i true)=m+1:=by
      refine S9 es _ (m+1) (λj e he=>?_) (by have:=(ajr.1 g1).1;omega);rw[hset];by_cases e1:e=i
      .subst e1;rw[if_pos rfl];rcases alO j m with h3|h3|h3
       .simp;omega
       .simp;omega
       .have:=XV hahead hfix e e hi' (hch m j e e g1 he h3);omega
      .rw[if_neg e1,hpre j e he,hm];have:j≠m:=λe2=>by subst e2;rw[g1]at he;cases he;exact e1 rfl
       congr 1;simp only[eq_iff_iff];omega
     rw[hm]at hst;refine VU hlo2 hst (EQ.aops (EQ.congr agree g2)) λE' T' L' a' w' hle ⟨e1,e2⟩ hst'=>ih _ a' w' E' (by simpa using hsz) hcnt' hcl' (hE.trans hle) hnot' ?_
     subst e1;subst e2;rw[hm'];exact hst'.weak hTnew rfl λ_ _ e=>.inr e
    .have hL:done es (listed.setIfInBounds i true)=done es listed:=by
      unfold done;refine List.countP_congr λe he=>?_
      rw[hset,if_neg (λe1:e=i=>g1 (e1▸he))]
     have hAQ:=g2 (done es listed) hdl (λj e he hj=>by
      rcases hb:(tbl.getD e 0).testBit i with _|_
      .rfl
      .have h1:=hpre j e he;rw[decide_eq_true hj]at h1;have hlt:e<ops.size:=(by have:=hes e (akg he);omega);have:=fO hahead hfix hcl e i hlt (λo' ho'=>hcl e o' h1 ho') hb;rw[hun']at this;cases this) (λj e he hj=>by
      rcases hb:(tbl.getD i 0).testBit e with _|_
      .rfl
      .have h1:=hpre j e he;rw[fO hahead hfix hcl i e hi' hready hb]at h1;have:=of_decide_eq_true h1.symm;omega)
     refine ae5 hlo2 hst (hAQ.congr agree) λE' a' w' hle hst'=>ih _ a' w' E' (by simpa using hsz) hcnt' hcl' (hE.trans hle) hnot' ?_
     rw[hL];exact hst'.weak hTnew rfl λ_ _ e=>.inr e
   .
    refine absurd (λj hj=>?_) hall;have h1:=ajE.1 hchain i (by simpa using hi');simp only[akc,decide_eq_true_eq]at h1;rcases h1 with h2|h2
    .omega
    .have h3:=ajE.1 h2 j (by simp;omega);exact fO hahead hfix hcl i j hi' hready h3
end
inductive Kd where
 |pure
 |read (n f:Nat)
 |eff
 deriving Inhabited,DecidableEq
abbrev ma:=Nat×aw×Tm×AV
def Fq(P:Program)(L:List Blk):List ma->Prop
 |[]=>True
 |(_,o,T,v)::h=>AQ P o T L v/\Fq P L h
def On:List ma->List ma
 |[]=>[]
 |(0,_)::h=>On h
 |(1,_)::h=>On h
 |(n+2,y)::h=>(n+1,y)::On h
def aae(f:Nat)(o:aw)(T:Tm)(v:AV)(H:List ma):List ma :=
 match f with
 |0=>H
 |f+1=>(f+1,o,T,v)::H
def AG(P:Program)(K:Tm->List Blk->Prop):List (aw×Kd)->List (List Blk)->List ma->Tm->Prop
 |[],L::_,_,T=>K T L
 |(o,.pure)::r,L::Ls,H,T=>∃v,AQ P o T L v/\AG P K r (L::Ls) H (cB o.dst v T)
 |(o,.read n f)::r,L::Ls,H,T=>∃v,(∀L'∈(L::Ls).take (n+1),AQ P o T L' v)/\AG P K r (L::Ls) (aae f o T v H) (cB o.dst v T)
 |(o,.eff)::r,L::Ls,H,T=>∃v L2,EQ P o T L v L2/\Fq P L2 H/\AG P K r (L2::L::Ls) (On H) (cB o.dst v T)
 |_,[],_,_=>False
def lU:List (aw×Kd)->Nat
 |[]=>0
 |(_,.eff)::r=>lU r+1
 |_::r=>lU r
def mem(Ns:List (List Blk))(m:Nat):List Blk:=Ns.reverse.getD m []
theorem xV{X Ls:List (List Blk)}{m:Nat}(h:m<Ls.length):mem (X++Ls) m=Ls.getD (Ls.length-1-m) []:=by
 simp only[mem,List.reverse_append,ajO]
 grind
theorem Xf{P:Program}{L:List Blk}:∀{H:List ma},Fq P L H->∀y∈H,AQ P y.2.1 y.2.2.1 L y.2.2.2
 |[],_,y,hy=>by cases hy
 | (f,o,T,v)::h,hr,y,hy=>by
   rcases ajM.1 hy with rfl|hy
   .exact hr.1
   .exact Xf hr.2 y hy
theorem Rb:∀{H:List ma}{y:ma},y∈H->1<y.1->(y.1-1,y.2)∈On H
 |[],y,hy,_=>by cases hy
 | (0,z)::h,y,hy,h1=>by
   rcases ajM.1 hy with rfl|hy
   .omega
   .show(y.1-1,y.2)∈On h;exact Rb hy h1
 | (1,z)::h,y,hy,h1=>by
   rcases ajM.1 hy with rfl|hy
   .omega
   .show(y.1-1,y.2)∈On h;exact Rb hy h1
 | (n+2,z)::h,y,hy,h1=>by
   rcases ajM.1 hy with rfl|hy
   .simp[On]
   .exact alb _ (Rb hy h1)
def abz(P:Program)(o:aw)(T:Tm)(Ns:List (List Blk))(v:AV)(c:Nat):Kd->Prop
 |.pure=>AQ P o T (mem Ns c) v
 |.read n f=>∀m,c-n<=m->m<=c+f->m<Ns.length->AQ P o T (mem Ns m) v
 |.eff=>EQ P o T (mem Ns c) v (mem Ns (c+1))
theorem afp{P:Program}{K:Tm->List Blk->Prop}:∀(qk:List (aw×Kd)) (Ls:List (List Blk)) (H:List ma) (T:Tm) (k:Nat),AG P K qk Ls H T ->
  ∃(tr:List AV) (X:List (List Blk)),tr.length=qk.length/\X.length=lU qk /\
   (∀y∈H,∀m,Ls.length<=m->m<Ls.length+y.1->m<(X++Ls).length->AQ P y.2.1 y.2.2.1 (mem (X++Ls) m) y.2.2.2) /\
   (∀i o kd v,qk[i]?=some (o,kd)->tr[i]?=some v->abz P o (TL T (qk.map (·.1)) tr k λj=>decide (j<k+i)) (X++Ls) v (Ls.length-1+lU (qk.take i)) kd) /\
   K (TL T (qk.map (·.1)) tr k λ_=>true) (mem (X++Ls) ((X++Ls).length-1)):=by
 intro qk;induction qk with
 | nil =>
   intro Ls H T k h;cases Ls with
   |nil=>exact h.elim
   | cons L Ls =>
     refine⟨[],[],rfl,rfl,λy _ m h1 _ h3=>?_,λi o kd v hi=>by simp at hi,?_⟩
     .grind
     .rw[aj0,<- aj0 (L::Ls),xV amN];have h':K T L:=h;simpa[TL]using h'
 | cons q qk ih =>
   intro Ls H T k h;cases Ls with
   |nil=>rcases q with⟨o,_|_|_⟩<;>exact h.elim
   | cons L Ls =>
     obtain⟨o,kd⟩:=q;have tl0:∀(v:AV) (tr:List AV),TL T (((o,kd)::qk).map (·.1)) (v::tr) k (λj=>decide (j<k+0))=T:=λv tr=>by
      have e:TL T (((o,kd)::qk).map (·.1)) (v::tr) k (λj=>decide (j<k+0))=TL T (((o,kd)::qk).map (·.1)) (v::tr) k (λ_=>false):=X5 λj _=>amN
      rw[e];exact Zt _ _ _ _
     have tls:∀(v:AV) (tr:List AV) (i:Nat),TL T (((o,kd)::qk).map (·.1)) (v::tr) k (λj=>decide (j<k+(i+1)))=TL (cB o.dst v T) (qk.map (·.1)) tr (k+1) (λj=>decide (j<k+1+i)):=λv tr i=>by
      simp only[ajP,TL]
      grind
     have tlt:∀(v:AV) (tr:List AV),TL T (((o,kd)::qk).map (·.1)) (v::tr) k (λ_=>true)=TL (cB o.dst v T) (qk.map (·.1)) tr (k+1) (λ_=>true):=λv tr=>by rfl
     cases kd with
     | pure =>
       obtain⟨v,h1,h2⟩:=h;obtain⟨tr,X,g1,g2,g3,g4,g5⟩:=ih _ _ _ (k+1) h2;refine⟨v::tr,X,by simp[g1],g2,g3,λi p kd u hi hu=>?_,by rw[tlt];exact g5⟩;cases i with
       | zero =>
         simp only[akn,ajt,ajH]at hi hu;obtain⟨rfl,rfl⟩:=hi;subst hu;rw[tl0];simp only[akW,lU,akz,abz];rw[xV amN];simpa using h1
       | succ i =>
         rw[tls];exact g4 i p kd u (by simpa using hi) (by simpa using hu)
     | read n f =>
       obtain⟨v,h1,h2⟩:=h;obtain⟨tr,X,g1,g2,g3,g4,g5⟩:=ih _ _ _ (k+1) h2;have hk:∀y∈H,y∈aae f o T v H:=λy hy=>by
        unfold aae;split
        .exact hy
        .exact alb _ hy
       refine⟨v::tr,X,by simp[g1],g2,λy hy=>g3 y (hk y hy),λi p kd u hi hu=>?_,by rw[tlt];exact g5⟩;cases i with
       | zero =>
         simp only[akn,ajt,ajH]at hi hu;obtain⟨rfl,rfl⟩:=hi;subst hu;rw[tl0];simp only[akW,lU,akz,abz];intro m m1 m2 m3;rcases ajT m (L::Ls).length with m4|m4
         .rw[xV m4];refine h1 _ ?_;have m5:(L::Ls).length-1-m<(L::Ls).length:=amM;rw[ajO,ajF m5,aks];rw[List.mem_take_iff_getElem];refine⟨(L::Ls).length-1-m,?_,rfl⟩;simp only[ajz]at m1 m4 m5⊢;omega
         .cases f with
          |zero=>simp only[ajz]at m2 m4;omega
          |succ f=>exact g3 (f+1,o,T,v) (by simp[aae]) m m4 (by simp only[ajz]at m2 m4⊢;omega) m3
       | succ i =>
         rw[tls];exact g4 i p kd u (by simpa using hi) (by simpa using hu)
     | eff =>
       obtain⟨v,L2,h1,hr,h2⟩:=h;obtain⟨tr,X,g1,g2,g3,g4,g5⟩:=ih _ _ _ (k+1) h2;have e:(X++[L2])++(L::Ls)=X++(L2::L::Ls):=amN;refine⟨v::tr,X++[L2],by simp[g1],by simp[lU,g2],λy hy m m1 m2 m3=>?_,λi p kd u hi hu=>?_,by rw[tlt,e];exact g5⟩
       .rw[e]at m3⊢;rcases Nat.eq_or_lt_of_le m1 with m4|m4
        .subst m4;rw[xV amN];have:=Xf hr y hy;simpa using this
        .exact g3 _ (Rb hy amM) m (by simp only[ajz]at m4⊢;omega) (by simp only[ajz]at m2⊢;omega) m3
       rw[e];cases i with
       | zero =>
         simp only[akn,ajt,ajH]at hi hu;obtain⟨rfl,rfl⟩:=hi;subst hu;rw[tl0];simp only[akW,lU,akz,abz];rw[xV (by simp only[ajz];omega),xV (by simp only[ajz];omega)];simpa using h1
       | succ i =>
         rw[tls];have:=g4 i p kd u (by simpa using hi) (by simpa using hu);have e2:(L2::L::Ls).length-1+lU (qk.take i)=(L::Ls).length-1+lU (((o,Kd.eff)::qk).take (i+1)):=by simp only[ajz,ald,lU];omega
         rw[e2]at this;exact this
def LOp.pureB:LOp->Bool
 |.mv _|.pick .. |.build .. |.bin .. |.un .. |.faddr .. |.extract .. |.mkfn .. |.conv .. |.sconv .. |.eqk .. |.eq2 ..=>true
 |_=>false
theorem aga{P:Program}{o:aw}{T:Tm}{L:List Blk}(hp:o.op.pureB=true)(h:AQ P o T L v):AQ P o T L' v:=by
 have key:∀{c:Prop}{av:AV}{L2:List Blk},au T L o.op=some (c,av,L2)->au T L' o.op=some (c,av,L'):=λ{c av L2} he=>by
  have e:au T L' o.op=(au T L o.op).map λx=>(x.1,x.2.1,L'):=by obtain⟨d,op,g⟩:=o;cases op<;>simp only[LOp.pureB,ajK]at hp<;>simp only[au]<;>(repeat' split)<;>simp[Option.map_map,Function.comp_def]
  simp[*]
 have hv:AQv P o T L v->AQv P o T L' v:=λhv=>by
  unfold AQv at hv⊢;obtain⟨d,op,g⟩:=o;cases op<;>simp only[LOp.pureB,ajK]at hp<;>simp only at hv⊢<;>(
   split at hv
   .rename_i c av L2 he;rw[key he];exact⟨hv.1,hv.2.1,rfl⟩
   .exact hv.elim)
 unfold AQ at h⊢;split at h;simp[*]
 grind
def ef:List (aw×Kd)->Nat->List Nat
 |[],_=>[]
 |(_,.eff)::r,k=>k::ef r (k+1)
 |_::r,k=>ef r (k+1)
theorem kF:∀(qk:List (aw×Kd)) (k:Nat),(ef qk k).length=lU qk
 |[],_=>rfl
 |(_,.pure)::r,k=>kF r (k+1)
 |(_,.read _ _)::r,k=>kF r (k+1)
 |(_,.eff)::r,k=>by simp[ef,lU,kF r (k+1)]
theorem Vl:∀(qk:List (aw×Kd)) (k i:Nat) (o:aw),qk[i]?=some (o,.eff)->(ef qk k)[lU (qk.take i)]?=some (k+i)
 |[],_,i,o,h=>by simp at h
 |(p,kd)::r,k,0,o,h=>by obtain⟨rfl,rfl⟩:=h;rfl
 |(p,kd)::r,k,i+1,o,h=>by have ih:=Vl r (k+1) i o (by simpa using h);rw[show k+1+i=k+(i+1)by omega]at ih;cases kd<;>simpa[ef,lU]using ih
theorem Vk:∀(qk:List (aw×Kd)) (k e:Nat),e∈ef qk k->∃i o,e=k+i/\qk[i]?=some (o,.eff)
 |[],_,e,h=>by simp[ef]at h
 | (p,kd)::r,k,e,h=>by
   have go:e∈ef r (k+1)->∃i o,e=k+i/\((p,kd)::r)[i]?=some (o,.eff):=λh'=>by
    obtain⟨i,o,rfl,h2⟩:=Vk r (k+1) e h'
    grind
   cases kd with
   |pure=>exact go h
   |read _ _=>exact go h
   | eff =>
     rcases ajM.1 h with rfl|h
     .simp
     simp_all
def RI(tbl:List Nat)(qk:List (aw×Kd)):Bool :=
 let es:=ef qk 0
 ((List.range es.length).all λj'=>(List.range j').all λj=>(tbl.getD (es.getD j' 0) 0).testBit (es.getD j 0)) &&
 qk.zipIdx.all λ((o,kd),i)=>match kd with
  |.pure=>o.op.pureB
  |.eff=>true
  | .read n f=>let c:=lU (qk.take i)
    (List.range es.length).all λj=>(!decide (j<c-n) ||(tbl.getD i 0).testBit (es.getD j 0))&&(!decide (c+f<=j) ||(tbl.getD (es.getD j 0) 0).testBit i)
section
variable {P:Program}{r:Option Nat}{w0:World}{S0:SB}{N:Nat}{own:Nat->Nat}{ops:Array Oper}{L:List Blk}
theorem Zq{los:List aw}{n:Nat}(hlow:b7 P N own ops (List.range ops.size)=some los)(hok:Jx ops los n=true){qk:List (aw×Kd)}{ts:List aw}(hsplit:los=qk.map (·.1)++ts)(hn:qk.length=n)(hk:RI (ml ops.toList []) qk=true){K:Tm->List Blk->Prop}{T:Tm}{Q:Exit->Act->World->Prop}{E0:Env}(h:AG P (ku P K ts) qk [L] [] T)(hQ:∀E' T' L' a' w',E0.le E'->K T' L'->St w0 S0 N E' T' L' a' w'->Q .normal a' w')(a:Act)(w:World)(E:Env)(hE:E0.le E)(hst:St w0 S0 N E T L a w):
  wpAnyIn (fM r) 0 P .any ops Q ops.size (Array.replicate ops.size false) a w:=by
 obtain⟨tr,X,g1,g2,-,g4,g5⟩:=afp qk [L] [] T 0 h;have rep0:∀i,(Array.replicate ops.size false).getD i false=false:=λi=>by
  rw[akZ,Array.getElem?_replicate]
  grind
 simp only[RI,ajv]at hk;obtain⟨hk1,hk2⟩:=hk;have hesl:=kF qk 0;have hlt:∀e∈ef qk 0,∃o,qk[e]?=some (o,.eff):=λe he=>by obtain⟨i,o,rfl,h2⟩:=Vk qk 0 e he;simp[*]
 have hlen:(X++[L]).length=lU qk+1:=by simp[g2]
 refine aaI (T:=T) (K:=K) (qs:=qk.map (·.1)) (ts:=ts) (tr:=tr) (es:=ef qk 0) (Ms:=mem (X++[L])) hlow hok hsplit (by simpa using hn) (λe he=>?_) (λj j' e e' h1 h2 h3=>?_) (by simpa using g1) (λi o v ho hv=>?_) ?_ hQ ops.size _ a w E amN (by simp[List.count_replicate]) (λi o hi=>by rw[rep0]at hi;cases hi) hE (λi _=>rep0 i) ?_
 grind
 have l2:j'<(ef qk 0).length:=(ajr.1 h2).1;have:=ajE.1 (ajE.1 hk1 j' (by simpa using l2)) j (by simpa using h3);simp_all;rw[akr,ajW]at ho;obtain⟨⟨o',kd⟩,ho,rfl⟩:=ho;have hs:=g4 i o' kd v ho hv;simp only[amA,ale,akw]at hs;have hkk:=ajE.1 hk2 ((o',kd),i) (by rw[alN];simpa using ho);have notin:kd≠.eff->i∉ef qk 0:=λhne he=>by obtain⟨o2,h2⟩:=hlt i he;rw[ho]at h2;cases h2;exact hne rfl
 cases kd with
 | eff =>
   refine .inl ⟨lU (qk.take i),?_,hs⟩;simpa using Vl qk 0 i o' ho
 |pure=>exact .inr ⟨notin amN,λm _ _ _=>aga (by simpa using hkk) hs⟩
 | read n f =>
   refine .inr ⟨notin amN,λm hm p1 p2=>?_⟩;simp only at hkk;have chk:=λj (hj:j<(ef qk 0).length)=>ajE.1 hkk j (by simpa using hj)
   have cle:lU (qk.take i)<=(ef qk 0).length:=by
    have:∀(l:List (aw×Kd)) (i:Nat),lU (l.take i)<=lU l:=by
     intro l;induction l with
     |nil=>intro i;simp
     | cons q l ih =>
       intro i;cases i with
       |zero=>simp[lU]
       |succ i=>obtain⟨o,_|_|_⟩:=q<;>simp only[ald,lU]<;>have:=ih i<;>omega
    rw[hesl];exact this qk i
   refine hs m ?_ ?_ (by rw[hlen];omega)
   .rcases ajT m (lU (qk.take i)-n)with hlt2|hge
    .have hme:m<(ef qk 0).length:=amM;have:=chk m hme;simp only[ajv,akc,akb,decide_eq_false_iff_not]at this;have e1:=p2 m _ (ajF hme) (ajs _);rcases this.1 with c|c
     .exact absurd hlt2 c
     .rw[ajO (l:=ef qk 0),ajF hme]at c;simp only[aks]at c;rw[e1]at c;cases c
    .exact hge
   .rcases ajT (lU (qk.take i)+f) m with hlt2|hge
    .have hme:lU (qk.take i)+f<(ef qk 0).length:=amM;have:=chk _ hme;simp only[ajv,akc,akb,decide_eq_false_iff_not]at this;have e1:=p1 _ _ (ajF hme) hlt2;rcases this.2 with c|c
     .exact absurd (ajs _) c
     .rw[ajO (l:=ef qk 0),ajF hme]at c;simp only[aks]at c;rw[e1]at c;cases c
    .exact hge
 rw[hlen]at g5;rw[hesl];simpa using g5
 .have e:TL T (qk.map (·.1)) tr 0 (λj=>(Array.replicate ops.size false).getD j false)=T:=by refine Eq.trans (X5 (g:=λ_=>false) λj _=>rep0 _) (Zt _ tr T 0)
  have e2:done (ef qk 0) (Array.replicate ops.size false)=0:=amz.2 λx _=>by rw[rep0];simp
  rw[e,e2,xV amN];simpa using hst
end
inductive SOp where
 |op (o:aw)
 |grp (g:Option (Nat×Bool)) (t:Nat) (b:Bool) (body:List SOp) (d:Nat) (x:Opd)
 deriving Inhabited
def dO(g:Option (Nat×Bool))(t:Nat)(b:Bool)(d:Nat)(x:Opd):aw :=
 ⟨some d,.pick (.tmp t) (if b then x else .av (.bool true)) (if b then .av (.bool false)else x),g⟩
mutual
def SOp.flat:SOp->List aw
 |.op o=>[o]
 |.grp g t b body d x=>SOp.flatL body++[dO g t b d x]
def SOp.flatL:List SOp->List aw
 |[]=>[]
 |s::r=>SOp.flat s++SOp.flatL r
end
def bB(l:List aw):List Nat:=l.filterMap (·.dst)
def gds:List SOp->List Nat
 |[]=>[]
 |.op _::r=>gds r
 |.grp _ _ _ body _ _::r=>bB (SOp.flatL body)++gds r
def cM:SOp->List Nat
 |.op o=>o.dst.toList
 |.grp _ _ _ _ d _=>[d]
mutual
def okO(g:Nat×Bool)(seen:List Nat):SOp->Bool
 |.op o=>decide (o.guard=some g)
 |.grp g' t b body d x=>decide (g'=some g)&&seen.contains t && !(bB (SOp.flatL body)).contains t && !(bB (SOp.flatL body)).contains g.1&&okB (t,b) [] body
def okB(g:Nat×Bool)(seen:List Nat):List SOp->Bool
 |[]=>true
 |s::r=>okO g seen s&&(cM s).all (λd => !(gds r).contains d&&d != g.1)&&okB g (cM s++seen) r
end
def okS:List SOp->Bool
 |[]=>true
 |.op o::r=>o.dst.toList.all (λd => !(gds r).contains d)&&okS r
 |.grp g t b body d x::r=>decide (g=none) && !(bB (SOp.flatL body)).contains t&&okB (t,b) [] body && !(gds r).contains d&&okS r
def mrg(b p q:Bool):Bool:=if b then p&&q else p ||q
def afl(P:Program)(f:FuncId)(args:List AV)(L:List Blk)(k:AV->Prop):Prop:=∃v,af P f args L (λav L'=>av=v/\L'=L)/\k v
theorem bi{P:Program}{f:FuncId}{args:List AV}{L:List Blk}{k:AV->Prop}(h:af P f args L (λav L'=>av=v/\L'=L))(hk:k v):afl P f args L k:=⟨v,h,hk⟩
def IsB:Option AV->Bool->Prop:=λo q=>o=some (.bool q)
theorem cE{q:Bool}:IsB (some (.bool q)) q:=rfl
def IsX(x:Opd)(q:Bool)(T:Tm):Prop:=IsB (evX T x) q
def afh(k:Tm->Prop)(d:Option Nat)(T:Tm)(v:AV):Prop:=k (cB d v T)
def ai5(P:Program)(f:FuncId)(L:List Blk)(k:AV->Prop):Option (List AV)->Prop
 |some args=>afl P f args L k
 |none=>False
def abB(P:Program)(L:List Blk)(k:AV->Prop):Option AV->Option (List AV)->Prop
 |some (.func g caps),some args=>afl P g (args++caps) L k
 |_,_=>False
def ai1(L:List Blk)(k:AV->Prop):Option (Prop×AV×List Blk)->Prop
 |some (c,av,L')=>c/\L'=L/\k av
 |none=>False
def GOp(P:Program)(L:List Blk)(o:aw)(k:Tm->Prop)(T:Tm):Prop :=
 match o.op with
 |.call f xs=>ai5 P f L (afh k o.dst T) (gR T xs)
 |.callv f xs=>abB P L (afh k o.dst T) (evX T f) (gR T xs)
 |lo=>ai1 L (afh k o.dst T) (au T L lo)
mutual
def GL(P:Program)(L:List Blk):List SOp->(Tm->Prop)->Tm->Prop
 |[],k,T=>k T
 |s::r,k,T=>GO P L s (GL P L r k) T
def GO(P:Program)(L:List Blk):SOp->(Tm->Prop)->Tm->Prop
 |.op o,k,T=>GOp P L o k T
 | .grp _ t b body d x,k,T=>match ay T t with
   |some (.bool p)=>∃q,(p=b->GL P L body (IsX x q) T)/\k ((d,.bool (mrg b p q))::T)
   |_=>False
end
def GQ(P:Program)(L:List Blk)(b:Bool)(body:List SOp)(d:Nat)(x:Opd)(k:Tm->Prop)(T:Tm)(p:Bool):Prop :=
 ∃q,(p=b->GL P L body (IsX x q) T)/\k ((d,.bool (mrg b p q))::T)
def GG(P:Program)(L:List Blk)(b:Bool)(body:List SOp)(d:Nat)(x:Opd)(k:Tm->Prop)(T:Tm):Option AV->Prop
 |some (.bool p)=>GQ P L b body d x k T p
 |_=>False
theorem aib{P:Program}{L:List Blk}{k:Tm->Prop}{T:Tm}:GL P L [] k T=k T:=by rw[GL]
theorem ai4{P:Program}{L:List Blk}{o:aw}{r:List SOp}{k:Tm->Prop}{T:Tm}:GL P L (.op o::r) k T=GOp P L o (GL P L r k) T:=by rw[GL,GO]
theorem aic{P:Program}{L:List Blk}{g:Option (Nat×Bool)}{t d:Nat}{b:Bool}{body r:List SOp}{x:Opd}{k:Tm->Prop}{T:Tm}:GL P L (.grp g t b body d x::r) k T=GG P L b body d x (GL P L r k) T (ay T t):=by rw[GL,GO];rfl
theorem agS{P:Program}{L:List Blk}{d:Nat}{b p:Bool}{body:List SOp}{x:Opd}{k:Tm->Prop}{T:Tm}:GG P L b body d x k T (some (.bool p))=GQ P L b body d x k T p:=rfl
theorem ai3{P:Program}{L:List Blk}{d:Nat}{body:List SOp}{x:Opd}{k:Tm->Prop}{T:Tm}:GQ P L true body d x k T false=k ((d,.bool false)::T):=by simp[GQ,mrg]
theorem ai2{P:Program}{L:List Blk}{d:Nat}{body:List SOp}{x:Opd}{k:Tm->Prop}{T:Tm}:GQ P L false body d x k T true=k ((d,.bool true)::T):=by simp[GQ,mrg]
def SL(P:Program):List SOp->(Tm->List Blk->Prop)->Tm->List Blk->Prop
 |[],K,T,L=>K T L
 | .op o::r,K,T,L=>match o.guard with
   |none=>AOp P o (SL P r K) T L
   |some (t,b)=>Grd P o (SL P r K) b T L (ay T t)
 |.grp _ t b body d x::r,K,T,L=>GG P L b body d x (λT'=>SL P r K T' L) T (ay T t)
def SK(P:Program)(r:List SOp)(K:Tm->List Blk->Prop)(L:List Blk)(T:Tm):Prop:=SL P r K T L
theorem aiY{P:Program}{r:List SOp}{K:Tm->List Blk->Prop}{L:List Blk}{T:Tm}:SK P r K L T=SL P r K T L:=rfl
theorem ah6{P:Program}{K:Tm->List Blk->Prop}{L:List Blk}{T:Tm}:SL P [] K T L=K T L:=rfl
theorem aiX{P:Program}{d:Option Nat}{op:LOp}{r:List SOp}{K:Tm->List Blk->Prop}{L:List Blk}{T:Tm}:SL P (.op ⟨d,op,none⟩::r) K T L=AOp P ⟨d,op,none⟩ (SL P r K) T L:=rfl
theorem ah5{P:Program}{d:Option Nat}{op:LOp}{t:Nat}{b:Bool}{r:List SOp}{K:Tm->List Blk->Prop}{L:List Blk}{T:Tm}:SL P (.op ⟨d,op,some (t,b)⟩::r) K T L=Grd P ⟨d,op,some (t,b)⟩ (SL P r K) b T L (ay T t):=rfl
theorem ah7{P:Program}{g:Option (Nat×Bool)}{t d:Nat}{b:Bool}{body r:List SOp}{x:Opd}{K:Tm->List Blk->Prop}{L:List Blk}{T:Tm}:SL P (.grp g t b body d x::r) K T L=GG P L b body d x (SK P r K L) T (ay T t):=rfl
def sel:List Bool->Tm->Tm
 |[],T=>T
 |true::m,x::T=>x::sel m T
 |false::m,_::T=>sel m T
 |_::_,[]=>[]
theorem aa3{T:Tm}:sel [] T=T:=by cases T<;>rfl
theorem agZ{m:List Bool}{x:Nat×AV}{T:Tm}:sel (true::m) (x::T)=x::sel m T:=rfl
theorem ag0{m:List Bool}{x:Nat×AV}{T:Tm}:sel (false::m) (x::T)=sel m T:=rfl
section
variable {P:Program}{ro:Option Nat}{w0:World}{S0:SB}{N:Nat}
def Fr(ds:List Nat)(T:Tm):Prop:=∀d∈ds,ay T d=none
theorem lW{d:Option Nat}{v:AV}{T:Tm}{t:Nat}(h:d≠some t):ay (cB d v T) t=ay T t:=by
 cases d with
 |none=>rfl
 |some d=>simp only[cB,ay];rw[if_neg (λe=>h (by rw[e]))]
theorem gI{own:Nat->Nat}{ops:Array Oper}:∀{l m:List aw}{is:List Nat},b7 P N own ops is=some (l++m)->∃js ks,is=js++ks/\b7 P N own ops js=some l/\b7 P N own ops ks=some m
 |[],m,is,h=>⟨[],is,rfl,rfl,h⟩
 | o::l,m,is,h=>by
   cases is with
   |nil=>simp[b7]at h
   | cons i is =>
     simp only[b7]at h;split at h<;>try cases h
     rename_i o' m' h1 h2;obtain⟨js,ks,rfl,h3,h4⟩:=gI (l:=l) (m:=m) h2;refine⟨i::js,ks,rfl,?_,h4⟩;simp only[b7,h1,h3]
theorem kg{own:Nat->Nat}{ops:Array Oper}{o:aw}{is:List Nat}(h:b7 P N own ops is=some [o]):∃i,is=[i]/\kD P N own ops i=some o:=by
 cases is with
 |nil=>simp[b7]at h
 | cons i is =>
   simp only[b7]at h;split at h<;>try cases h
   rename_i o' m' h1 h2;cases is with
   |nil=>exact⟨i,rfl,h1⟩
   | cons j is =>
     simp only[b7]at h2;split at h2<;>cases h2
theorem T5{own:Nat->Nat}{ops:Array Oper}{K:Tm->List Blk->Prop}{Q:Exit->Act->World->Prop}{i:Nat}{lo:aw}{rest:List Nat}(hl:kD P N own ops i=some lo){T:Tm}{L:List Blk}{E:Env}{a:Act}{w:World}(hst:St w0 S0 N E T L a w)(hg:lo.guard=none\/∃t b,lo.guard=some (t,b)/\ay T t=some (.bool b))(h:AOp P lo K T L)(hK:∀E' T' L' a' w',E.le E'->K T' L'->St w0 S0 N E' T' L' a' w'->wpOpsIn (fM ro) 0 P ops Q rest a' w'):wpOpsIn (fM ro) 0 P ops Q (i::rest) a w:=by
 obtain⟨o,ho,hop,hdst,hd,hg'⟩:=gP hl;obtain⟨ld,lop,lg⟩:=lo;simp only at hop hdst hg' hg;subst hdst;simp only[wpOpsIn,ho];have hw:Region.wanted o (yielded ops a.tmps)=true:=by rcases hg' with⟨g1,g2⟩|⟨j,b,t,g1,g2,g3,g4⟩;simp[Region.wanted,g1];subst g4;rcases hg with hg|⟨t',b',e,hx⟩;cases hg;cases e;have hy:=iO (E:=E) (T:=T) (a:=a) (ops:=ops) hst.2.1 g2 (by rw[hst.2.2.1];exact g3);simp[Region.wanted,g1,hy.1 b hx]
 rw[if_pos hw];exact J7 hop hd hst h hK
theorem UL{own:Nat->Nat}{ops:Array Oper}{Q:Exit->Act->World->Prop}{i:Nat}{lo:aw}{rest:List Nat}(hl:kD P N own ops i=some lo){T:Tm}{L:List Blk}{E:Env}{a:Act}{w:World}(hst:St w0 S0 N E T L a w){t:Nat}{b:Bool}(hg:lo.guard=some (t,b))(hx:ay T t=some (.bool (!b))\/ay T t=some (.tup []))(hK:∀a',St w0 S0 N E (cB lo.dst (.tup []) T) L a' w->wpOpsIn (fM ro) 0 P ops Q rest a' w):wpOpsIn (fM ro) 0 P ops Q (i::rest) a w:=by
 obtain⟨o,ho,hop,hdst,hd,hg'⟩:=gP hl;obtain⟨ld,lop,lg⟩:=lo;simp only at hop hdst hg' hg hK;subst hdst;simp only[wpOpsIn,ho];have hw:Region.wanted o (yielded ops a.tmps)=false:=by rcases hg' with⟨g1,g2⟩|⟨j,b',t',g1,g2,g3,g4⟩;rw[g2]at hg;cases hg;rw[g4]at hg;cases hg;have hy:=iO (E:=E) (T:=T) (a:=a) (ops:=ops) hst.2.1 g2 (by rw[hst.2.2.1];exact g3);rcases hx with hx|hx;simp[Region.wanted,g1,hy.1 _ hx];simp[Region.wanted,g1,hy.2 hx]
 rw[if_neg (by simp[hw])];exact⟨λ_ _=>trivial,hK _ (OV hst hd)⟩
def Ext(ds:List Nat)(T T':Tm):Prop:=∀t v,t∉ds->ay T t=some v->ay T' t=some v
mutual
theorem ahm{own:Nat->Nat}{ops:Array Oper}{Q:Exit->Act->World->Prop}{L:List Blk}{E:Env}{w:World}(s:SOp){g:Nat×Bool}{seen:List Nat}{is rest:List Nat}{T:Tm}{a:Act}(hok:okO g seen s=true)(hl:b7 P N own ops is=some s.flat)(hst:St w0 S0 N E T L a w)(hx:ay T g.1=some (.bool (!g.2))\/ay T g.1=some (.tup []))(hseen:∀d∈seen,ay T d=some (.tup []))(hK:∀T' a',Ext (bB s.flat) T T'->(∀d,ay T d=some (.tup [])->ay T' d=some (.tup []))->(∀d∈cM s,ay T' d=some (.tup []))->St w0 S0 N E T' L a' w->wpOpsIn (fM ro) 0 P ops Q rest a' w):wpOpsIn (fM ro) 0 P ops Q (is++rest) a w:=by
 have tup:∀(d':Option Nat) (T:Tm) (d:Nat),ay T d=some (.tup [])->ay (cB d' (.tup []) T) d=some (.tup []):=λd' T d h=>by
  cases d' with
  |none=>exact h
  | some d' =>
    simp only[cB,ay];split
    .rfl
    .exact h
 cases s with
 | op o =>
   simp only[SOp.flat]at hl hK;obtain⟨i,rfl,h1⟩:=kg hl;simp only[okO,decide_eq_true_eq]at hok;refine UL h1 hst (t:=g.1) (b:=g.2) hok hx λa' ha'=>hK _ a' (λt v ht hv=>?_) (tup _ _) (λd hd=>?_) ha'
   .rw[lW (λe=>ht (by simp[bB,e]))];exact hv
   .simp only[cM,amm]at hd;rw[hd];simp[cB,ay]
 | grp g' t b body d x =>
   simp only[okO,ajv,decide_eq_true_eq,akN,akb,aku,decide_eq_false_iff_not]at hok;obtain⟨⟨⟨⟨hg',ht⟩,htb⟩,hgb⟩,hb⟩:=hok;simp only[SOp.flat]at hl hK;obtain⟨js,ks,rfl,h1,h2⟩:=gI hl;obtain⟨i,rfl,h3⟩:=kg h2;rw[ajD];refine TT body hb h1 hst (.inr (hseen t (by simpa using ht))) amN λT' a' hext htup hst'=>?_
   refine UL h3 hst' (t:=g.1) (b:=g.2) (by simp[dO,hg']) ?_ λa'' hst''=>hK _ a'' (λt v ht hv=>?_) (λd hd=>tup _ _ _ (htup d hd)) (λd hd=>?_) hst''
   .exact hx.imp (λh=>hext _ _ hgb h) (λh=>htup _ h)
   .rw[lW (λe=>ht (by simp only[dO]at e;simp[bB,dO,e]))];exact hext t v (λhm=>ht (by simp only[bB,ak0,ajx];exact .inl hm)) hv
   .simp only[cM,ajI]at hd;subst hd;simp[dO,cB,ay]
theorem TT{own:Nat->Nat}{ops:Array Oper}{Q:Exit->Act->World->Prop}{L:List Blk}{E:Env}{w:World}(l:List SOp){g:Nat×Bool}{seen:List Nat}{is rest:List Nat}{T:Tm}{a:Act}(hok:okB g seen l=true)(hl:b7 P N own ops is=some (SOp.flatL l))(hst:St w0 S0 N E T L a w)(hx:ay T g.1=some (.bool (!g.2))\/ay T g.1=some (.tup []))(hseen:∀d∈seen,ay T d=some (.tup []))(hK:∀T' a',Ext (bB (SOp.flatL l)) T T'->(∀d,ay T d=some (.tup [])->ay T' d=some (.tup []))->St w0 S0 N E T' L a' w->wpOpsIn (fM ro) 0 P ops Q rest a' w):wpOpsIn (fM ro) 0 P ops Q (is++rest) a w:=by
 cases l with
 | nil =>
   simp only[SOp.flatL]at hl hK;have:is=[]:=by
    cases is with
    |nil=>rfl
    | cons i is =>
      simp only[b7]at hl;split at hl<;>cases hl
   subst this;exact hK T a (λ_ _ _ h=>h) (λ_ h=>h) hst
 | cons s r =>
   simp only[okB,ajv,ajE,akb,bne_iff_ne]at hok;obtain⟨⟨h1,h2⟩,h3⟩:=hok;simp only[SOp.flatL]at hl hK;obtain⟨js,ks,rfl,h4,h5⟩:=gI hl;rw[ajD];refine ahm s h1 h4 hst hx hseen λT' a' e1 e2 e3 hst'=>?_
   have hx':ay T' g.1=some (.bool (!g.2))\/ay T' g.1=some (.tup []):=by
    by_cases hm:g.1∈bB s.flat
    .cases s with
     | op o =>
       simp only[bB,SOp.flat,List.filterMap_cons,List.filterMap_nil]at hm;cases hd:o.dst with
       |none=>simp[hd]at hm
       | some d =>
         simp[hd]at hm;exact absurd hm.symm (h2 d (by simp[cM,hd])).2
     | grp g' t b body d x =>
       simp only[okO,ajv,akb,aku,decide_eq_false_iff_not]at h1;simp only[bB,SOp.flat,ak0,ajx]at hm;rcases hm with hm|hm
       .exact absurd hm h1.1.2
       .simp[dO]at hm;exact absurd hm.symm (h2 d (by simp[cM])).2
    .exact hx.imp (e1 _ _ hm) (e2 _)
   refine TT r h3 h5 hst' hx' (λd hd=>?_) λT'' a'' f1 f2 hst''=>hK T'' a'' (λt v ht hv=>?_) (λd hd=>f2 d (e2 d hd)) hst''
   .rcases ajx.1 hd with hd|hd
    .exact e3 d hd
    .exact e2 d (hseen d hd)
   .simp only[bB,ak0,ajx,not_or]at ht;exact f1 t v ht.2 (e1 t v ht.1 hv)
end
theorem Fr.put{ds:List Nat}{T:Tm}{d:Option Nat}{v:AV}(h:Fr ds T)(hd:∀k,d=some k->k∉ds):Fr ds (cB d v T):=λk hk=>by rw[lW (λe=>hd k e hk)];exact h k hk
mutual
theorem aeH(s:SOp):∀d∈gds [s],d∈bB s.flat:=by
 cases s with
 |op o=>simp[gds]
 | grp g t b body d x =>
   intro u hu;simp only[gds,aj6]at hu;simp only[SOp.flat,bB,ak0,ajx];exact .inl hu
end
theorem Q6(s:SOp)(r:List SOp):gds (s::r)=gds [s]++gds r:=by cases s<;>simp[gds]
theorem Q5:∀(l:List SOp),∀d∈gds l,d∈bB (SOp.flatL l)
 |[],d,h=>by simp[gds]at h
 |s::r,d,h=>by rw[Q6,ajx]at h;simp only[SOp.flatL,bB,ak0,ajx];exact h.imp (aeH s d) (Q5 r d)
theorem YJ(s:SOp):∀d∈cM s,d∈bB s.flat:=by
 cases s with
 | op o =>
   intro d hd;simp only[cM,amm]at hd;simp[SOp.flat,bB,hd]
 | grp g t b body d x =>
   intro u hu;simp only[cM,ajI]at hu;subst hu;simp[SOp.flat,bB,dO]
mutual
theorem ahO{own:Nat->Nat}{ops:Array Oper}{Q:Exit->Act->World->Prop}{L:List Blk}(s:SOp){g:Nat×Bool}{seen:List Nat}{is rest:List Nat}{T:Tm}{a:Act}{E:Env}{w:World}{k:Tm->Prop}(hok:okO g seen s=true)(hl:b7 P N own ops is=some s.flat)(hst:St w0 S0 N E T L a w)(hx:ay T g.1=some (.bool g.2))(hfr:∀d∈gds [s],ay T d=none)(h:GO P L s k T)(hK:∀E' T' a' w',E.le E'->k T'->Ext (cM s) T T'->(∀d,d∉cM s->ay T d=none->ay T' d=none)->St w0 S0 N E' T' L a' w'->wpOpsIn (fM ro) 0 P ops Q rest a' w'):wpOpsIn (fM ro) 0 P ops Q (is++rest) a w:=by
 cases s with
 | op o =>
   simp only[SOp.flat]at hl;obtain⟨i,rfl,h1⟩:=kg hl;simp only[okO,decide_eq_true_eq]at hok;simp only[GO]at h;have ext:∀v,Ext (cM (.op o)) T (cB o.dst v T):=λv t x ht hv=>by rw[lW (λe=>ht (by simp[cM,e]))];exact hv
   have fre:∀v d,d∉cM (.op o)->ay T d=none->ay (cB o.dst v T) d=none:=λv d hd hn=>by rw[lW (λe=>hd (by simp[cM,e]))];exact hn
   have hA:AOp P o (λT' L'=>L'=L/\∃v,T'=cB o.dst v T/\k T') T L:=by
    obtain⟨d,op,gd⟩:=o;have call:∀{f:FuncId}{args:List AV},afl P f args L (afh k d T)->af P f args L (Kon (λT' L'=>L'=L/\∃v,T'=cB d v T/\k T') d T):=λ{f args} ⟨v,h1,h2⟩ =>
     h1.mono λav L' ⟨e1,e2⟩=>by subst e1;subst e2;exact⟨rfl,av,rfl,h2⟩
    simp only[GOp]at h;simp only[AOp];cases op
    case call f xs =>
     simp only at h⊢;cases he:gR T xs with
     |none=>rw[he]at h;exact h.elim
     |some args=>rw[he]at h;exact call h
    case callv f xs =>
     simp only at h⊢;cases hf:evX T f with
     |none=>rw[hf]at h;exact h.elim
     | some u =>
       rw[hf]at h;cases he:gR T xs with
       |none=>rw[he]at h;cases u<;>exact h.elim
       | some args =>
         rw[he]at h;cases u<;>simp only[abB]at h;exact call h
    all_goals
     simp only at h⊢;generalize au T L _=r at h⊢;cases r with
     |none=>exact h.elim
     | some r =>
       obtain⟨c,av,L'⟩:=r;exact⟨h.1,h.2.1,av,rfl,h.2.2⟩
   refine T5 h1 hst (.inr ⟨g.1,g.2,hok,hx⟩) hA λE' T' L' a' w' hle ⟨e1,v,e2,hk⟩ hst'=>?_
   subst e1;subst e2;exact hK E' _ a' w' hle hk (ext v) (fre v) hst'
 | grp g' t b body d x =>
   simp only[okO,ajv,decide_eq_true_eq,akb,aku,decide_eq_false_iff_not]at hok;obtain⟨⟨⟨⟨hg',ht⟩,htb⟩,hgb⟩,hb⟩:=hok;simp only[SOp.flat]at hl;obtain⟨js,ks,rfl,h1,h2⟩:=gI hl;obtain⟨i,rfl,h3⟩:=kg h2;rw[ajD];simp only[GO]at h;have hfr':Fr (bB (SOp.flatL body)) T:=λd' hd'=>hfr d' (by simp[gds,hd'])
   have fin:∀{E':Env}{T':Tm}{a':Act}{w':World}(p q:Bool),E.le E'->St w0 S0 N E' T' L a' w'->Ext (bB (SOp.flatL body)) T T'->ay T t=some (.bool p)->(p=b->evX T' x=some (.bool q))->k ((d,.bool (mrg b p q))::T)->wpOpsIn (fM ro) 0 P ops Q ([i]++rest) a' w':=λ{E' T' a' w'} p q hle hst' hext hp hq hk=>by
    have hv:au T' L (.pick (.tmp t) (if b then x else .av (.bool true)) (if b then .av (.bool false)else x))=some (True,.bool (mrg b p q),L):=by have ht':ay T' t=some (.bool p):=hext _ _ htb hp;cases b<;>cases p<;>simp[au,evX,ht',mrg]<;>exact hq rfl
    refine T5 h3 hst' (.inr ⟨g.1,g.2,by simp[dO,hg'],hext _ _ hgb hx⟩) (K:=λT'' L''=>T''=(d,.bool (mrg b p q))::T'/\L''=L) ?_ λE'' T'' L'' a'' w'' hle' ⟨e1,e2⟩ hst''=>?_
    .simp only[dO,AOp,hv,Res,cB,and_self]
    .subst e1;subst e2;refine hK E'' ((d,.bool (mrg b p q))::T) a'' w'' (hle.trans hle') hk (λu v hu hv=>?_) (λu hu hn=>?_) ⟨hst''.1,hst''.2.1.weak λu v hu=>?_,hst''.2.2⟩
     .simp only[cM,ajI]at hu;simp only[ay];rw[if_neg (Ne.symm hu)];exact hv
     .simp only[cM,ajI]at hu;simp only[ay];rw[if_neg (Ne.symm hu)];exact hn
     .simp only[ay]at hu⊢;split
      .rename_i e;rw[if_pos e]at hu;exact hu
      .rename_i e;rw[if_neg e]at hu;refine hext u v (λhm=>?_) hu;rw[hfr' u hm]at hu;cases hu
   rcases hp:ay T t with _|u
   .rw[hp]at h;exact h.elim
   rw[hp]at h;cases u<;>try exact h.elim
   rename_i p;obtain⟨q,hq,hk⟩:=h;by_cases e:p=b
   .subst e;refine XN body hb h1 hst hp (λd hd=>hfr' d (Q5 body d hd)) (hq rfl) λE' T' a' w' hle hx' hext hst'=>fin p q hle hst' hext hp (λ_=>hx') hk
   .have:p = !b:=(by cases p<;>cases b<;>simp_all);refine TT body hb h1 hst (.inl (by rw[hp,this])) amN λT' a' hext _ hst'=>fin p q (.refl E) hst' hext hp (λe'=>absurd e' e) hk
theorem XN{own:Nat->Nat}{ops:Array Oper}{Q:Exit->Act->World->Prop}{L:List Blk}(l:List SOp){g:Nat×Bool}{seen:List Nat}{is rest:List Nat}{T:Tm}{a:Act}{E:Env}{w:World}{k:Tm->Prop}(hok:okB g seen l=true)(hl:b7 P N own ops is=some (SOp.flatL l))(hst:St w0 S0 N E T L a w)(hx:ay T g.1=some (.bool g.2))(hfr:Fr (gds l) T)(h:GL P L l k T)(hK:∀E' T' a' w',E.le E'->k T'->Ext (bB (SOp.flatL l)) T T'->St w0 S0 N E' T' L a' w'->wpOpsIn (fM ro) 0 P ops Q rest a' w'):wpOpsIn (fM ro) 0 P ops Q (is++rest) a w:=by
 cases l with
 | nil =>
   simp only[SOp.flatL]at hl;have:is=[]:=by
    cases is with
    |nil=>rfl
    | cons i is =>
      simp only[b7]at hl;split at hl<;>cases hl
   subst this;rw[GL]at h;exact hK E T a w (.refl E) h (λ_ _ _ h=>h) hst
 | cons s r =>
   simp only[okB,ajv,ajE,akb,bne_iff_ne,aku,decide_eq_false_iff_not]at hok;obtain⟨⟨h1,h2⟩,h3⟩:=hok;simp only[SOp.flatL]at hl;obtain⟨js,ks,rfl,h4,h5⟩:=gI hl;rw[ajD];rw[GL]at h;rw[Q6]at hfr;refine ahO s h1 h4 hst hx (λd hd=>hfr d (ako _ hd)) h λE' T' a' w' hle hk' e1 e2 hst'=>?_
   refine XN r h3 h5 hst' (e1 _ _ (λhm=>(h2 _ hm).2 rfl) hx) (λd hd=>e2 d (λhm=>(h2 d hm).1 hd) (hfr d (akO _ hd))) hk' λE'' T'' a'' w'' hle' hk'' f1 hst''=>hK E'' T'' a'' w'' (hle.trans hle') hk'' (λt v ht hv=>?_) hst''
   simp only[SOp.flatL,bB,ak0,ajx,not_or]at ht;exact f1 t v ht.2 (e1 t v (λhm=>ht.1 (YJ s t hm)) hv)
end
theorem agW{o:aw}{K:Tm->List Blk->Prop}{T:Tm}{L:List Blk}(h:AOp P o K T L):AOp P o (λT' L'=>K T' L'/\∃v,T'=cB o.dst v T) T L:=by
 obtain⟨d,op,gd⟩:=o;have call:∀{f:FuncId}{args:List AV},af P f args L (Kon K d T)->af P f args L (Kon (λT' L'=>K T' L'/\∃v,T'=cB d v T) d T):=λ{f args} h=>h.mono λav L' h=>⟨h,av,rfl⟩
 simp only[AOp]at h⊢;cases op
 case call f xs =>
  simp only at h⊢;cases he:gR T xs with
  |none=>rw[he]at h;exact h.elim
  |some args=>rw[he]at h;exact call h
 case callv f xs =>
  simp only at h⊢;cases hf:evX T f with
  |none=>rw[hf]at h;cases he:gR T xs<;>rw[he]at h<;>exact h.elim
  | some u =>
    rw[hf]at h;cases he:gR T xs with
    |none=>rw[he]at h;cases u<;>exact h.elim
    | some args =>
      rw[he]at h;cases u<;>simp only[ac2]at h
      case yld i=>exact Wo.mono h λav L' h=>⟨h,av,rfl⟩
      exact call h
 all_goals
  simp only at h⊢;generalize au T L _=r at h⊢;cases r with
  |none=>exact h.elim
  |some r=>exact⟨h.1,h.2,r.2.1,rfl⟩
theorem FB{own:Nat->Nat}{ops:Array Oper}{Q:Exit->Act->World->Prop}{K:Tm->List Blk->Prop}:∀(l:List SOp){is:List Nat}{T:Tm}{L:List Blk}{a:Act}{E:Env}{w:World},okS l=true->b7 P N own ops is=some (SOp.flatL l) ->
  St w0 S0 N E T L a w->Fr (gds l) T->SL P l K T L->(∀E' T' L' a' w',E.le E'->K T' L'->St w0 S0 N E' T' L' a' w'->Q .normal a' w')->wpOpsIn (fM ro) 0 P ops Q is a w
 | [],is,T,L,a,E,w,hok,hl,hst,hfr,h,hK=>by
   simp only[SOp.flatL]at hl;have:is=[]:=by
    cases is with
    |nil=>rfl
    | cons i is =>
      simp only[b7]at hl;split at hl<;>cases hl
   subst this;exact hK E T L a w (.refl E) h hst
 | .op o::r,is,T,L,a,E,w,hok,hl,hst,hfr,h,hK=>by
   simp only[okS,ajv,ajE,amm,akb,aku,decide_eq_false_iff_not]at hok;simp only[SOp.flatL,SOp.flat,al2]at hl;obtain⟨js,ks,rfl,h1,h2⟩:=gI (l:=[o]) hl;obtain⟨i,rfl,h3⟩:=kg h1;have hfr':∀v,Fr (gds r) (cB o.dst v T):=λv=>Fr.put (ds:=gds r) hfr λk hk=>hok.1 k hk
   have run:(o.guard=none\/∃t b,o.guard=some (t,b)/\ay T t=some (.bool b))->AOp P o (SL P r K) T L->wpOpsIn (fM ro) 0 P ops Q ([i]++ks) a w:=λhg h =>
    T5 h3 hst hg (agW h) λE' T' L' a' w' hle ⟨hs,v,e⟩ hst'=>by subst e;exact FB r hok.2 h2 hst' (hfr' v) hs λE'' T'' L'' a'' w'' hle'=>hK E'' T'' L'' a'' w'' (hle.trans hle')
   have skip:∀t b,o.guard=some (t,b)->(ay T t=some (.bool (!b))\/ay T t=some (.tup []))->SL P r K (cB o.dst (.tup []) T) L->wpOpsIn (fM ro) 0 P ops Q ([i]++ks) a w:=λt b hg hx h =>
    UL h3 hst hg hx λa' hst'=>FB r hok.2 h2 hst' (hfr' _) h hK
   rw[SL]at h;rcases hg:o.guard with _|⟨t,b⟩
   .rw[hg]at h;exact run (.inl hg) h
   .rw[hg]at h;simp only at h;rcases hx:ay T t with _|u
    .rw[hx]at h;exact h.elim
    rw[hx]at h;cases u<;>try exact h.elim
    .rename_i x;rw[xL]at h;by_cases e:x=b
     .rw[if_pos e]at h;exact run (.inr ⟨t,b,hg,by rw[hx,e]⟩) h
     .rw[if_neg e]at h;have:x = !b:=(by cases x<;>cases b<;>simp_all);exact skip t b hg (.inl (by rw[hx,this])) h
    .rename_i l;cases l with
     |cons _ _=>exact h.elim
     |nil=>exact skip t b hg (.inr hx) h
 | .grp g t b body d x::r,is,T,L,a,E,w,hok,hl,hst,hfr,h,hK=>by
   simp only[okS,ajv,decide_eq_true_eq,akb,aku,decide_eq_false_iff_not]at hok;obtain⟨⟨⟨⟨hg,htb⟩,hb⟩,hd⟩,hr⟩:=hok;simp only[SOp.flatL,SOp.flat,ajD]at hl;obtain⟨js,ks',rfl,h1,h2⟩:=gI hl;obtain⟨is',ks,rfl,h2',h4⟩:=gI h2;obtain⟨i,rfl,h3⟩:=kg h2';rw[SL]at h;have hfr1:Fr (bB (SOp.flatL body)) T:=λd' hd'=>hfr d' (by simp[gds,hd'])
   have hfr2:Fr (gds r) T:=λd' hd'=>hfr d' (by simp[gds,hd'])
   have fin:∀{E':Env}{T':Tm}{a':Act}{w':World}(p q:Bool),E.le E'->St w0 S0 N E' T' L a' w'->Ext (bB (SOp.flatL body)) T T'->ay T t=some (.bool p)->(p=b->evX T' x=some (.bool q))->SL P r K ((d,.bool (mrg b p q))::T) L->wpOpsIn (fM ro) 0 P ops Q ([i]++ks) a' w':=λ{E' T' a' w'} p q hle hst' hext hp hq hk=>by
    have hv:au T' L (.pick (.tmp t) (if b then x else .av (.bool true)) (if b then .av (.bool false)else x))=some (True,.bool (mrg b p q),L):=by have ht':ay T' t=some (.bool p):=hext _ _ htb hp;cases b<;>cases p<;>simp[au,evX,ht',mrg]<;>exact hq rfl
    refine T5 h3 hst' (.inl (by simp[dO,hg])) (K:=λT'' L''=>T''=(d,.bool (mrg b p q))::T'/\L''=L) ?_ λE'' T'' L'' a'' w'' hle' ⟨e1,e2⟩ hst''=>?_
    .simp only[dO,AOp,hv,Res,cB,and_self]
    .subst e1;subst e2;refine FB r hr h4 (T:=(d,.bool (mrg b p q))::T) ⟨hst''.1,hst''.2.1.weak λu v hu=>?_,hst''.2.2⟩ (Fr.put (d:=some d) hfr2 λk hk=>by cases hk;exact hd) hk λE3 T3 L3 a3 w3 hle3=>hK E3 T3 L3 a3 w3 ((hle.trans hle').trans hle3)
     simp only[ay]at hu⊢;split
     .rename_i e;rw[if_pos e]at hu;exact hu
     .rename_i e;rw[if_neg e]at hu;refine hext u v (λhm=>?_) hu;rw[hfr1 u hm]at hu;cases hu
   rcases hp:ay T t with _|u
   .rw[hp]at h;exact h.elim
   rw[hp]at h;cases u<;>try exact h.elim
   rename_i p;obtain⟨q,hq,hk⟩:=h;by_cases e:p=b
   .subst e;exact XN body hb h1 hst hp (λd hd=>hfr1 d (Q5 body d hd)) (hq rfl) λE' T' a' w' hle hx' hext hst'=>fin p q hle hst' hext hp (λ_=>hx') hk
   .have:p = !b:=(by cases p<;>cases b<;>simp_all);exact TT body hb h1 hst (.inl (by rw[hp,this])) amN λT' a' hext _ hst'=>fin p q (.refl E) hst' hext hp (λe'=>absurd e' e) hk
end
theorem agA{p b:Bool}(h:¬p=b):p = !b:=by cases p<;>cases b<;>simp_all
mutual
def Xu(g:Option (Nat×Bool))(seen D:List Nat):SOp->Bool
 |.op o=>decide (o.guard=g)&&o.reads.all (λt => !D.contains t)
 |.grp g' t b body d x=>decide (g'=g)&&(g.isNone ||seen.contains t) && !D.contains t && !(bB (SOp.flatL body)).contains t&&(match g with|some g1 => !(bB (SOp.flatL body)).contains g1.1|none=>true) &&
  x.tmps.all (λt => !(D++gds body).contains t)&&okG (some (t,b)) [] D body
def okG(g:Option (Nat×Bool))(seen D:List Nat):List SOp->Bool
 |[]=>true
 |s::r=>Xu g seen D s&&(cM s).all (λd => !(D++gds [s]).contains d && !(gds r).contains d&&(match g with|some g1=>d != g1.1|none=>true))&&okG g (cM s++seen) (D++gds [s]) r
end
section
variable {P:Program}{L:List Blk}{K:Tm->List Blk->Prop}
def AR(P:Program)(K:Tm->List Blk->Prop)(l:List aw)(L:List Blk)(T:Tm):Prop:=AG P K (l.map λo=>(o,.read 0 0)) [L] [] T
theorem ail{T:Tm}(h:K T L):AR P K [] L T:=h
theorem Ue{o:aw}{r:List aw}{T:Tm}{v:AV}(h1:AQ P o T L v)(h2:AR P K r L (cB o.dst v T)):AR P K (o::r) L T:=by refine⟨v,λL' hL'=>?_,h2⟩;simp at hL';subst hL';exact h1
def Agr(D:List Nat)(T T1:Tm):Prop:=∀t,t∉D->ay T1 t=ay T t
theorem Agr.put{D:List Nat}{T T1:Tm}(h:Agr D T T1)(d:Option Nat)(v:AV):Agr D (cB d v T) (cB d v T1):=λt ht=>by
 cases d with
 |none=>exact h t ht
 |some d=>simp only[cB,ay];split;rfl;exact h t ht
theorem YV{d:Option Nat}{T:Tm}{t:Nat}(h:ay T t=some (.tup [])):ay (cB d (.tup []) T) t=some (.tup []):=by
 cases d with
 |none=>exact h
 |some d=>simp only[cB,ay];split;rfl;exact h
mutual
theorem agM(s:SOp){g:Nat×Bool}{seen D:List Nat}{rest:List aw}{T:Tm}(hok:Xu (some g) seen D s=true)(hx:ay T g.1=some (.bool (!g.2))\/ay T g.1=some (.tup []))(hseen:∀d∈seen,ay T d=some (.tup []))(hK:∀T',(∀t,t∉bB s.flat->ay T' t=ay T t)->(∀d,ay T d=some (.tup [])->ay T' d=some (.tup []))->(∀d∈cM s,ay T' d=some (.tup []))->AR P K rest L T'):AR P K (s.flat++rest) L T:=by
 have skip:∀(o:aw) (T:Tm),o.guard=some g->(ay T g.1=some (.bool (!g.2))\/ay T g.1=some (.tup []))->AQ P o T L (.tup []):=λo T hg hx=>by obtain⟨t,b⟩:=g;simp only[AQ,hg];rcases hx with hx|hx<;>simp only at hx<;>rw[hx]<;>simp
 cases s with
 | op o =>
   simp only[Xu,ajv,decide_eq_true_eq]at hok;refine Ue (skip o T hok.1 hx) (hK _ (λt ht=>lW λe=>ht (by simp[SOp.flat,bB,e])) (λd hd=>YV hd) λd hd=>?_);simp only[cM,amm]at hd;rw[hd];simp[cB,ay]
 | grp g' t b body d x =>
   simp only[Xu,ajv,decide_eq_true_eq,Option.isNone_some,akE,akb,aku,decide_eq_false_iff_not]at hok;obtain⟨⟨⟨⟨⟨⟨hg',ht⟩,_⟩,htb⟩,hgb⟩,_⟩,hb⟩:=hok;simp only[SOp.flat,ajD];refine VS body hb (.inr (hseen t (by simpa using ht))) amN λT' h1 h2=>?_
   refine Ue (o:=dO g' t b d x) (v:=.tup []) (skip _ T' (by simp[dO,hg']) (by rw[h1 _ hgb];exact hx)) (hK _ (λu hu=>?_) (λu hu=>YV (h2 u hu)) λu hu=>?_)
   .rw[lW (λe=>hu (by simp only[dO]at e;simp[SOp.flat,bB,dO,e]))];exact h1 u λhm=>hu (by simp only[SOp.flat,bB,ak0,ajx];exact .inl hm)
   .simp only[cM,ajI]at hu;subst hu;simp[dO,cB,ay]
theorem VS(l:List SOp){g:Nat×Bool}{seen D:List Nat}{rest:List aw}{T:Tm}(hok:okG (some g) seen D l=true)(hx:ay T g.1=some (.bool (!g.2))\/ay T g.1=some (.tup []))(hseen:∀d∈seen,ay T d=some (.tup []))(hK:∀T',(∀t,t∉bB (SOp.flatL l)->ay T' t=ay T t)->(∀d,ay T d=some (.tup [])->ay T' d=some (.tup []))->AR P K rest L T'):AR P K (SOp.flatL l++rest) L T:=by
 cases l with
 |nil=>exact hK T (λ_ _=>rfl) (λ_ h=>h)
 | cons s r =>
   simp only[okG,ajv,ajE,akb,bne_iff_ne]at hok;obtain⟨⟨h1,h2⟩,h3⟩:=hok;simp only[SOp.flatL,ajD];refine agM s h1 hx hseen λT' e1 e2 e3=>?_
   have hx':ay T' g.1=some (.bool (!g.2))\/ay T' g.1=some (.tup []):=by
    by_cases hm:g.1∈bB s.flat
    .cases s with
     | op o =>
       simp only[bB,SOp.flat,List.filterMap_cons,List.filterMap_nil]at hm;cases hd:o.dst with
       |none=>simp[hd]at hm
       | some d =>
         simp[hd]at hm;exact absurd hm.symm (h2 d (by simp[cM,hd])).2
     | grp g' t b body d x =>
       simp only[Xu,ajv,akb,aku,decide_eq_false_iff_not]at h1;simp only[bB,SOp.flat,ak0,ajx]at hm;rcases hm with hm|hm
       .exact absurd hm h1.1.1.2
       .simp[dO]at hm;exact absurd hm.symm (h2 d (by simp[cM])).2
    .exact hx.imp (λh=>by rw[e1 _ hm];exact h) (e2 _)
   refine VS r h3 hx' (λd hd=>?_) λT'' f1 f2=>hK T'' (λt ht=>?_) (λd hd=>f2 d (e2 d hd))
   .rcases ajx.1 hd with hd|hd
    .exact e3 d hd
    .exact e2 d (hseen d hd)
   .simp only[SOp.flatL,bB,ak0,ajx,not_or]at ht;rw[f1 t ht.2,e1 t ht.1]
end
def QU(l:List SOp):List Nat:=l.flatMap cM
theorem WK:∀(l:List SOp),∀d∈QU l,d∈bB (SOp.flatL l)
 |[],d,h=>by simp[QU]at h
 |s::r,d,h=>by simp only[QU,aj5,ajx]at h;simp only[SOp.flatL,bB,ak0,ajx];exact h.imp (YJ s d) (WK r d)
theorem aia{o:aw}{k:Tm->Prop}{T:Tm}(h:GOp P L o k T):∃v,AQv P o T L v/\k (cB o.dst v T):=by
 obtain⟨d,op,gd⟩:=o;simp only[GOp]at h;unfold AQv;cases op
 case call f xs =>
  simp only at h⊢;cases he:gR T xs with
  |none=>rw[he]at h;exact h.elim
  |some args=>rw[he]at h;obtain⟨v,h1,h2⟩:=h;exact⟨v,h1,h2⟩
 case callv f xs =>
  simp only at h⊢;cases hf:evX T f with
  |none=>rw[hf]at h;exact h.elim
  | some u =>
    rw[hf]at h;cases he:gR T xs with
    |none=>rw[he]at h;cases u<;>exact h.elim
    | some args =>
      rw[he]at h;cases u<;>simp only[abB]at h;obtain⟨v,h1,h2⟩:=h;exact⟨v,h1,h2⟩
 all_goals
  simp only at h⊢;generalize au T L _=r at h⊢;cases r with
  |none=>exact h.elim
  | some r =>
    obtain⟨c,av,L'⟩:=r;exact⟨av,⟨h.1,rfl,h.2.1⟩,h.2.2⟩
mutual
theorem ahW(s:SOp){g:Option (Nat×Bool)}{seen D:List Nat}{rest:List aw}{T T1:Tm}{k:Tm->Prop}(hok:Xu g seen D s=true)(hx:∀g1,g=some g1->g1.1∉D/\ay T g1.1=some (.bool g1.2))(hfr:∀d∈gds [s],ay T d=none)(ha:Agr D T T1)(h:GO P L s k T)(hK:∀T' T1',k T'->Agr (D++gds [s]) T' T1'->(∀t,t∉cM s->ay T' t=ay T t)->AR P K rest L T1'):AR P K (s.flat++rest) L T1:=by
 cases s with
 | op o =>
   simp only[Xu,ajv,decide_eq_true_eq,ajE,akb,aku,decide_eq_false_iff_not]at hok;simp only[GO]at h;obtain⟨v,h1,h2⟩:=aia h;have hq:AQ P o T L v:=by
    unfold AQ;rw[hok.1];cases g with
    |none=>exact h1
    | some g1 =>
      obtain⟨t,b⟩:=g1;have:=(hx _ rfl).2;simp only at this⊢;rw[this];simp[h1]
   refine Ue (hq.congr λt ht=>(ha t (hok.2 t ht)).symm) (hK _ _ h2 (λt ht=>?_) λt ht=>lW λe=>ht (by simp[cM,e]));exact(ha.put _ _) t λhm=>ht (ako _ hm)
 | grp g' t b body d x =>
   simp only[Xu,ajv,decide_eq_true_eq,ajE,akb,aku,decide_eq_false_iff_not]at hok;obtain⟨⟨⟨⟨⟨⟨hg',_⟩,htD⟩,htb⟩,hgb⟩,hxD⟩,hb⟩:=hok;simp only[GO]at h;have hfr':∀u∈bB (SOp.flatL body),ay T u=none:=λu hu=>hfr u (by simp[gds,hu])
   have hgd:gds [SOp.grp g' t b body d x]=bB (SOp.flatL body):=(by simp[gds]);rw[hgd]at hK;simp only[SOp.flat,ajD];have fin:∀{T1b:Tm}(p q:Bool),ay T t=some (.bool p)->(∀u,u∉D->u∉bB (SOp.flatL body)->ay T1b u=ay T u)->(p=b->evX T1b x=some (.bool q))->k ((d,.bool (mrg b p q))::T)->AR P K ([dO g' t b d x]++rest) L T1b:=λ{T1b} p q hp hT hq hk=>by
    have hv:au T1b L (.pick (.tmp t) (if b then x else .av (.bool true)) (if b then .av (.bool false)else x))=some (True,.bool (mrg b p q),L):=by have ht':ay T1b t=some (.bool p):=(by rw[hT t htD htb];exact hp);cases b<;>cases p<;>simp[au,evX,ht',mrg]<;>exact hq rfl
    have hqv:AQv P (dO g' t b d x) T1b L (.bool (mrg b p q)):=by simp only[AQv,dO,hv,and_self]
    have hq:AQ P (dO g' t b d x) T1b L (.bool (mrg b p q)):=by
     unfold AQ;cases g with
     |none=>simp only[dO,hg'];exact hqv
     | some g1 =>
       obtain⟨t1,b1⟩:=g1;have h1:=hx _ rfl;simp only[dO,hg'];rw[show ay T1b t1=some (.bool b1)by rw[hT t1 h1.1 (by simpa using hgb)];exact h1.2];simp;exact hqv
    refine Ue hq (hK ((d,.bool (mrg b p q))::T) _ hk (λu hu=>?_) λu hu=>?_)
    .simp only[ajx,not_or]at hu;simp only[dO,cB,ay];split
     .rfl
     .exact hT u hu.1 hu.2
    .simp only[cM,ajI]at hu;simp only[ay];rw[if_neg (Ne.symm hu)]
   rcases hp:ay T t with _|u
   .rw[hp]at h;exact h.elim
   rw[hp]at h;cases u<;>try exact h.elim
   rename_i p;obtain⟨q,hq,hk⟩:=h;by_cases e:p=b
   .subst e;refine X2 body hb (λg1 e=>by cases e;exact⟨htD,hp⟩) (λu hu=>hfr' u (Q5 body u hu)) ha (hq rfl) λTb T1b hxb hab hTb=>fin p q hp (λu h1 h2=>?_) (λ_=>?_) hk
    .rw[hab u (by simp only[ajx,not_or];exact⟨h1,λhm=>h2 (Q5 body u hm)⟩)];exact hTb u λhm=>h2 (WK body u hm)
    .have hxb':evX Tb x=some (.bool q):=hxb;rw[<- hxb'];cases x with
     |av a=>rfl
     |tmp t'=>exact hab t' (by have:=hxD t' (by simp[Opd.tmps]);simpa using this)
   .have:p = !b:=agA e;refine VS body hb (.inl (by show ay T1 t=_;rw[ha t htD,hp,this])) amN λT1b h1 _=>fin p q hp (λu h2 h3=>?_) (λe'=>absurd e' e) hk
    rw[h1 u h3,ha u h2]
theorem X2(l:List SOp){g:Option (Nat×Bool)}{seen D:List Nat}{rest:List aw}{T T1:Tm}{k:Tm->Prop}(hok:okG g seen D l=true)(hx:∀g1,g=some g1->g1.1∉D/\ay T g1.1=some (.bool g1.2))(hfr:∀d∈gds l,ay T d=none)(ha:Agr D T T1)(h:GL P L l k T)(hK:∀T' T1',k T'->Agr (D++gds l) T' T1'->(∀t,t∉QU l->ay T' t=ay T t)->AR P K rest L T1'):AR P K (SOp.flatL l++rest) L T1:=by
 cases l with
 | nil =>
   rw[GL]at h;exact hK T T1 h (by simpa[gds]using ha) (λ_ _=>rfl)
 | cons s r =>
   simp only[okG,ajv,ajE,akb,aku,decide_eq_false_iff_not]at hok;obtain⟨⟨h1,h2'⟩,h3⟩:=hok;have h2:∀d∈cM s,d∉gds r:=λd hd=>(h2' d hd).1.2
   simp only[SOp.flatL,ajD];rw[GL]at h;rw[Q6]at hfr hK;refine ahW s h1 hx (λd hd=>hfr d (ako _ hd)) ha h λT' T1' hk e1 e2=>?_
   refine X2 r h3 (λg1 hg=>?_) (λd hd=>?_) e1 hk λT'' T1'' hk' f1 f2=>hK T'' T1'' hk' (by rwa[ajD]at f1) λt ht=>?_
   .subst hg;have hne:g1.1∉cM s:=λhm=>by have:=(h2' _ hm).2;simp at this
    have hng:g1.1∉gds [s]:=λhm=>by
     cases s with
     |op o=>simp[gds]at hm
     | grp g' t b body d x =>
       simp only[Xu,ajv,akb,aku,decide_eq_false_iff_not]at h1;simp only[gds,aj6]at hm;exact h1.1.1.2 hm
    have h4:=hx g1 rfl;exact⟨by simp only[ajx,not_or];exact⟨h4.1,hng⟩,by rw[e2 _ hne];exact h4.2⟩
   .rw[e2 d (λhm=>h2 d hm hd)];exact hfr d (akO _ hd)
   .simp only[QU,aj5,ajx,not_or]at ht;rw[f2 t ht.2,e2 t ht.1]
end
theorem YK:∀(l:List SOp){g:Option (Nat×Bool)}{seen D:List Nat},okG g seen D l=true->∀t∈QU l,t∉D++gds l
 |[],_,_,_,_,t,h=>by simp[QU]at h
 | s::r,g,seen,D,hok,t,h=>by
   simp only[okG,ajv,ajE,akb,aku,decide_eq_false_iff_not]at hok;obtain⟨⟨h1,h2⟩,h3⟩:=hok;rw[Q6];simp only[QU,aj5,ajx]at h;rcases h with h|h
   .have:=(h2 t h).1;simp only[ajx,not_or]at this⊢;exact⟨this.1.1,this.1.2,this.2⟩
   .have:=YK r h3 t h;simp only[ajx,not_or]at this⊢;exact⟨this.1.1,this.1.2,this.2⟩
theorem acR{l:List SOp}{T:Tm}{k:Tm->Prop}(hok:okG none [] [] l=true)(hfr:Fr (gds l) T)(h:GL P L l k T):AR P (λT1 L'=>L'=L/\∃T',k T'/\∀t v,ay T' t=some v->ay T1 t=some v) (SOp.flatL l) L T:=by
 have:=X2 (K:=λT1 L'=>L'=L/\∃T',k T'/\∀t v,ay T' t=some v->ay T1 t=some v) (rest:=[]) l hok (λ_ e=>by cases e) hfr (T1:=T) (λ_ _=>rfl) h λT' T1' hk e1 e2=>ail ⟨rfl,T',hk,λt v hv=>?_⟩
 simpa using this;by_cases hm:t∈gds l;by_cases ho:t∈QU l;exact absurd (by simpa using hm) (YK l hok t ho);rw[e2 t ho,hfr t hm]at hv;cases hv;rw[e1 t (by simpa using hm)];exact hv
end
section
variable {P:Program}{r:Option Nat}{w0:World}{S0:SB}{N:Nat}
inductive bq where
 |skip
 |sreg (sops:List SOp) (mask:List Bool)
 |sdreg (sops:List SOp) (kds:List Kd) (mask:List Bool)
 |dregM (qk:List (aw×Kd)) (ts:List aw) (mask:List Bool)
 |region (ops:List aw)
 |dregion (qk:List (aw×Kd)) (ts:List aw)
 |seq (a b:bq)
 |cond (c:Opd) (a b:bq)
 |block (id:Nat) (c:bq)
 |loop (c:bq)
 |exit (id:Nat)
 |ret
 |rangeF (g:Opd) (ps:List Nat) (x y:bq)
 |scope (c:bq)
 |label
 deriving Inhabited
def bq.raw:bq->bq
 |.sreg s _=>.region (SOp.flatL s)
 |.dregM qk ts _=>.dregion qk ts
 |.sdreg s kds _=>.dregion ((SOp.flatL s).zip kds) ((SOp.flatL s).drop kds.length)
 |.seq a b=>.seq a.raw b.raw
 |.cond c a b=>.cond c a.raw b.raw
 |.block id c=>.block id c.raw
 |.loop c=>.loop c.raw
 |.rangeF g ps x y=>.rangeF g ps x.raw y.raw
 |.scope c=>.scope c.raw
 |c=>c
def bq.hasRF:bq->Bool
 |.seq a b=>a.hasRF ||b.hasRF
 |.cond _ a b=>a.hasRF ||b.hasRF
 |.block _ c=>c.hasRF
 |.loop c=>c.hasRF
 |.scope c=>c.hasRF
 |.rangeF ..=>true
 |_=>false
theorem bq.hasRF_raw:∀c:bq,c.raw.hasRF=c.hasRF
 |.seq a b=>by simp[bq.raw,bq.hasRF,hasRF_raw a,hasRF_raw b]
 |.cond c a b=>by simp[bq.raw,bq.hasRF,hasRF_raw a,hasRF_raw b]
 |.block _ c=>by simp[bq.raw,bq.hasRF,hasRF_raw c]
 |.loop c=>by simp[bq.raw,bq.hasRF,hasRF_raw c]
 |.scope c=>by simp[bq.raw,bq.hasRF,hasRF_raw c]
 |.rangeF ..=>rfl
 |.skip|.label|.sreg .. |.sdreg .. |.dregM .. |.region .. |.dregion .. |.exit .. |.ret=>rfl
def LOp.effB:LOp->Bool
 |.alloc _|.box _|.s2bO _|.s2bG _|.rangeS _|.nextS _|.store .. |.mkslice .. |.app .. |.appz .. |.copy .. |.clear .. |.mkmap|.mset .. |.mdel .. |.mrange _|.mnext _=>true
 |.bslice own ..=>own
 |_=>false
def aiB(own:Nat->Nat)(i:Nat)(o:aw):Bool:=o.op.effB ||own i == 3
def ahH(eff:Nat->aw->Bool)(tbl:List Nat)(es:List Nat)(i:Nat)(o:aw):Kd :=
 if o.op.pureB=true then .pure else if eff i o=true then .eff
 else .read (es.filter λe=>decide (e<i) && !(tbl.getD i 0).testBit e).length (es.filter λe=>decide (i<e) && !(tbl.getD e 0).testBit i).length
def XD(eff:Nat->aw->Bool)(tbl:List Nat)(qs:List aw):List (aw×Kd):=
 let es:=(qs.zipIdx.filter λp=>eff p.2 p.1).map (·.2)
 qs.zipIdx.map λp=>(p.1,ahH eff tbl es p.2 p.1)
theorem YW(eff:Nat->aw->Bool)(tbl:List Nat)(qs:List aw):(XD eff tbl qs).map (·.1)=qs:=by simp[XD,ajS,Function.comp_def]
def aK(P:Program)(N:Nat)(own:Nat->Nat->Nat):Code->Option bq
 |.skip=>some .skip
 |.region id ops false=>(b7 P N (own id) ops (List.range ops.size)).map .region
 | .region id ops true=>(b7 P N (own id) ops (List.range ops.size)).bind fun los =>
   let n:=W9 (ml ops.toList []) 0 los.length
   let qk:=XD (aiB (own id)) (ml ops.toList []) (los.take n)
   if(Jx ops los n&&decide (n<=los.length)&&P.follows .mixedOrders&&RI (ml ops.toList []) qk)=true then some (.dregion qk (los.drop n))else none
 | .seq a b=>match aK P N own a,aK P N own b with
   |some x,some y=>some (.seq x y)
   |_,_=>none
 | .cond c a b=>match bJ c,aK P N own a,aK P N own b with
   |some c,some x,some y=>some (.cond c x y)
   |_,_,_=>none
 |.block id c=>(aK P N own c).map (.block id)
 |.loop c=>(aK P N own c).map .loop
 |.exit id=>some (.exit id)
 |.ret=>some .ret
 |.scope c=>(aK P N own c).map .scope
 |.label _=>some .label
 | .rangeFunc g ps x y=>match bJ g,aK P N own x,aK P N own y with
   |some g,some x,some y=>if(!x.hasRF && !y.hasRF&&ps.all λp=>decide (p<N))=true then some (.rangeF g ps.toList x y)else none
   |_,_,_=>none
 |_=>none
structure Bs(w0:World)(S0:SB)(w1:World)(S1:SB):Prop where
 size:w0.heap.size<=w1.heap.size
 fr:∀k,k<w0.heap.size->¬S0 k->¬S1 k/\w1.heap[k]?=w0.heap[k]?
 sub:∀k,S1 k->S0 k\/w0.heap.size<=k
 os:w1.os=w0.os
 tape:w1.tape=w0.tape
 output:w1.output=w0.output
 low:S1.B=S0.B
theorem Bs.refl(w0:World)(S0:SB):Bs w0 S0 w0 S0:=⟨ajs _,λ_ _ h=>⟨h,rfl⟩,λ_ h=>.inl h,rfl,rfl,rfl,rfl⟩
theorem Bs.trans{w0 w1 w2:World}{S0 S1 S2:SB}(h:Bs w0 S0 w1 S1)(k:Bs w1 S1 w2 S2):Bs w0 S0 w2 S2 :=
 ⟨ajU h.size k.size,λi hi hs=>by
  obtain⟨h1,h2⟩:=h.fr i hi hs;obtain⟨h3,h4⟩:=k.fr i (akK hi h.size) h1;exact⟨h3,h4.trans h2⟩,λi hi=>by
  rcases k.sub i hi with h1|h1;exact h.sub i h1;exact .inr (ajU h.size h1),k.os.trans h.os,k.tape.trans h.tape,k.output.trans h.output,k.low.trans h.low⟩
theorem Bs.rel{w0 w1 w:World}{S0 S1:SB}(h:Bs w0 S0 w1 S1){E:Env}{L:List Blk}(hR:Rel w1 S1 E L w):Rel w0 S0 E L w :=
 ⟨hR.mem,hR.blk,hR.fresh,λi k c h1 h2 h3=>⟨(hR.own i k c h1 h2 h3).1,by
  rcases(hR.own i k c h1 h2 h3).2 with h4|h4;exact h.sub _ h4;exact .inr (ajU h.size h4)⟩,hR.inj,hR.tkfresh,λi n sz t k h1 h2 h3=>⟨(hR.tkown i n sz t k h1 h2 h3).1,by
  rcases(hR.tkown i n sz t k h1 h2 h3).2 with h4|h4;exact h.sub _ h4;exact .inr (ajU h.size h4)⟩,hR.tkloc,hR.tkinj,λk hk hs=>by
  obtain⟨h1,h2⟩:=h.fr k hk hs;exact(hR.frame k (akK hk h.size) h1).trans h2,ajU h.size hR.size,hR.os.trans h.os,hR.tape.trans h.tape,hR.output.trans h.output,hR.glob,hR.gsz⟩
theorem Rel.ownSub{w0 w:World}{S0:SB}{E:Env}{L:List Blk}(hR:Rel w0 S0 E L w)(k:Nat)(hk:Ro E L k):S0 k\/w0.heap.size<=k:=by rcases hk with⟨i,b,c,h1,h2,h3,rfl⟩|⟨i,n,sz,t,c,h1,h2,h3,rfl⟩;exact(hR.own i b c h1 h2 h3).2;exact(hR.tkown i n sz t c h1 h2 h3).2
theorem Rel.bs{w0 w:World}{S0:SB}{E:Env}{L:List Blk}(hR:Rel w0 S0 E L w):Bs w0 S0 w ⟨Ro E L,S0.B⟩:=
 ⟨hR.size,λk hk hs=>⟨λho=>by rcases hR.ownSub k ho with h1|h1;exact hs h1;omega,hR.frame k hk hs⟩,hR.ownSub,hR.os,hR.tape,hR.output,rfl⟩
theorem Zy.bs{w0 w1:World}{S0 S1:SB}{ds:List Deferred}(h:Zy w0 S0 ds)(b:Bs w0 S0 w1 S1):Zy w1 S1 ds:=⟨by rw[b.low];exact ajU h.1 b.size,h.2.1,λd hd=>by obtain⟨D,h1,h0,h2,h3,h4⟩:=h.2.2 d hd;obtain⟨h5,h6⟩:=b.fr D h2 h3;exact⟨D,h1,by rw[b.low];exact h0,akK h2 b.size,h5,h6.trans h4⟩⟩
def AW(P:Program)(N:Nat)(own:Nat->Nat->Nat)(lc:bq)(Q:Exit->Tm->List Blk->Prop)(T:Tm)(L:List Blk):Prop :=
 ∀c,aK P N own c=some lc.raw->∀(r:Option Nat),(lc.hasRF=true->r=none)->∀(w0:World) (S0:SB) (E:Env) (a:Act) (w:World),St w0 S0 N E T L a w ->
  c.wpIn (fM r) 0 P (λe a' w'=>∃w1 S1 E' T' L',Bs w0 S0 w1 S1/\E.le E'/\Q e T' L'/\St w1 S1 N E' T' L' a' w') a w
variable {own:Nat->Nat->Nat}{Q:Exit->Tm->List Blk->Prop}{T:Tm}{L:List Blk}
theorem AW.mono{lc:bq}{Q':Exit->Tm->List Blk->Prop}(h:AW P N own lc Q T L)(hq:∀e T L,Q e T L->Q' e T L):AW P N own lc Q' T L:=λc hc r hr w0 S0 E a w hst =>
 wpIn_mono (h c hc r hr w0 S0 E a w hst) λe a' w' ⟨w1,S1,E',T',L',b,h1,h2,h3⟩=>⟨w1,S1,E',T',L',b,h1,hq _ _ _ h2,h3⟩
theorem AW.weakT{lc:bq}{T':Tm}(h:AW P N own lc Q T' L)(hT:∀t v,ay T' t=some v->ay T t=some v):AW P N own lc Q T L:=λc hc r hr w0 S0 E a w hst =>
 h c hc r hr w0 S0 E a w (hst.weak hT rfl λ_ _ e=>.inr e)
theorem p9{c:Code}{x:bq}(hc:aK P N own c=some x):match x with
  |.skip=>c=.skip
  |.exit id=>c=.exit id
  |.ret=>c=.ret
  |.label=>∃l,c=.label l
  |.seq x y=>∃c1 c2,c=.seq c1 c2/\aK P N own c1=some x/\aK P N own c2=some y
  |.cond o x y=>∃c0 c1 c2,c=.cond c0 c1 c2/\bJ c0=some o/\aK P N own c1=some x/\aK P N own c2=some y
  |.block id x=>∃c1,c=.block id c1/\aK P N own c1=some x
  |.loop x=>∃c1,c=.loop c1/\aK P N own c1=some x
  |.scope x=>∃c1,c=.scope c1/\aK P N own c1=some x
  |.region ops=>∃id os,c=.region id os false/\b7 P N (own id) os (List.range os.size)=some ops
  |.dregion qk ts=>∃id os los n,c=.region id os true/\b7 P N (own id) os (List.range os.size)=some los/\Jx os los n=true/\n<=los.length/\P.follows .mixedOrders=true/\qk.map (·.1)=los.take n/\ts=los.drop n/\RI (ml os.toList []) qk=true
  |_=>True:=by
 cases c with
 |skip=>cases hc;rfl
 |ret=>cases hc;rfl
 |exit id=>cases hc;rfl
 |label l=>cases hc;exact⟨_,rfl⟩
 |goto l=>cases hc
 |refuse s=>cases hc
 |block id c=>simp only[aK,ajW]at hc;obtain⟨_,h1,rfl⟩:=hc;exact⟨_,rfl,h1⟩
 |loop c=>simp only[aK,ajW]at hc;obtain⟨_,h1,rfl⟩:=hc;exact⟨_,rfl,h1⟩
 |scope c=>simp only[aK,ajW]at hc;obtain⟨_,h1,rfl⟩:=hc;exact⟨_,rfl,h1⟩
 | seq a b => simp only [aK] at hc; split at hc <;> try (cases hc; done)
              rename_i h1 h2;cases hc;exact⟨_,_,rfl,h1,h2⟩
 | cond k a b => simp only [aK] at hc; split at hc <;> try (cases hc; done)
                 rename_i h1 h2 h3;cases hc;exact⟨_,_,_,rfl,h1,h2,h3⟩
 | rangeFunc f ps a b =>
   simp only[aK]at hc
   repeat' split at hc
   all_goals cases hc
   trivial
 | region id ops draw =>
   cases draw
   .simp only[aK,ajW]at hc;obtain⟨_,h1,rfl⟩:=hc;exact⟨_,_,rfl,h1⟩
   .simp only[aK,alx]at hc;obtain⟨los,h1,hc⟩:=hc;split at hc
    .rename_i hb;simp only[ajv,decide_eq_true_eq]at hb;cases hc;exact⟨_,_,los,_,rfl,h1,hb.1.1.1,hb.1.1.2,hb.1.2,YW _ _ _,rfl,hb.2⟩
    .cases hc
theorem aek{c:Code}(hc:aK P N own c=some .skip):c=.skip:=p9 hc
theorem aem{c:Code}{id:Nat}(hc:aK P N own c=some (.exit id)):c=.exit id:=p9 hc
theorem agm{c:Code}(hc:aK P N own c=some .ret):c=.ret:=p9 hc
theorem abm{c:Code}{x y:bq}(hc:aK P N own c=some (.seq x y)):∃c1 c2,c=.seq c1 c2/\aK P N own c1=some x/\aK P N own c2=some y:=p9 hc
theorem YY{c:Code}{o:Opd}{x y:bq}(hc:aK P N own c=some (.cond o x y)):∃c0 c1 c2,c=.cond c0 c1 c2/\bJ c0=some o/\aK P N own c1=some x/\aK P N own c2=some y:=p9 hc
theorem aco{c:Code}{id:Nat}{x:bq}(hc:aK P N own c=some (.block id x)):∃c1,c=.block id c1/\aK P N own c1=some x:=p9 hc
theorem ael{c:Code}{x:bq}(hc:aK P N own c=some (.loop x)):∃c1,c=.loop c1/\aK P N own c1=some x:=p9 hc
theorem Oi{c:Code}{ops:List aw}(hc:aK P N own c=some (.region ops)):∃id os,c=.region id os false/\b7 P N (own id) os (List.range os.size)=some ops:=p9 hc
theorem S4{c:Code}{qk:List (aw×Kd)}{ts:List aw}(hc:aK P N own c=some (.dregion qk ts)):∃id os los n,c=.region id os true/\b7 P N (own id) os (List.range os.size)=some los/\Jx os los n=true/\n<=los.length/\P.follows .mixedOrders=true/\qk.map (·.1)=los.take n/\ts=los.drop n/\RI (ml os.toList []) qk=true:=p9 hc
theorem iG{b:Frame}{a:Act}{k:List Item}{cs:List Frame}{w:World}{c:Code}:step P (lone (b.atR a (.code (.scope c)::k)) cs w)=.next (lone (b.atR a (.code c :: .inScope c::k)) cs w):=
 step_lone_go (by simp[stepG,stepG.exec,Frame.atR])
theorem V6{b:Frame}{a:Act}{k:List Item}{cs:List Frame}{w:World}{c:Code}:step P (lone (b.atR a (.inScope c::k)) cs w)=.next (lone (b.atR a k) cs w):=
 step_lone_go (by simp[stepG,stepG.exec,Frame.atR])
theorem ZI{F:Fence}{n:Nat}{a:Act}{w:World}{Q:Exit->Act->World->Prop}{c:Code}(h:c.wpIn F n P (Exit.noGoto Q) a w):(Code.scope c).wpIn F n P Q a w:=by
 intro b k cs hro hb hr;have h0:(lone (b.atR a (.code (.scope c)::k)) cs w).fenced P F:=fenced_calm hb hr rfl;obtain⟨e,a₁,w₁,hq,harr⟩:=h b (.inScope c::k) cs hro hb hr;cases e with
 |normal=>exact⟨.normal,a₁,w₁,hq,.head h0 iG (StepsIn.trans harr (.one (fenced_calm hb hr rfl) V6))⟩
 | exit id =>
   have hx:exitTo id (.inScope c::k)=exitTo id k:=(by simp[exitTo]);exact⟨.exit id,a₁,w₁,hq,λk' hk=>.head h0 iG (harr.1 k' (by rw[hx];exact hk)),
    λhr' hk=>let ⟨k₁,h1,h2⟩:=harr.2 hr' (by rw[hx];exact hk);⟨k₁,h1,.head h0 iG h2⟩⟩
 |goto l=>exact hq.elim
 |ret=>exact⟨_,a₁,w₁,hq,.of_steps (.one h0 iG) harr⟩
 |panic ch=>exact⟨_,a₁,w₁,hq,.of_steps (.one h0 iG) harr⟩
 |outgrown=>exact⟨_,a₁,w₁,hq,.of_steps (.one h0 iG) harr⟩
theorem bz(h:Q .normal T L):AW P N own .skip Q T L:=λc hc r hr w0 S0 E a w hst=>by obtain rfl:=aek hc;exact wpIn_skip ⟨w0,S0,E,T,L,.refl _ _,.refl E,h,hst⟩
theorem bH{id:Nat}(h:Q (.exit id) T L):AW P N own (.exit id) Q T L:=λc hc r hr w0 S0 E a w hst=>by obtain rfl:=aem hc;exact wpIn_exit ⟨w0,S0,E,T,L,.refl _ _,.refl E,h,hst⟩
theorem cI(h:Q .ret T L):AW P N own .ret Q T L:=λc hc r hr w0 S0 E a w hst=>by obtain rfl:=agm hc;exact wpIn_ret ⟨w0,S0,E,T,L,.refl _ _,.refl E,h,hst⟩
def Zw(K:Tm->List Blk->Prop)(Q:Exit->Tm->List Blk->Prop):Exit->Tm->List Blk->Prop
 |.normal,T,L=>K T L
 |e,T,L=>Q e T L
theorem cA{x y:bq}(h:AW P N own x (Zw (AW P N own y Q) Q) T L):AW P N own (.seq x y) Q T L:=λc hc r hr w0 S0 E a w hst=>by
 obtain⟨c1,c2,rfl,h1,h2⟩:=abm hc;refine wpIn_seq (wpIn_mono (h c1 h1 r (λe=>hr (by simp[bq.hasRF,e])) w0 S0 E a w hst) λe a' w' ⟨w1,S1,E',T',L',b,g1,g2,g3⟩=>?_);cases e
 case normal=>exact wpIn_mono (g2 c2 h2 r (λe=>hr (by simp[bq.hasRF,e])) w1 S1 E' a' w' g3) λe a'' w'' ⟨w2,S2,E'',T'',L'',b2,k1,k2,k3⟩=>⟨w2,S2,E'',T'',L'',b.trans b2,g1.trans k1,k2,k3⟩
 all_goals exact⟨w1,S1,E',T',L',b,g1,g2,g3⟩
theorem br{x:Opd}{y z:bq}{b:Bool}(hx:evX T x=some (.bool b))(ht:b=true->AW P N own y Q T L)(hf:b=false->AW P N own z Q T L):AW P N own (.cond x y z) Q T L:=λc hc r hr w0 S0 E a w hst=>by obtain⟨c0,c1,c2,rfl,h1,h2,h3⟩:=YY hc;have:=ao h1 hx hst.2.1;simp only[VR]at this;exact wpIn_cond_split this (λe=>ht e c1 h2 r (λe=>hr (by simp[bq.hasRF,e])) w0 S0 E a w hst) (λe=>hf e c2 h3 r (λe=>hr (by simp[bq.hasRF,e])) w0 S0 E a w hst)
def aaN(id:Nat)(Q:Exit->Tm->List Blk->Prop):Exit->Tm->List Blk->Prop
 |.exit id',T,L=>if id'=id then Q .normal T L else Q (.exit id') T L
 |e,T,L=>Q e T L
theorem aI{x:Opd}{y z:bq}(hx:evX T x=some .anyb)(ht:AW P N own y Q T L)(hf:AW P N own z Q T L):AW P N own (.cond x y z) Q T L:=λc hc r hr w0 S0 E a w hst=>by obtain⟨c0,c1,c2,rfl,h0,h1,h2⟩:=YY hc;have hv:=ao h0 hx hst.2.1;simp only[VR]at hv;obtain⟨b,hv⟩:=hv;exact wpIn_cond_split hv (λ_=>ht c1 h1 r (λe=>hr (by simp[bq.hasRF,e])) w0 S0 E a w hst) (λ_=>hf c2 h2 r (λe=>hr (by simp[bq.hasRF,e])) w0 S0 E a w hst)
theorem bh{id:Nat}{x:bq}(h:AW P N own x (aaN id Q) T L):AW P N own (.block id x) Q T L:=λc hc r hr w0 S0 E a w hst=>by
 obtain⟨c1,rfl,h1⟩:=aco hc;refine wpIn_block (wpIn_mono (h c1 h1 r (λe=>hr (by simp[bq.hasRF,e])) w0 S0 E a w hst) λe a' w' ⟨w1,S1,E',T',L',b,g1,g2,g3⟩=>?_);cases e
 case exit i =>
  simp only[aaN]at g2;simp only[Exit.inBlock];split at g2
  .rename_i e;rw[if_pos e];exact⟨w1,S1,E',T',L',b,g1,g2,g3⟩
  .rename_i e;rw[if_neg e];exact⟨w1,S1,E',T',L',b,g1,g2,g3⟩
 all_goals exact⟨w1,S1,E',T',L',b,g1,g2,g3⟩
def X6(Q:Exit->Tm->List Blk->Prop):Exit->Tm->List Blk->Prop
 |.goto _,_,_=>False
 |e,T,L=>Q e T L
theorem afe:X6 Q .normal T L=Q .normal T L:=rfl
theorem aff{i:Nat}:X6 Q (.exit i) T L=Q (.exit i) T L:=rfl
theorem afd:X6 Q .ret T L=Q .ret T L:=rfl
attribute [push_cast] afe aff afd
theorem bc{x:bq}(h:AW P N own x (X6 Q) T L):AW P N own (.scope x) Q T L:=λc hc r hr w0 S0 E a w hst=>by
 obtain⟨c1,rfl,h1⟩:=p9 hc;refine ZI (wpIn_mono (h c1 h1 r (λe=>hr (by simp[bq.hasRF,e])) w0 S0 E a w hst) λe a' w' ⟨w1,S1,E',T',L',b,g1,g2,g3⟩=>?_);cases e
 case goto l=>exact g2.elim
 all_goals exact⟨w1,S1,E',T',L',b,g1,g2,g3⟩
theorem bd(h:Q .normal T L):AW P N own .label Q T L:=λc hc r hr w0 S0 E a w hst=>by obtain⟨l,rfl⟩:=p9 hc;exact wpIn_label ⟨w0,S0,E,T,L,.refl _ _,.refl E,h,hst⟩
theorem XT(p:Nat->Prop):∀n,p n->∃m,p m/\∀k,p k->m<=k:=by
 intro n;induction n using Nat.strongRecOn with
 | _ n ih =>
   intro hn;by_cases h:∃k,k<n/\p k
   .obtain⟨k,h1,h2⟩:=h;exact ih k h1 h2
   .refine⟨n,hn,λk hk=>?_⟩;rcases ajT k n with h1|h1
    .exact absurd ⟨k,h1,hk⟩ h
    .exact h1
theorem St.draw{E:Env}{a:Act}{w:World}{T:Tm}{L:List Blk}(h:St w0 S0 N E T L a w)(n:Nat):St w0 S0 N E T L a {w with drawn:=n}:=⟨h.1.draw n,h.2⟩
theorem V3{qk:List (aw×Kd)}{ts:List aw}(h:AG P (ku P (Q .normal) ts) qk [L] [] T):AW P N own (.dregion qk ts) Q T L:=λc hc r hr w0 S0 E a w hst=>by
 obtain⟨id,os,los,n,rfl,h1,h2,h3,h4,h5,rfl,h6⟩:=S4 hc;refine wpIn_region_any h4 ?_;have hn:qk.length=n:=by have:=congrArg List.length h5;simp at this;omega
 exact Zq (w0:=w0) (S0:=S0) (L:=L) (T:=T) (Q:=λe a' w'=>∃w1 S1 E' T' L',Bs w0 S0 w1 S1/\E.le E'/\Q e T' L'/\St w1 S1 N E' T' L' a' w') (K:=Q .normal) (E0:=E) h1 h2 (by rw[h5,ak1]) hn h6 h (λE' T' L' a' w' e1 e2 e3=>⟨w0,S0,E',T',L',.refl _ _,e1,e2,e3⟩) a _ E (.refl E) (hst.draw _)
def ahp(mask:List Bool)(T:Tm):Bool:=(mask.zip T).all λp=>p.1 ||(ay (sel mask T) p.2.1).isNone
theorem Up:∀{mask:List Bool}{T:Tm}{t:Nat}{v:AV},(∀p∈mask.zip T,p.1=true\/p.2.1≠t)->ay (sel mask T) t=some v->ay T t=some v
 |[],T,t,v,_,h=>by rwa[aa3]at h
 |true::m,[],t,v,_,h=>by simp[sel,ay]at h
 |false::m,[],t,v,_,h=>by simp[sel,ay]at h
 | true::m,x::T,t,v,hm,h=>by
   obtain⟨k,u⟩:=x;rw[agZ]at h;simp only[ay]at h⊢;split
   .rename_i e;rw[if_pos e]at h;exact h
   .rename_i e;rw[if_neg e]at h;exact Up (λp hp=>hm p (by simp only[List.zip_cons_cons,ajM];exact .inr hp)) h
 | false::m,x::T,t,v,hm,h=>by
   obtain⟨k,u⟩:=x;rw[ag0]at h;have hk:k≠t:=by
    rcases hm (false,(k,u)) amN with h|h
    .cases h
    .exact h
   simp only[ay];rw[if_neg hk];exact Up (λp hp=>hm p (by simp only[List.zip_cons_cons,ajM];exact .inr hp)) h
theorem JY{mask:List Bool}{T:Tm}{t:Nat}{v:AV}(hb:ahp mask T=true)(h:ay (sel mask T) t=some v):ay T t=some v :=
 Up (λp hp=>by
  have:=ajE.1 hb p hp;rcases Bool.or_eq_true_iff.1 this with h1|h1;exact .inl h1;refine .inr λe=>?_
  rw[e,h]at h1;cases h1) h
def VY(mask:List Bool)(K:Tm->List Blk->Prop)(T:Tm)(L:List Blk):Prop:=ahp mask T=true/\K (sel mask T) L
theorem bC{mask:List Bool}{K:Tm->List Blk->Prop}{T:Tm}{L:List Blk}(h1:ahp mask T=true)(h2:K (sel mask T) L):VY mask K T L:=⟨h1,h2⟩
def frB(ds:List Nat)(T:Tm):Bool:=ds.all λd=>(ay T d).isNone
theorem bG{sops:List SOp}{mask:List Bool}(hf:(okS sops&&frB (gds sops) T)=true)(h:SL P sops (VY mask (Q .normal)) T L):AW P N own (.sreg sops mask) Q T L:=λc hc r hr w0 S0 E a w hst=>by obtain⟨id,os,rfl,h1⟩:=Oi hc;rw[ajv]at hf;refine wpIn_region (FB sops hf.1 h1 hst (λd hd=>?_) h λE' T' L' a' w' h2 h3 h4=>⟨w0,S0,E',sel mask T',L',.refl _ _,h2,h3.2,h4.weak (λt v hv=>JY h3.1 hv) rfl λ_ _ e=>.inr e⟩);have:=ajE.1 hf.2 d hd;simpa using this
def ah4(mask:List Bool)(K:Tm->List Blk->Prop)(L:List Blk)(T:Tm):Prop:=VY mask K T L
theorem agQ{mask:List Bool}{K:Tm->List Blk->Prop}{T:Tm}{L:List Blk}:ah4 mask K L T=VY mask K T L:=rfl
theorem ba{sops:List SOp}{kds:List Kd}{mask:List Bool}(hf:(okG none [] [] sops&&frB (gds sops) T&&decide (kds.length<=(SOp.flatL sops).length))=true)(h:GL P L sops (ah4 mask (Q .normal) L) T):AW P N own (.sdreg sops kds mask) Q T L:=λc hc r hr w0 S0 E a w hst=>by
 obtain⟨id,os,los,n,rfl,h1,h2,h3,h4,h5,h6,_⟩:=S4 hc;simp only[ajv,decide_eq_true_eq]at hf;obtain⟨⟨f1,f2⟩,f3⟩:=hf;have hlos:los=SOp.flatL sops:=by
  have e1:((SOp.flatL sops).zip kds).map (·.1)=(SOp.flatL sops).take kds.length:=by
   have key:∀(l:List aw) (m:List Kd),(l.zip m).map (·.1)=l.take m.length:=by
    intro l;induction l with
    |nil=>intro m;simp
    |cons o l ih=>intro m;cases m<;>simp[ih]
   exact key _ _
  rw[e1]at h5;rw[<- ak1 n los,<- h5,<- h6,ak1]
 have hlen:los.length=os.size:=by simpa using(xW h1).1
 refine wpIn_region_any h4 ?_;have hdraw:Jx os los los.length=true:=by simp only[Jx,ajv]at h2⊢;refine⟨h2.1,?_⟩;simp only[aaE,ajE,List.mem_range,akc,decide_eq_true_eq];exact λi hi=>.inl amM
 have har:=acR (P:=P) (L:=L) f1 (T:=T) (λd hd=>by have:=ajE.1 f2 d hd;simpa using this) h
 refine Zq (w0:=w0) (S0:=S0) (L:=L) (T:=T) (Q:=λe a' w'=>∃w1 S1 E' T' L',Bs w0 S0 w1 S1/\E.le E'/\Q e T' L'/\St w1 S1 N E' T' L' a' w') (E0:=E) (qk:=los.map λo=>(o,.read 0 0)) (ts:=[]) h1 hdraw (by simp[ajS,Function.comp_def]) amN ?_ (K:=λT1 L'=>L'=L/\∃T',ah4 mask (Q .normal) L T'/\∀t v,ay T' t=some v->ay T1 t=some v)
  ?_ (λE' T' L' a' w' e1 ⟨e2,T2,e3,e4⟩ e5=>?_) a _ E (.refl E) (hst.draw _)
 have hno:∀(l:List aw) (k:Nat),ef (l.map λo=>(o,Kd.read 0 0)) k=[]:=by
  intro l;induction l with
  |nil=>intro k;rfl
  |cons o l ih=>intro k;simp only[ajP,ef];exact ih _
 simp only[RI,hno,aj9,List.range_zero,aly,aj7,ajE];intro p hp;obtain⟨⟨o,kd⟩,i⟩:=p;have:kd=Kd.read 0 0:=by have:=List.fst_mem_of_mem_zipIdx hp;simp only[ajy]at this;obtain⟨o',_,e⟩:=this;cases e;rfl
 subst this;rfl;rw[hlos];exact har;subst e2;exact⟨w0,S0,E',sel mask T2,_,.refl _ _,e1,e3.2,e5.weak (λt v hv=>e4 t v (JY e3.1 hv)) rfl λ_ _ e=>.inr e⟩
theorem be{qk:List (aw×Kd)}{ts:List aw}{mask:List Bool}(h:AG P (ku P (VY mask (Q .normal)) ts) qk [L] [] T):AW P N own (.dregM qk ts mask) Q T L:=λc hc r hr w0 S0 E a w hst=>by
 have:=V3 (N:=N) (own:=own) (Q:=λe T' L'=>e=.normal/\VY mask (Q .normal) T' L') (L:=L) (T:=T) (qk:=qk) (ts:=ts) (P:=P) ?_ c hc r hr w0 S0 E a w hst;refine wpIn_mono this λe a' w' ⟨w1,S1,E',T',L',b,g1,⟨g2,g3⟩,g4⟩=>?_
 subst g2;exact⟨w1,S1,E',sel mask T',L',b,g1,g3.2,g4.weak (λt v hv=>JY g3.1 hv) rfl λ_ _ e=>.inr e⟩;have e:(λT' L'=>Exit.normal=Exit.normal/\VY mask (Q .normal) T' L')=VY mask (Q .normal):=by funext T' L';simp
 rw[e];exact h
theorem aU{ops:List aw}(h:ku P (Q .normal) ops T L):AW P N own (.region ops) Q T L:=λc hc r hr w0 S0 E a w hst=>by obtain⟨id,os,rfl,h1⟩:=Oi hc;exact wpIn_region (OI _ _ h1 hst h λE' T' L' a' w' h2 h3 h4=>⟨w0,S0,E',T',L',.refl _ _,h2,h3,h4⟩)
end
inductive aaO where
 |tmp (t:Nat)
 |cell (agg:Bool) (sz t:Nat)
 deriving Inhabited
structure aQ where
 ntmps:Nat
 code:bq
 res:List aaO
 deriving Inhabited
def aQ.raw(f:aQ):aQ:=⟨f.ntmps,f.code.raw,f.res⟩
def Oe(P:Program):List ResultVar->Option (List aaO)
 |[]=>some []
 |.tmp t::l=>(Oe P l).map (.tmp t::·)
 | .cell a t::l=>match ic P t,cL P t,Oe P l with
   |some g,some s,some m=>some (.cell g s a::m)
   |_,_,_=>none
def aR(P:Program)(own:Nat->Nat->Nat)(f:FuncId):Option aQ :=
 match P.funcs[f]? with
 |none=>none
 | some fn=>if (fn.name == "runtime.NumGoroutine")=true then none else match fn.body with
   |none=>none
   | some c=>match aK P fn.ntmps own c,Oe P fn.results.toList with
     |some lc,some rs=>some ⟨fn.ntmps,lc,rs⟩
     |_,_=>none
def Uu(T:Tm)(L:List Blk):List aaO->Option (Prop×List AV)
 |[]=>some (True,[])
 | .tmp t::l=>match ay T t,Uu T L l with
   |some v,some (c,m)=>some (c,v::m)
   |_,_=>none
 | .cell g sz t::l=>match (ay T t).bind (row L),Uu T L l with
   |some (r,off),some (c,m)=>if g then some (off+sz<=r.length/\c,.agg ((r.drop off).take sz)::m)else some (off<r.length/\c,r.getD off .undef::m)
   |_,_=>none
def Yy:List AV->AV
 |[v]=>v
 |l=>.tup l
def am(i:Nat):List AV->Tm
 |[]=>[]
 |a::l=>(i,a)::am (i+1) l
section
variable {P:Program}{w0:World}{S0:SB}{N:Nat}{E:Env}{L:List Blk}{w:World}{T:Tm}{a:Act}
theorem OZ:∀{rs:List ResultVar}{ls:List aaO}{c:Prop}{m:List AV},Oe P rs=some ls->Uu T L ls=some (c,m)->c->Rel w0 S0 E L w->TR E T a ->
  ∃vs,VRL E m vs/\(rs.mapM (m:=Sem) fun
   |.tmp t=>pure (a.tmps.getD t undef)
   |.cell x t=>do loadVar t (<- asAddr (a.tmps.getD x undef))).run P w=.ok vs w
 |[],ls,c,m,hl,he,hc,hR,hT=>by simp[Oe]at hl;subst hl;simp[Uu]at he;obtain⟨_,rfl⟩:=he;exact⟨[],by simp[VRL],amN⟩
 | .tmp t::rs,ls,c,m,hl,he,hc,hR,hT=>by
   simp only[Oe,ajW]at hl;obtain⟨ls',h1,rfl⟩:=hl;simp only[Uu]at he;split at he<;>try cases he
   rename_i v c' m' h2 h3;obtain⟨vs,h4,h5⟩:=OZ h1 h3 hc hR hT;exact⟨_::vs,⟨_,_,rfl,hT _ _ h2,h4⟩,by simp only[amj,ajB,aj2,ajC,h5]⟩
 | .cell x t::rs,ls,c,m,hl,he,hc,hR,hT=>by
   simp only[Oe]at hl;split at hl<;>try cases hl
   rename_i g s ls' hg hs h1;simp only[Uu]at he;split at he<;>try cases he
   rename_i r off c' m' h2 h3;rcases h6:ay T x with _|u
   .simp_all
   .simp only[h6,akV]at h2;have hv:=hT _ _ h6;obtain⟨b,o,hp,hcells⟩:=Rv hR h2 hv;have hAddr:(asAddr (a.tmps.getD x undef)).run P w=.ok ⟨b,o+off,none⟩ w:=(by rw[hp];rfl);cases g
    .obtain⟨rfl,rfl⟩:=he;obtain⟨vs,h4,h5⟩:=OZ h1 h3 hc.2 hR hT;obtain⟨y,h7,h8⟩:=hcells off r[off] (ajF hc.1);refine⟨y::vs,⟨_,_,rfl,by rw[ajO,ajF hc.1];exact h8,h4⟩,?_⟩;have hload:(loadVar t ⟨b,o+off,none⟩).run P w=.ok y w:=(by simp[loadVar,xw hg,h7]);simp_all
    .obtain⟨rfl,rfl⟩:=he;obtain⟨vs,h4,h5⟩:=OZ h1 h3 hc.2 hR hT;have hlen:((r.drop off).take s).length=s:=(by simp;omega);obtain⟨cs,h7,h8⟩:=SZ (P:=P) (w:=w) (b:=b) (o:=o+off) (l:=(r.drop off).take s) hg (by rw[hlen];exact hs) (λj a ha=>by have hj:j<s:=(by have:=(ajr.1 ha).1;omega);rw[akj hj,aki]at ha;have:=hcells _ _ ha;rwa[<- akD]at this)
     refine⟨.agg ⟨cs⟩::vs,⟨_,_,rfl,⟨cs,rfl,h7⟩,h4⟩,?_⟩;simp_all
theorem adO{m:List AV}{vs:List Value}(h:VRL E m vs):VR E (Yy m) (if h:vs.length=1 then vs[0]else .tuple ⟨vs⟩):=by
 have hl:=h.length;by_cases h1:vs.length=1
 match m,vs,h,hl,h1 with
 | [x],[y],h,_,_ =>
   obtain⟨_,_,⟨rfl,rfl⟩,h2,_⟩:=h;exact h2
 rw[dif_neg h1];have:Yy m=.tup m:=by
  match m,hl with
  |[],_=>rfl
  |[x],hl=>simp at hl;exact absurd hl h1
  |_::_::_,_=>rfl
 rw[this];exact⟨vs,rfl,h⟩
theorem UV:∀{args:List AV}{i t:Nat}{v:AV},ay (am i args) t=some v->i<=t/\args[t-i]?=some v
 |[],i,t,v,h=>by simp[am,ay]at h
 | x::args,i,t,v,h=>by
   simp only[am,ay]at h;split at h
   .simp[*]
   .rename_i e;have:=UV h
    grind
def Fin(L0:List Blk)(r:AV)(L:List Blk)(Q:AV->List Blk->Prop):Prop :=
 ∀(w0:World) (S0:SB) (E0 E:Env) (w:World) (v:Value),E0.le E->(∀i,L0.length<=i->E0.loc i=none/\E0.tok i=none)->(∀k∈L0,k.refs (λi=>decide (i<L0.length))=true) ->
  Rel w0 S0 E L w->VR E r v->∃E' av L',E0.le E'/\Q av L'/\VR E' av v/\Rel w0 S0 E' L' w
mutual
theorem VR.refs{n:Nat}(hn:∀i,n<=i->E.loc i=none)(ht:∀i,n<=i->E.tok i=none):∀(a:AV) (v:Value),VR E a v->a.refs (λi=>decide (i<n))=true
 |.undef,_,_=>rfl
 |.bool _,_,_=>rfl
 |.anyb,_,_=>rfl
 |.int _ _,_,_=>rfl
 |.str _,_,_=>rfl
 |.nilptr,_,_=>rfl
 |.gptr _ _,_,_=>rfl
 | .ptr i off,v,r=>by
   simp only[VR]at r;obtain⟨c,h,_⟩:=r;simp only[AV.refs,decide_eq_true_eq];rcases ajT i n with h1|h1
   .exact h1
   .rw[hn i h1]at h;cases h
 |.iptr l off,v,r=>by simp only[VR]at r;obtain⟨b,o,_,h⟩:=r;exact VRC.refs hn ht l b o h
 |.nilsl,_,_=>rfl
 | .sl l m cap,v,r=>by
   simp only[VR]at r;obtain⟨p,c,_,_,_,h⟩:=r;rcases h with⟨_,_,_,rfl⟩|⟨b,o,_,h⟩
   .rfl
   .exact VRC.refs hn ht l b o h
 | .gsl l m i sz,v,r=>by
   simp only[VR]at r;obtain⟨p,c,_,_,_,h,t,h2,_⟩:=r;simp only[AV.refs,decide_eq_true_eq,ajv];refine⟨?_,?_⟩
   .rcases ajT i n with h1|h1
    .exact h1
    .rw[ht i h1]at h2;cases h2
   .rcases h with⟨_,_,_,rfl⟩|⟨b,o,_,h⟩
    .rfl
    .exact VRC.refs hn ht l b o h
 | .lsl i off len cap sz,v,r=>by
   simp only[VR]at r;obtain⟨c,rc,d,h,_⟩:=r;simp only[AV.refs,decide_eq_true_eq];rcases ajT i n with h1|h1
   .exact h1
   .rw[hn i h1]at h;cases h
 |.nilmap,_,_=>rfl
 | .lmap i,v,r=>by
   simp only[VR]at r;obtain⟨c,h,_⟩:=r;simp only[AV.refs,decide_eq_true_eq];rcases ajT i n with h1|h1
   .exact h1
   .rw[hn i h1]at h;cases h
 | .yld i,v,r=>by
   simp only[VR]at r;obtain⟨c,h,_⟩:=r;simp only[AV.refs,decide_eq_true_eq];rcases ajT i n with h1|h1
   .exact h1
   .rw[hn i h1]at h;cases h
 |.func f caps,v,r=>by simp only[VR]at r;obtain⟨vs,_,h⟩:=r;exact VRL.refs hn ht caps vs h
 |.nilfunc,_,_=>rfl
 |.nilif,_,_=>rfl
 |.iface t x,v,r=>by simp only[VR]at r;obtain⟨y,_,h⟩:=r;exact VR.refs hn ht x y h
 |.agg l,v,r=>by simp only[VR]at r;obtain⟨vs,_,h⟩:=r;exact VRL.refs hn ht l vs h
 |.tup l,v,r=>by simp only[VR]at r;obtain⟨vs,_,h⟩:=r;exact VRL.refs hn ht l vs h
theorem VRL.refs{n:Nat}(hn:∀i,n<=i->E.loc i=none)(ht:∀i,n<=i->E.tok i=none):∀(l:List AV) (vs:List Value),VRL E l vs->AV.refsL (λi=>decide (i<n)) l=true
 |[],_,_=>rfl
 |a::l,vs,r=>by simp only[VRL]at r;obtain⟨x,xs,_,h1,h2⟩:=r;simp only[AV.refsL,ajv];exact⟨VR.refs hn ht a x h1,VRL.refs hn ht l xs h2⟩
theorem VRC.refs{n:Nat}(hn:∀i,n<=i->E.loc i=none)(ht:∀i,n<=i->E.tok i=none):∀(l:List AV) (b o:Nat),VRC E l b o->AV.refsL (λi=>decide (i<n)) l=true
 |[],_,_,_=>rfl
 |a::l,b,o,r=>by simp only[VRC]at r;obtain⟨⟨x,_,h1⟩,h2⟩:=r;simp only[AV.refsL,ajv];exact⟨VR.refs hn ht a x h1,VRC.refs hn ht l b (o+1) h2⟩
end
theorem aE.refs{n:Nat}(hn:∀i,n<=i->E.loc i=none)(ht:∀i,n<=i->E.tok i=none):∀{l:List (AV×AV×Nat)}{es:List MapEntry},aE E l es->(l.all λe=>e.1.refs (λi=>decide (i<n))&&e.2.1.refs (λi=>decide (i<n)))=true
 |[],_,_=>rfl
 |(k,x,b)::l,es,r=>by simp only[aE]at r;obtain⟨e,t,_,h1,h2,_,h3⟩:=r;simp only[akL,ajv];exact⟨⟨VR.refs hn ht _ _ h1,VR.refs hn ht _ _ h2⟩,aE.refs hn ht h3⟩
theorem Rel.refs(h:Rel w0 S0 E L w):∀k∈L,k.refs (λi=>decide (i<L.length))=true:=λk hk=>by
 obtain⟨i,hi⟩:=alm.1 hk;have hb:=h.blk i k hi;cases k<;>simp only[bS]at hb;rfl;obtain⟨c,cs,ty,fr,_,_,_,_,h5,_⟩:=hb;refine AV.refsL_iff.2 λa ha=>?_
 obtain⟨j,hj⟩:=alm.1 ha;obtain⟨v,_,hv⟩:=h5 j a hj;exact VR.refs h.fresh h.tkfresh _ _ hv;obtain⟨c,rs,_,_,h3⟩:=hb;exact aE.refs h.fresh h.tkfresh h3;rename_i m _ _ _;obtain⟨c,q,_,_,_,h4⟩:=hb;cases m with
 |none=>rfl
 | some j =>
   obtain⟨d,g1,_⟩:=h4;simp only[Blk.refs,decide_eq_true_eq];rcases ajT j L.length with h5|h5
   .omega
   .rw[h.fresh j h5]at g1;cases g1
 rfl;obtain⟨c,cs,ty,fr,_,_,_,_,h5,_⟩:=hb;refine AV.refsL_iff.2 λa ha=>?_
 obtain⟨j,hj⟩:=alm.1 ha;obtain⟨v,_,hv⟩:=h5 j a hj;exact VR.refs h.fresh h.tkfresh _ _ hv;rfl;obtain⟨c,D,tm,_,_,_,_,h5⟩:=hb;simp only[Blk.refs,ajE];rintro⟨t,u⟩ _;rcases hl:ay _ t with _|v;rfl;simpa using VR.refs h.fresh h.tkfresh _ _ (h5 t v hl)
def aij(res:List aaO)(L0:List Blk)(Q:AV->List Blk->Prop)(e:Exit)(T:Tm)(L':List Blk):Prop :=
 (e=.normal\/e=.ret)/\∃c rs,Uu T L' res=some (c,rs)/\c/\Fin L0 (Yy rs) L' Q
theorem Rel.shut{w0 w:World}{S0:SB}{E:Env}{L:List Blk}(h:Rel w0 S0 E L w){D:Nat}(hD:w0.heap.size<=D)(hno:¬Ro E L D)(ho:w.heap[D]?=some (.deferred (some []))):Rel w0 S0 E L (w.putObj D (.deferred none)):=by
 have same:∀k,k≠D->(w.putObj D (.deferred none)).heap[k]?=w.heap[k]?:=λk hk=>al3 hk
 refine⟨λb o v hv=>?_,λi k hk=>?_,h.fresh,h.own,h.inj,h.tkfresh,h.tkown,h.tkloc,h.tkinj,λk hk hs=>?_,by simpa using h.size,h.os,h.tape,h.output,h.glob,λp hp hne=>?_⟩;have hv':=h.mem b o v hv;have hb:b≠D:=λe=>by subst e;simp[World.cell?,ho]at hv'
 simp only[World.cell?]at hv'⊢;simp_all;cases hl:k.live;refine bS.still hl rfl (λt c n sz e ht hc=>?_) (h.blk i k hk);exact same _ λe2=>hno (.inr ⟨i,n,sz,t,c,e▸hk,ht,hc,e2⟩)
 refine bS.worldL hl (λc hc=>?_) (h.blk i k hk);exact same _ λe2=>hno (.inl ⟨i,k,c,hk,hl,hc,e2⟩)
 rw[same k amM];exact h.frame k hk hs;obtain⟨cs,ty,fr,h1,h2⟩:=h.gsz p hp hne
 grind
theorem Wx{fn:Func}{tmps:Array Value}{R:Ending->World->Prop}{wE:World}{SE:SB}{E:Env}{L:List Blk}(hR:∀w,Rel wE SE E L w->∃v,(results fn tmps).run P w=.ok v w/\R (.returned v) w):
  ∀(ds:List Deferred) (w:World),Rel wE SE E L w->ds.Nodup->(∀d∈ds,∃D,d=mkD D/\wE.heap.size<=D/\¬Ro E L D/\w.heap[D]?=some (.deferred (some [])))->LeavesInM (fM none) 0 P fn tmps R ds .returning w
 |[],w,h,_,_=>hR w h
 |d::ds,w,h,hn,hd=>by obtain⟨D,rfl,h1,h2,h3⟩:=hd _ List.mem_cons_self;obtain⟨n1,n2⟩:=akP.1 hn;refine⟨λe=>(by cases e),.inl ⟨D,_,rfl,run_takeDeferred h3,Wx hR ds _ (h.shut h1 h2 h3) n2 λd hd'=>?_⟩⟩;obtain⟨D',rfl,k1,k2,k3⟩:=hd d (alb _ hd');refine⟨D',rfl,k1,k2,?_⟩;rw[al3 λe=>n1 (by subst e;exact hd')];omega
theorem aa{own:Nat->Nat->Nat}{f:FuncId}{lf:aQ}(h:aR P own f=some lf.raw){args:List AV}{L:List Blk}{Q:AV->List Blk->Prop}(hlen:args.length<=lf.ntmps)(hb:AW P lf.ntmps own lf.code (aij lf.res L Q) (am 0 args) L):af P f args L Q:=by
 intro w0 S0 E w vs hR hv;obtain⟨nt,code,rs0⟩:=lf;simp only[aQ.raw]at h hlen hb;unfold aR at h;split at h;cases h;rename_i fn hfn;split at h;cases h;rename_i hname;split at h;cases h;rename_i c hc;split at h<;>try cases h
 rename_i lc rs hlc hrs;refine .inl ⟨?_,?_⟩;have:(fn.name == "runtime.NumGoroutine")=false:=by simpa using hname
 simp only[callFunc,ajB,run_program,ajC,hfn,this,hc,Option.isNone_some,ajK,if_false,aj2];refine(callsIn_wide (n:=0)).1 (callsIn_of_wp_marks (F:=fM none) hfn hc trivial ?_);have hvl:=hv.length;have hst:St w ⟨Ro E L,w.heap.size⟩ fn.ntmps E (am 0 args) L {tmps:=(⟨vs⟩:Array Value)++Array.replicate (fn.ntmps-vs.length) undef,defers:=[]} w:=by refine⟨hR.enter _,λt x hx=>?_,by simp;omega,Zy.nil (ajs _)⟩;obtain⟨_,h1⟩:=UV hx;simp only[alz]at h1;obtain⟨y,h2,h3⟩:=hv.get h1;have hlt:t<vs.length:=(ajr.1 h2).1;rw[akZ,amn (by simpa using hlt)];simp[*]
 refine wpIn_mono (hb c hlc none (λ_=>rfl) w _ E _ w hst) λe a' w' ⟨w1,S1,E',T',L',b,g1,⟨g2,c',rs',g3,g4,g5⟩,g6⟩=>?_
 have key:LeavesInM (fM none) 0 P fn a'.tmps (λe w'=>∃E' v av L',e=.returned v/\E.le E'/\Q av L'/\VR E' av v/\Rel w0 S0 E' L' w') a'.defers .returning w':=by
  refine Wx (wE:=w) (SE:=⟨Ro E L,w.heap.size⟩) (E:=E') (L:=L') (λw2 hR2=>?_) _ _ (b.rel g6.1) g6.2.2.2.2.1 λd hd=>?_
  obtain⟨us,k1,k2⟩:=OZ hrs g3 g4 hR2 g6.2.1;obtain⟨E'',av,L'',k3,k4,k5,k6⟩:=g5 w0 S0 E E' w2 _ g1 (λi hi=>⟨hR.fresh i hi,hR.tkfresh i hi⟩) hR.refs (hR.back hR2) (adO k1);have hres:(results fn a'.tmps).run P w2=.ok (if h:us.length=1 then us[0]else .tuple ⟨us⟩) w2:=by unfold results;rw[Array.mapM_eq_mapM_toList];simp only[ajB,Sem.run_map];refine(congrArg (λr=>(Result.andThen r λx w=>Result.ok x.toArray w).andThen _) k2).trans ?_;simp
  grind
  obtain⟨D,h1,h0,h2,h3,h4⟩:=g6.2.2.2.2.2 d hd;refine⟨D,h1,by rw[b.low]at h0;exact h0,λho=>?_,?_⟩;rcases g6.1.ownSub D ho with h5|h5;simp_all;omega;rw[g6.1.frame D h2 h3];exact h4
 rcases g2 with rfl|rfl<;>exact key
theorem ac{L0 L:List Blk}{r:AV}{Q:AV->List Blk->Prop}(h:Q r L):Fin L0 r L Q:=λw0 S0 E0 E w v h0 _ _ hR hv=>⟨E,r,L,h0,h,hv,hR⟩
theorem adP{E0 E:Env}{n m:Nat}(h0:E0.le E)(hn:∀i,n<=i->E0.loc i=none/\E0.tok i=none)(hm:n<=m)(g:Nat->Nat)(hg:∀i,i<n->g i=i):E0.le (E.res m g):=by
 have lt:∀i,(E0.loc i≠none\/E0.tok i≠none)->i<n:=λi hi=>by grind
 refine⟨λb o x hx=>h0.mem b o x hx,λi c hc=>?_,λi t ht=>?_⟩;have hi:=lt i (.inl (by simp[hc]));rw[Env.res_loc amM,hg i hi];exact h0.loc i c hc;have hi:=lt i (.inr (by simp[ht]));rw[Env.res_tok amM,hg i hi];exact h0.tok i t ht
theorem afi{L0 L1 L2:List Blk}{r:AV}{Q:AV->List Blk->Prop}(hl:L1.length=L0.length)(hk:(∀k∈L0,k.refs (λi=>decide (i<L0.length))=true)->∀k∈L1,k.refs (λi=>decide (i<L0.length))=true)(hr:r.refs (λi=>decide (i<L0.length))=true)(h:Q r L1):Fin L0 r (L1++L2) Q:=λw0 S0 E0 E w v h0 hn hw hR hv=>by
 have hcut:=hR.cut (by rw[hl];exact hk hw);refine⟨E.res L1.length id,r,L1,adP h0 hn amM id (λ_ _=>rfl),h,VR.cut (E:=E) (E':=E.res L1.length id) (p:=λi=>decide (i<L0.length)) (λ_ _ _ x=>x) (λi c hi hc=>?_) (λi t hi ht=>?_) r v hr hv,hcut⟩
 .rw [Env.res_loc (by have : i < L0.length := by simpa using hi
                      omega)];exact hc
 .rw [Env.res_tok (by have : i < L0.length := by simpa using hi
                      omega)];exact ht
theorem aJ{L0 L:List Blk}{r:AV}{Q:AV->List Blk->Prop}(h:Fin L0 r.frz L Q):Fin L0 r L Q:=λw0 S0 E0 E w v h0 hn hw hR hv =>
 h w0 S0 E0 E w v h0 hn hw hR (VR.frz _ _ hv)
theorem afm{res:List aaO}{L0 L':List Blk}{T:Tm}{Q:AV->List Blk->Prop}{c:Prop}{rs:List AV}(h:Uu T L' res=some (c,rs))(hc:c)(hf:Fin L0 (Yy rs) L' Q):aij res L0 Q .ret T L':=⟨.inr rfl,c,rs,h,hc,hf⟩
theorem ab{L0 L2:List Blk}{r:AV}{Q:AV->List Blk->Prop}(hr:r.refs (λi=>decide (i<L0.length))=true)(h:Q r L0):Fin L0 r (L0++L2) Q :=
 afi rfl (λh=>h) hr h
mutual
def AV.snap(i:Nat)(l:List AV):AV->AV
 |.lsl j off n cap s=>if j=i then .sl ((l.drop off).take (n*s)) n cap else .lsl j off n cap s
 |.agg xs=>.agg (AV.snapL i l xs)
 |.tup xs=>.tup (AV.snapL i l xs)
 |a=>a
def AV.snapL(i:Nat)(l:List AV):List AV->List AV
 |[]=>[]
 |a::xs=>AV.snap i l a::AV.snapL i l xs
end
mutual
theorem VR.snap{i:Nat}{l:List AV}{c:Loc}(hc:E.loc i=some c)(hl:VRC E l c.blk c.off):∀(a:AV) (v:Value),VR E a v->VR E (a.snap i l) v
 | .lsl j off n cap s,v,r=>by
   simp only[AV.snap];split
   .rename_i e;subst e;simp only[VR]at r⊢;obtain⟨c',rc,d,h1,rfl,h2,h3,h4,h5⟩:=r;rw[hc]at h1;cases h1;refine⟨_,rc,rfl,h3,h4,.inr ⟨c.blk,d,rfl,?_⟩⟩;rcases akM n with hn|hn
    .subst hn;simp[VRC]
    .rw[h2 amM];exact(hl.drop off).take _
   .exact r
 |.agg xs,v,r=>by simp only[AV.snap,VR]at r⊢;obtain⟨vs,h1,h2⟩:=r;exact⟨vs,h1,VRL.snap hc hl xs vs h2⟩
 |.tup xs,v,r=>by simp only[AV.snap,VR]at r⊢;obtain⟨vs,h1,h2⟩:=r;exact⟨vs,h1,VRL.snap hc hl xs vs h2⟩
 |.undef,_,r=>r
 |.bool _,_,r=>r
 |.anyb,_,r=>r
 |.int _ _,_,r=>r
 |.str _,_,r=>r
 |.nilptr,_,r=>r
 |.gptr _ _,_,r=>r
 |.ptr _ _,_,r=>r
 |.iptr _ _,_,r=>r
 |.nilsl,_,r=>r
 |.sl _ _ _,_,r=>r
 |.gsl _ _ _ _,_,r=>r
 |.nilmap,_,r=>r
 |.lmap _,_,r=>r
 |.yld _,_,r=>r
 |.func _ _,_,r=>r
 |.nilfunc,_,r=>r
 |.nilif,_,r=>r
 |.iface _ _,_,r=>r
theorem VRL.snap{i:Nat}{l:List AV}{c:Loc}(hc:E.loc i=some c)(hl:VRC E l c.blk c.off):∀(xs:List AV) (vs:List Value),VRL E xs vs->VRL E (AV.snapL i l xs) vs
 |[],_,r=>r
 |a::xs,vs,r=>by simp only[AV.snapL,VRL]at r⊢;obtain⟨x,ys,h1,h2,h3⟩:=r;exact⟨x,ys,h1,VR.snap hc hl a x h2,VRL.snap hc hl xs ys h3⟩
end
theorem JS{L0 L:List Blk}{r:AV}{Q:AV->List Blk->Prop}{i:Nat}{l:List AV}(hi:L[i]?=some (.cells l))(h:Fin L0 (r.snap i l) (L.set i .dead) Q):Fin L0 r L Q:=λw0 S0 E0 E w v h0 hn hw hR hv=>by obtain⟨c,cs,ty,fr,h1,_⟩:=hR.blk i _ hi;obtain⟨E',g1,g2,g3,g4⟩:=hR.snap hi h1;exact h w0 S0 E0 E' w v (h0.trans g1) hn hw g2 (VR.snap (by rw[g4];exact h1) g3 _ _ (VR.mono g1 _ _ hv))
end
theorem XO(L:List α)(x:α)(l:List α):(L++x::l)[L.length]?=some x:=amN
theorem oK(L l:List α)(k:Nat):(L++l)[L.length+k]?=l[k]?:=by grind
theorem afR(L:List α)(x y:α)(l:List α):(L++x::l).set L.length y=L++y::l:=by simp
theorem afQ(L l:List α)(k:Nat)(y:α):(L++l).set (L.length+k) y=L++l.set k y:=by simp
theorem agO(L l m:List α):(L++l)++m=L++(l++m):=ajD _ _ _
theorem ae{n:Int}(h0 : -9223372036854775808<=n)(h1:n<9223372036854775808):IntKind.i64.wrap n=n:=by simp only[IntKind.wrap,IntKind.bits,IntKind.signed];simp;omega
theorem ajn(j:Nat)(h:j<9223372036854775807):IntKind.i64.wrap ((j:Int)+1)=(j:Int)+1:=ae amM amM
theorem cZ{n:Int}(h0:0<=n)(h1:n<256):IntKind.u8.wrap n=n:=by simp only[IntKind.wrap,IntKind.bits,IntKind.signed];simp;omega
theorem bf{P:Program}{N:Nat}{own:Nat->Nat->Nat}{Q:Exit->Tm->List Blk->Prop}{T:Tm}{L:List Blk}{x:Opd}{y z:bq}(hx:evX T x=some (.bool true))(h:AW P N own y Q T L):AW P N own (.cond x y z) Q T L :=
 br hx (λ_=>h) (λe=>by cases e)
theorem bg{P:Program}{N:Nat}{own:Nat->Nat->Nat}{Q:Exit->Tm->List Blk->Prop}{T:Tm}{L:List Blk}{x:Opd}{y z:bq}(hx:evX T x=some (.bool false))(h:AW P N own z Q T L):AW P N own (.cond x y z) Q T L :=
 br hx (λe=>by cases e) (λ_=>h)
def ai0(v:AV)(xs:List Int):Prop:=(v=.nilsl/\xs=[])\/∃cap,v=.sl (xs.map (AV.int .i64)) xs.length cap
theorem ab5{p:Nat->Bool}(xs:List Int):AV.refsL p (xs.map (AV.int .i64))=true:=AV.refsL_iff.2 λa ha=>by obtain⟨x,_,rfl⟩:=ajy.1 ha;rfl
theorem ai0.refs{p:Nat->Bool}{xs:List Int}(h:ai0 v xs):v.refs p=true:=by rcases h with⟨rfl,_⟩|⟨cap,rfl⟩;rfl;exact ab5 xs
theorem acE{xs:List Int}{k:Nat}(h:k<xs.length):(xs.map (AV.int .i64)).getD k .undef=.int .i64 xs[k]:=by simp[h]
theorem aS{p:Prop}[Decidable p]{A B:Prop}(h1:p->A)(h2:¬p->B):if p then A else B:=by simp_all
theorem aG{p:Prop}[Decidable p]{A B:Prop}(h1:p->B)(h2:¬p->A):if ¬p then A else B:=by simp_all
def ahd(L0 L':List Blk)(Q:AV->List Blk->Prop):Option (Prop×List AV)->Prop
 |some (c,rs)=>c/\Fin L0 (Yy rs) L' Q
 |none=>False
theorem aaQ{L0:List Blk}{Q:AV->List Blk->Prop}{c:Prop}{rs:List AV}:ahd L0 L' Q (some (c,rs))=(c/\Fin L0 (Yy rs) L' Q):=rfl
theorem aT{res:List aaO}{L0:List Blk}{T:Tm}{Q:AV->List Blk->Prop}(h:ahd L0 L' Q (Uu T L' res)):aij res L0 Q .ret T L':=by rcases hr:Uu T L' res with _|⟨c,rs⟩;rw[hr]at h;exact h.elim;rw[hr]at h;exact afm hr h.1 h.2
def Hid(p:Prop):Prop:=p
theorem hid{p:Prop}(h:p):Hid p:=h
theorem Hid.o{p:Prop}(h:Hid p):p:=h
theorem Kto{K:AV->List Blk->Prop}{L:List Blk}{a b:AV}(h:K a L)(e:a=b):K b L:=e▸h
def Wl(T' T:Tm):Prop:=∀p∈T',∃v,ay T p.1=some v/\(p.2=v\/p.2=v.frz)
theorem TR.sub{E:Env}{T:Tm}{a:Act}(r:TR E T a)(h:Wl T' T):TR E T' a:=λt v hv=>by obtain⟨u,h1,h2⟩:=h _ (QY hv);have:=r t u h1;rcases h2 with h2|h2;simp_all;simp only at h2;subst h2;exact VR.frz _ _ this
theorem Zu{T:Tm}:Wl [] T:=λp h=>by cases h
theorem J9{T:Tm}{t:Nat}{u:AV}(h:ay T t=some u)(e:v=u)(h':Wl T' T):Wl ((t,v)::T') T:=λp hp=>by rcases ajM.1 hp with rfl|hp;simp[*];exact h' p hp
theorem VX{T:Tm}{t:Nat}{u:AV}(h:ay T t=some u)(e:v=u.frz)(h':Wl T' T):Wl ((t,v)::T') T:=λp hp=>by rcases ajM.1 hp with rfl|hp;simp[*];exact h' p hp
def Cut(B:Nat)(T':Tm)(L':List Blk)(T:Tm)(L:List Blk):Prop :=
 Wl T' T/\∃X,L=L'++X/\B<=L'.length/\(X=[]\/((∀p∈T',p.2.refs (λi=>decide (i<L'.length))=true)/\∀k∈L',k.refs (λi=>decide (i<L'.length))=true))
theorem ZD{T:Tm}{L:List Blk}(h:Wl T' T)(hB:B<=L.length):Cut B T' L T L:=⟨h,[],amN,hB,.inl rfl⟩
theorem CutS{B:Nat}{T' T:Tm}{L:List Blk}(a:Wl T' T:=by repeat' first|exact Zu|refine J9 rfl rfl ?_|refine VX rfl rfl ?_)(b:B<=L.length):Cut B T' L T L:=ZD a b
theorem CutL{B:Nat}{T' T:Tm}{L:List Blk}(a:Wl T' T:=by repeat' first|exact Zu|refine J9 rfl rfl ?_|refine VX rfl rfl ?_|refine J9 rfl (congrArg (AV.int _) amM) ?_|refine J9 rfl (by first|(simp_all;done)|(simp_all;omega)|(simp_all;intros;omega)) ?_)(b:B<=L.length):Cut B T' L T L:=ZD a b
abbrev ajp:=@af Tryz.prog
abbrev ajq:=AV->List Blk->Prop
abbrev Ctr(P:Program)(f:FuncId)(A:List AV)(v:AV):Prop:=∀{L:List Blk}{K:AV->List Blk->Prop},K v L->af P f A L K
theorem amT{P:Program}{f:FuncId}{A:List AV}{v:AV}(h:Ctr P f A v):Hid (Ctr P f A v):=hid h
abbrev o0(x:LOp):SOp:=.op ⟨none,x,none⟩
abbrev o1(n:Nat)(x:LOp):SOp:=.op ⟨some n,x,none⟩
abbrev og(n t:Nat)(b:Bool)(x:LOp):SOp:=.op ⟨some n,x,some (t,b)⟩
abbrev od(n:Nat)(x:LOp)(k:Kd):aw×Kd:=(⟨some n,x,none⟩,k)
abbrev tm(t:Nat):Opd:=.tmp t
abbrev iv(n:Int):Opd:=.av (.int .i64 n)
attribute [push_cast] o0 o1 og od tm iv
abbrev amF(x:List SOp)(m:List Bool)(r:bq):bq:=.seq (.sreg x m) r
abbrev amG(t:Nat)(a b:bq):bq:=.cond (.tmp t) a b
abbrev amH(t:Nat)(a:bq):bq:=.cond (.tmp t) (.seq a .ret) .skip
abbrev amI(n:Nat)(a:bq):bq:=.block n (.loop a)
abbrev amJ(t n:Nat):bq:=.cond (.tmp t) .skip (.exit n)
attribute [push_cast] amF amG amH amI amJ
noncomputable abbrev amK(n:Nat):=aR Tryz.prog (λ_ _=>1) n
abbrev amL(c:aQ):=some c.raw
abbrev Aa(a b:Nat):SOp:=.op ⟨some a,(.mv (.tmp b)),none⟩
abbrev Ab(a b c:Nat):SOp:=.op ⟨some a,(.load false b (.tmp c)),none⟩
abbrev Ac(a b c:Nat):SOp:=.op ⟨some a,(.faddr b (.tmp c)),none⟩
abbrev Ad(a:Nat)(b:Int):SOp:=.op ⟨some a,(.mv (.av (.int .i64 b))),none⟩
abbrev Ae(a b c:Nat):SOp:=.op ⟨some a,(.mv (.tmp c)),some (b,true)⟩
abbrev Af(a b:Nat):SOp:=.op ⟨some a,(.len false (.tmp b)),none⟩
abbrev Ag(a b c:Nat):SOp:=.op ⟨some a,(.mv (.tmp c)),some (b,false)⟩
abbrev Ah(a b:Nat)(c:Int):SOp:=.op ⟨some a,(.bin .add (.tmp b) (.av (.int .i64 c))),none⟩
abbrev Ai(a b c:Nat):SOp:=.op ⟨some a,(.call b [(.tmp c)]),none⟩
abbrev Aj(a:Nat):SOp:=.op ⟨some a,(.mv (.av (.bool false))),none⟩
abbrev Ak(a:Nat):SOp:=.op ⟨some a,(.mv (.av (.sl [] 0 (some 0)))),none⟩
abbrev Al(a b c:Nat):SOp:=.op ⟨some a,(.bin .lss (.tmp b) (.tmp c)),none⟩
abbrev Am(a b c d:Nat):SOp:=.op ⟨some a,(.iaddr b (.tmp c) (.tmp d)),none⟩
abbrev An(a b c:Nat):SOp:=.op ⟨none,(.store a (.tmp b) (.tmp c)),none⟩
abbrev Ao(a b:Nat)(c:Int):SOp:=.op ⟨some a,(.bin .eql (.tmp b) (.av (.int .i64 c))),none⟩
abbrev Ap(a b:Nat):SOp:=.op ⟨some a,(.extract (.tmp b) 0),none⟩
abbrev Aq(a b:Nat):SOp:=.op ⟨some a,(.extract (.tmp b) 1),none⟩
abbrev Ar(a b c:Nat):SOp:=.op ⟨some a,(.load true b (.tmp c)),none⟩
abbrev As(a b:Nat):SOp:=.op ⟨some a,(.nilchk (.tmp b)),none⟩
abbrev Au(a b c d:Nat):SOp:=.op ⟨some a,(.call b [(.tmp c),(.tmp d)]),none⟩
abbrev Aw(a:Nat):SOp:=.op ⟨some a,(.mv (.av (.str []))),none⟩
abbrev Ax(a b:Nat):SOp:=.op ⟨some a,(.len true (.tmp b)),none⟩
abbrev Ay(a b c d:Nat):SOp:=.op ⟨some a,(.faddr c (.tmp d)),some (b,true)⟩
abbrev Az(a b c d:Nat):SOp:=.op ⟨some a,(.load false c (.tmp d)),some (b,true)⟩
abbrev A0(a b c:Nat):aw×Kd:=(⟨some a,(.faddr b (.tmp c)),none⟩,.pure)
abbrev A3(a b c d e:Nat):aw×Kd:=(⟨some a,(.load false b (.tmp c)),none⟩,(.read d e))
abbrev A5(a b:Nat):SOp:=.op ⟨some a,(.box (.tmp b)),none⟩
abbrev A6(a:Nat):SOp:=.op ⟨some a,(.mv (.av (.bool true))),none⟩
abbrev A7(a b:Nat):SOp:=.op ⟨some a,(.un .not (.tmp b)),none⟩
abbrev A8(a b:Nat)(c:Int):SOp:=.op ⟨some a,(.bin .neq (.tmp b) (.av (.int .i64 c))),none⟩
abbrev A9(a b:Nat)(c:Int):SOp:=.op ⟨some a,(.bin .gtr (.tmp b) (.av (.int .i64 c))),none⟩
abbrev AA(a b c d:Nat):SOp:=.op ⟨some a,(.faddr c (.tmp d)),some (b,false)⟩
abbrev AB(a b c d:Nat):SOp:=.op ⟨some a,(.load false c (.tmp d)),some (b,false)⟩
abbrev AC(a b:Nat):aw×Kd:=(⟨some a,(.mv (.tmp b)),none⟩,.pure)
abbrev AD(a b c:Nat):SOp:=.op ⟨some a,(.bin .eql (.tmp b) (.tmp c)),none⟩
abbrev AE(a b c d e:Nat):SOp:=.op ⟨some a,(.call c [(.tmp d),(.tmp e)]),some (b,true)⟩
abbrev AF(a b c:Nat)(d:Int):SOp:=.op ⟨some a,(.bin .gtr (.tmp c) (.av (.int .i64 d))),some (b,false)⟩
abbrev AH(a b c d:Nat):SOp:=.op ⟨some a,(.call c [(.tmp d)]),some (b,false)⟩
abbrev AI(a b c:Nat):SOp:=.op ⟨some a,(.len false (.tmp c)),some (b,true)⟩
abbrev AJ(a b:Nat)(c:Int):SOp:=.op ⟨some a,(.bin .geq (.tmp b) (.av (.int .i64 c))),none⟩
abbrev AK(a b c:Nat):SOp:=.op ⟨some a,(.idxS (.tmp b) (.tmp c)),none⟩
abbrev AL(a b:Nat):SOp:=.op ⟨some a,(.call b []),none⟩
abbrev AM(a b c:Nat):SOp:=.op ⟨some a,(.len false (.tmp c)),some (b,false)⟩
abbrev AN(a b c d:Nat):aw×Kd:=(⟨some a,(.nilchk (.tmp b)),none⟩,(.read c d))
abbrev AO(a b c:Nat)(d:Int):SOp:=.op ⟨some a,(.bin .eql (.tmp c) (.av (.int .i64 d))),some (b,false)⟩
abbrev AP(a:Nat):SOp:=.op ⟨some a,(.mv (.av .nilptr)),none⟩
abbrev AS(a b c d e:Nat):SOp:=.op ⟨some a,(.call b [(.tmp c),(.tmp d),(.tmp e)]),none⟩
abbrev AT(a b:Nat)(c:Int):SOp:=.op ⟨some a,(.bin .lss (.tmp b) (.av (.int .i64 c))),none⟩
abbrev AU(a b c:Nat):SOp:=.op ⟨some a,(.app 1 1 1 [(.int .u8 0)] (.tmp b) (.tmp c)),none⟩
abbrev AX(a b c:Nat)(d:Int):SOp:=.op ⟨some a,(.bin .eql (.tmp c) (.av (.int .i64 d))),some (b,true)⟩
abbrev AY(a b c d e:Nat):aw×Kd:=(⟨some a,(.call b [(.tmp c)]),none⟩,(.read d e))
abbrev AZ(a b:Nat):SOp:=.op ⟨some a,(.bslice false 1 1 [(.int .u8 0)] [(0,(1,(.tmp b)))]),none⟩
abbrev Ba(a:Nat):SOp:=.op ⟨some a,(.alloc [(.str []),(.sl [] 0 (some 0))]),none⟩
abbrev Bb(a b c:Nat)(d:Int):SOp:=.op ⟨some a,(.bin .neq (.tmp c) (.av (.int .i64 d))),some (b,false)⟩
abbrev Bc(a b:Nat)(c:Int):SOp:=.op ⟨some a,(.bin .sub (.tmp b) (.av (.int .i64 c))),none⟩
abbrev Bd(a b c:Nat):SOp:=.op ⟨some a,(.app 1 1 24 [(.sl [] 0 (some 0))] (.tmp b) (.tmp c)),none⟩
abbrev Be(a b:Nat):SOp:=.op ⟨some a,(.b2s (.tmp b)),none⟩
abbrev Bf(a b:Nat):SOp:=.op ⟨some a,(.bslice false 1 1 [(.sl [] 0 (some 0))] [(0,(1,(.tmp b)))]),none⟩
abbrev Bg(a b c:Nat):SOp:=.op ⟨some a,(.bin .neq (.tmp b) (.tmp c)),none⟩
abbrev Bh(a b c d e:Nat):SOp:=.op ⟨some a,(.iaddr c (.tmp d) (.tmp e)),some (b,true)⟩
abbrev Bi(a b c d:Nat):SOp:=.op ⟨some a,(.idxS (.tmp c) (.tmp d)),some (b,true)⟩
abbrev Bj(a:Nat):SOp:=.op ⟨some a,(.alloc [(.str []),(.str [])]),none⟩
abbrev Bk(a b:Nat):SOp:=.op ⟨some a,(.bslice false 5 1 [(.str []),(.str []),(.int .i64 0),(.sl [] 0 (some 0)),(.sl [] 0 (some 0))] [(0,(5,(.tmp b)))]),none⟩
abbrev Bl(a b c:Nat):SOp:=.op ⟨some a,(.app 1 5 88 [(.str []),(.str []),(.int .i64 0),(.sl [] 0 (some 0)),(.sl [] 0 (some 0))] (.tmp b) (.tmp c)),none⟩
abbrev Bm(a b c:Nat):SOp:=.op ⟨some a,(.mget .int false .nilptr (.tmp b) (.tmp c)),none⟩
abbrev Bn(a b c:Nat):SOp:=.op ⟨some a,(.nilchk (.tmp c)),some (b,true)⟩
abbrev Bo(a b c:Nat):SOp:=.op ⟨some a,(.bin .add (.tmp b) (.tmp c)),none⟩
abbrev Bp(a b c d:Nat):SOp:=.op ⟨some a,(.bin .eql (.tmp c) (.tmp d)),some (b,false)⟩
abbrev Bq(a b c:Nat):SOp:=.op ⟨some a,(.un .not (.tmp c)),some (b,false)⟩
abbrev Br(a b:Nat):SOp:=.op ⟨some a,(.extract (.tmp b) 2),none⟩
abbrev Bt(a b c:Nat):SOp:=.op ⟨some a,(.un .not (.tmp c)),some (b,true)⟩
abbrev Bu(a b c d:Nat):SOp:=.op ⟨some a,(.call c [(.tmp d)]),some (b,true)⟩
abbrev Bv(a b c:Nat)(d:Int):SOp:=.op ⟨some a,(.bin .neq (.tmp c) (.av (.int .i64 d))),some (b,true)⟩
abbrev Bw(a b:Nat):SOp:=.op ⟨some a,(.bslice false 2 1 [(.str []),(.sl [] 0 (some 0))] [(0,(2,(.tmp b)))]),none⟩
abbrev Bx(a b:Nat):SOp:=.op ⟨some a,(.eqk false .ptr (.tmp b) (.av .nilptr)),none⟩
abbrev By(a b:Nat):SOp:=.op ⟨some a,(.bslice false 1 1 [(.str [])] [(0,(1,(.tmp b)))]),none⟩
abbrev Bz(a b c:Nat)(d:Int):SOp:=.op ⟨some a,(.bin .lss (.tmp c) (.av (.int .i64 d))),some (b,false)⟩
abbrev B0(a b c d:Nat)(e:Int):SOp:=.op ⟨some a,(.call b [(.tmp c),(.tmp d),(.av (.int .i64 e))]),none⟩
abbrev B1(a b c:Nat):SOp:=.op ⟨some a,(.len true (.tmp c)),some (b,false)⟩
abbrev B3(a b c:Nat):SOp:=.op ⟨some a,(.bin .eql (.tmp c) (.av (.int .u8 32))),some (b,true)⟩
abbrev B4(a b c d:Nat):SOp:=.op ⟨some a,(.idxS (.tmp c) (.tmp d)),some (b,false)⟩
abbrev B5(a:Nat):SOp:=.op ⟨some a,(.alloc [(.str []),(.int .i64 0),(.bool false),(.bool false)]),none⟩
abbrev B6(a b c:Nat):SOp:=.op ⟨some a,(.app 1 2 40 [(.str []),(.sl [] 0 (some 0))] (.tmp b) (.tmp c)),none⟩
abbrev B7(a b c:Nat)(d:Int)(e:Nat):SOp:=.op ⟨some a,(.call b [(.tmp c),(.av (.int .i64 d)),(.tmp e)]),none⟩
abbrev B8(a b c:Nat):SOp:=.op ⟨some a,(.bin .sub (.tmp b) (.tmp c)),none⟩
abbrev B9(a b:Nat)(c:Int):SOp:=.op ⟨some a,(.slV 1 (.tmp b) (some (.av (.int .i64 c))) none none),none⟩
abbrev BA(a b c d:Nat):SOp:=.op ⟨some a,(.bin .eql (.tmp c) (.tmp d)),some (b,true)⟩
abbrev BB(a b c:Nat)(d:Int):SOp:=.op ⟨some a,(.bin .gtr (.tmp c) (.av (.int .i64 d))),some (b,true)⟩
abbrev BC(a b:Nat):SOp:=.op ⟨some a,(.bslice false 2 1 [(.str []),(.str [])] [(0,(2,(.tmp b)))]),none⟩
abbrev BD(a b c:Nat):SOp:=.op ⟨some a,(.app 1 2 32 [(.str []),(.str [])] (.tmp b) (.tmp c)),none⟩
abbrev BE(a b c:Nat):SOp:=.op ⟨some a,(.app 1 1 16 [(.str [])] (.tmp b) (.tmp c)),none⟩
abbrev BF(a b c:Nat)(d:Int):SOp:=.op ⟨some a,(.bin .lss (.tmp c) (.av (.int .i64 d))),some (b,true)⟩
abbrev BG(a b c d e f:Nat):SOp:=.op ⟨some a,(.call b [(.tmp c),(.tmp d),(.tmp e),(.tmp f)]),none⟩
abbrev BH(a:Nat):SOp:=.op ⟨some a,(.bslice false 1 1 [(.str [])] [(0,(1,(.av (.str [100,101,115,99,114,105,112,116,105,111,110]))))]),none⟩
abbrev BI(a b c:Nat):SOp:=.op ⟨some a,(.eqk false .ptr (.tmp c) (.av .nilptr)),some (b,false)⟩
abbrev BJ(a b c:Nat):SOp:=.op ⟨some a,(.call b [(.tmp c),(.av (.sl [] 0 (some 0)))]),none⟩
abbrev BK(a b c:Nat):SOp:=.op ⟨some a,(.callv (.tmp b) [(.tmp c)]),none⟩
abbrev BL(a b:Nat):SOp:=.op ⟨some a,(.bin .eql (.tmp b) (.av (.int .u8 0))),none⟩
abbrev BM(a b c:Nat)(d:Int):SOp:=.op ⟨some a,(.bin .geq (.tmp c) (.av (.int .i64 d))),some (b,false)⟩
abbrev BN(a b:Nat)(c:Int):SOp:=.op ⟨some a,(.idxS (.tmp b) (.av (.int .i64 c))),none⟩
abbrev BO(a b:Nat):SOp:=.op ⟨some a,(.bslice false 4 1 [(.str []),(.int .i64 0),(.bool false),(.bool false)] [(0,(4,(.tmp b)))]),none⟩
abbrev BP(a b c:Nat):SOp:=.op ⟨some a,(.app 1 4 32 [(.str []),(.int .i64 0),(.bool false),(.bool false)] (.tmp b) (.tmp c)),none⟩
abbrev BQ(a b c:Nat):aw×Kd:=(⟨some a,(.build [(.str []),(.sl [] 0 (some 0))] [(0,(1,(.tmp b))),(1,(1,(.tmp c)))]),none⟩,.pure)
abbrev BR(a b c d:Nat):aw×Kd:=(⟨some a,(.bslice false 2 1 [(.str []),(.sl [] 0 (some 0))] [(0,(2,(.tmp b)))]),none⟩,(.read c d))
abbrev BS(a b c:Nat):SOp:=.op ⟨some a,(.app 2 1 16 [(.str [])] (.tmp b) (.tmp c)),none⟩
abbrev BT(a b c:Nat):SOp:=.op ⟨some a,(.slV 1 (.tmp b) none (some (.tmp c)) none),none⟩
abbrev BU(a b c:Nat):SOp:=.op ⟨some a,(.slV 1 (.tmp b) (some (.tmp c)) none none),none⟩
abbrev BV(a b c:Nat)(d:Int):SOp:=.op ⟨some a,(.bin .add (.tmp c) (.av (.int .i64 d))),some (b,true)⟩
abbrev BW(a:Nat):SOp:=.op ⟨some a,(.alloc [(.int .i64 0),(.sl [] 0 (some 0)),(.sl [] 0 (some 0))]),none⟩
abbrev BX(a b:Nat):SOp:=.op ⟨some a,(.bin .eql (.tmp b) (.av (.str []))),none⟩
abbrev BY(a b c d:Nat):SOp:=.op ⟨some a,(.slS (.tmp b) (some (.tmp c)) (some (.tmp d))),none⟩
abbrev BZ(a b c:Nat):SOp:=.op ⟨some a,(.slS (.tmp b) (some (.tmp c)) none),none⟩
abbrev Ca(a b c:Nat)(d:Int):SOp:=.op ⟨some a,(.bin .sub (.tmp c) (.av (.int .i64 d))),some (b,false)⟩
abbrev Cb(a b c:Nat):SOp:=.op ⟨some a,(.slV 2 (.tmp b) none (some (.tmp c)) none),none⟩
abbrev Cc(a b:Nat):SOp:=.op ⟨some a,(.bin .geq (.tmp b) (.av (.int .u8 65))),none⟩
abbrev Cd(a b c:Nat):SOp:=.op ⟨some a,(.bin .eql (.tmp c) (.av (.int .u8 32))),some (b,false)⟩
abbrev Ce(a b c:Nat)(d:Int):SOp:=.op ⟨some a,(.bin .sub (.tmp c) (.av (.int .i64 d))),some (b,true)⟩
abbrev Cf(a:Nat):SOp:=.op ⟨some a,(.mv (.av (.int .u8 0))),none⟩
abbrev Cg(a b c:Nat)(d:Int):SOp:=.op ⟨some a,(.bin .rem (.tmp c) (.av (.int .i64 d))),some (b,true)⟩
abbrev Ch(a b c:Nat)(d e:Int):SOp:=.op ⟨some a,(.slS (.tmp c) (some (.av (.int .i64 d))) (some (.av (.int .i64 e)))),some (b,false)⟩
abbrev Ci(a:Nat):SOp:=.op ⟨some a,(.alloc [.nilptr,.nilptr,.nilptr,(.sl [] 0 (some 0)),(.sl [] 0 (some 0))]),none⟩
abbrev Cj(a:Nat):SOp:=.op ⟨some a,(.alloc [(.sl [] 0 (some 0)),(.sl [] 0 (some 0))]),none⟩
abbrev Ck(a:Nat):SOp:=.op ⟨some a,(.build [.nilptr,.nilptr,.nilptr,(.sl [] 0 (some 0)),(.sl [] 0 (some 0))] []),none⟩
abbrev LSO:=List SOp
abbrev Cl:List Bool:=[true,false]
abbrev Cm:List Bool:=[true,false,false]
abbrev Co:List Bool:=[true,false,false,false,false]
abbrev Cp:List Bool:=[true,false,false,false]
abbrev Cq:List Bool:=[true,false,false,false,false,false]
abbrev Cr:List Bool:=[true,false,false,false,false,false,false]
abbrev Cs:List Bool:=[true,true,false]
abbrev Ct:List Bool:=[true,false,false,false,false,false,false,false]
abbrev Cu:List Bool:=[true,false,false,false,false,false,false,false,false,false]
abbrev Cv:List Bool:=[true,true,false,false,false]
abbrev Cw:List Bool:=[true,true,false,false,false,false,false]
abbrev Cx:List Bool:=[true,true,false,false]
abbrev Cy:List Bool:=[false,false,false,false]
abbrev Cz:List Bool:=[true,false,false,false,false,false,false,false,false]
abbrev C0:List Bool:=[true,true,true,false]
abbrev C2:List Bool:=[false,false,false,false,false,false,false,false]
abbrev C3:List Bool:=[true,true,false,false,false,false]
abbrev C4:List Bool:=[true,false,false,false,false,false,false,false,false,false,false,false]
abbrev C6:List Bool:=[false,false,false,false,false]
abbrev C7:List Bool:=[false,true,false,false,false,false,false,false]
abbrev CA:List Bool:=[true,true,true,false,false,false]
abbrev CB:List Bool:=[false,false,false,false,false,false,false]
abbrev CC:List Bool:=[true,true,false,false,false,false,false,false,false,false,false,false]
abbrev CD:List Bool:=[true,false,false,false,false,false,false,false,false,false,false]
abbrev CE:List Bool:=[true,true,false,false,false,false,false,false,false]
abbrev CF:List Bool:=[true,true,false,false,false,false,false,false]
abbrev CG:List Bool:=[false,false,false]
abbrev CH:List Bool:=[false,false,false,false,false,false,false,false,false,false]
abbrev CI:List Bool:=[true,true,true,false,false,false,false,false,false]
abbrev CJ:List Bool:=[false,false,false,false,false,false,false,false,false,false,false,false,false,false]
abbrev CK:List Bool:=[false,false,false,false,false,false]
abbrev CL:List Bool:=[true,false,false,false,false,false,false,false,false,false,false,false,false,false,false,false,false]
abbrev CM:List Bool:=[true,false,false,false,false,false,false,false,false,false,false,false,false,false,false]
abbrev CN:List Bool:=[true,true,true,false,false,false,false,false,false,false,false,false]
abbrev CO:List Bool:=[true,true,false,false,false,false,false,false,false,false]
abbrev CP:List Bool:=[true,true,false,false,false,false,false,false,false,false,false]
abbrev CQ:List Bool:=[true,false,false,false,false,false,false,false,false,false,false,false,false]
abbrev CR:List Bool:=[true,true,true,false,false,false,false]
abbrev CT:List Bool:=[false,true,true,false,false,false,false,false,false,false,false,false,false,false,false,false,false,false,false]
attribute [push_cast] Aa Ab Ac Ad Ae Af Ag Ah Ai Aj Ak Al Am An Ao Ap Aq Ar As Au Aw Ax Ay Az A0 A3 A5 A6 A7 A8 A9 AA AB AC AD AE AF AH AI AJ AK AL AM AN AO AP AS AT AU AX AY AZ Ba Bb Bc Bd Be Bf Bg Bh Bi Bj Bk Bl Bm Bn Bo Bp Bq Br Bt Bu Bv Bw Bx By Bz B0 B1 B3 B4 B5 B6 B7 B8 B9 BA BB BC BD BE BF BG BH BI BJ BK BL BM BN BO BP BQ BR BS BT BU BV BW BX BY BZ Ca Cb Cc Cd Ce Cf Cg Ch Ci Cj Ck Cl Cm Co Cp Cq Cr Cs Ct Cu Cv Cw Cx Cy Cz C0 C2 C3 C4 C6 C7 CA CB CC CD CE CF CG CH CI CJ CK CL CM CN CO CP CQ CR CT
section
variable {P:Program}{w0:World}{S0:SB}{N:Nat}{own:Nat->Nat->Nat}{Q:Exit->Tm->List Blk->Prop}{T:Tm}{L:List Blk}
theorem Rel.none_of{E:Env}{w:World}(h:Rel w0 S0 E L w):∀i,L.length<=i->E.loc i=none/\E.tok i=none:=λi hi=>⟨h.fresh i hi,h.tkfresh i hi⟩
theorem St.cut{E0 E:Env}{a:Act}{w:World}{T':Tm}{L':List Blk}{B:Nat}(h0:E0.le E)(hB:∀i,B<=i->E0.loc i=none/\E0.tok i=none)(h:St w0 S0 N E T L a w)(hc:Cut B T' L' T L):∃E',E0.le E'/\St w0 S0 N E' T' L' a w:=by obtain⟨hs,X,rfl,hlen,hx⟩:=hc;rcases hx with rfl|⟨h1,h2⟩;exact⟨E,h0,by simpa using h.1,h.2.1.sub hs,h.2.2⟩;refine⟨E.res L'.length id,adP h0 hB hlen id (λ_ _=>rfl),h.1.cut h2,λt v hv=>?_,h.2.2⟩;have:=(h.2.1.sub hs) t v hv;refine VR.cut (E:=E) (E':=E.res L'.length id) (p:=λi=>decide (i<L'.length)) (λ_ _ _ x=>x) (λi c hi hc=>?_) (λi c hi hc=>?_) v _ (h1 _ (QY hv)) this;rw[Env.res_loc (by simpa using hi)];exact hc;rw[Env.res_tok (by simpa using hi)];exact hc
def Nxt(B n:Nat)(I:Nat->Tm->List Blk->Prop)(T1:Tm)(L1:List Blk):Prop:=∃m T2 L2,m<n/\Cut B T2 L2 T1 L1/\I m T2 L2
def Mid(B:Nat)(R:Tm->List Blk->Prop)(T1:Tm)(L1:List Blk):Prop:=∃T2 L2,Cut B T2 L2 T1 L1/\R T2 L2
theorem ak{B n:Nat}{I:Nat->Tm->List Blk->Prop}{T1:Tm}{L1:List Blk}(m:Nat)(T2:Tm)(L2:List Blk)(h1:m<n)(h2:Cut B T2 L2 T1 L1)(h3:I m T2 L2):Nxt B n I T1 L1:=⟨m,T2,L2,h1,h2,h3⟩
theorem amP{B:Nat}{T' T:Tm}{L:List Blk}(a:Wl T' T:=by repeat' first|exact Zu|refine J9 rfl rfl ?_|refine VX rfl rfl ?_|refine J9 rfl (congrArg (AV.int _) amM) ?_|refine J9 rfl (by first|(simp_all;done)|(simp_all;omega)|(simp_all;intros;omega)) ?_)(b:B<=L.length:=by simp):Cut B T' L T L:=ZD a b
theorem amQ{B:Nat}{T' T:Tm}{L:List Blk}(a:Wl T' T:=by repeat' first|exact Zu|refine J9 rfl rfl ?_|refine VX rfl rfl ?_)(b:B<=L.length:=by simp):Cut B T' L T L:=ZD a b
theorem amR{B n:Nat}{I:Nat->Tm->List Blk->Prop}{T1:Tm}{L1:List Blk}{m:Nat}{T2:Tm}{L2:List Blk}(h1:m<n)(h2:Cut B T2 L2 T1 L1)(h3:I m T2 L2):Nxt B n I T1 L1:=⟨m,T2,L2,h1,h2,h3⟩
theorem tH{B:Nat}{R:Tm->List Blk->Prop}{T1:Tm}{L1:List Blk}(T2:Tm)(L2:List Blk)(h2:Cut B T2 L2 T1 L1)(h3:R T2 L2):Mid B R T1 L1:=⟨T2,L2,h2,h3⟩
theorem aq{x:bq}(I:Nat->Tm->List Blk->Prop){n0:Nat}{T0:Tm}{L0:List Blk}(hc0:Cut L.length T0 L0 T L)(h0:I n0 T0 L0)(round:∀n T' L',I n T' L'->AW P N own x (Zw (Nxt L.length n I) Q) T' L'):AW P N own (.loop x) Q T L:=λc hc r hr w0 S0 E a w hst=>by
 classical
 obtain⟨c1,rfl,h1⟩:=ael hc;have hB:=hst.1.none_of
 let J:Act->World->Nat->Prop:=λa w n=>∃w1 S1 E' T' L',Bs w0 S0 w1 S1/\E.le E'/\I n T' L'/\St w1 S1 N E' T' L' a w
 have least:∀a w,∃m,(∃n,J a w n)->J a w m/\∀k,J a w k->m<=k:=λa w=>by by_cases h:∃n,J a w n;obtain⟨n,hn⟩:=h;obtain⟨m,h1,h2⟩:=XT (J a w) n hn;exact⟨m,λ_=>⟨h1,h2⟩⟩;simp[*]
 let μ:Act->World->Nat:=λa w=>Classical.choose (least a w)
 have hμ:∀a w,(∃n,J a w n)->J a w (μ a w)/\∀k,J a w k->μ a w<=k:=λa w=>Classical.choose_spec (least a w)
 obtain⟨E1,e1,e2⟩:=hst.cut (.refl E) hB hc0;refine wpIn_loop (λa w=>∃n,J a w n) μ ⟨n0,w0,S0,E1,_,_,.refl _ _,e1,h0,e2⟩ λa w hJ=>?_
 obtain⟨⟨w1,S1,E',T',L',b,g1,g2,g3⟩,_⟩:=hμ a w hJ;refine wpIn_mono (round _ T' L' g2 c1 h1 r (λe=>hr (by simp[bq.hasRF,e])) w1 S1 E' a w g3) λe a' w' ⟨w3,S3,E'',T'',L'',b2,k1,k2,k3⟩=>?_
 cases e;obtain⟨m,T2,L2,hm,hcut,hI⟩:=k2;obtain⟨E3,q1,q2⟩:=k3.cut (g1.trans k1) hB hcut;have hJ':J a' w' m:=⟨w3,S3,E3,T2,L2,b.trans b2,q1,hI,q2⟩;exact⟨⟨m,hJ'⟩,Nat.lt_of_le_of_lt ((hμ a' w' ⟨m,hJ'⟩).2 m hJ') hm⟩
 all_goals exact⟨w3,S3,E'',T'',L'',b.trans b2,g1.trans k1,k2,k3⟩
theorem Ud{x y:bq}(R:Tm->List Blk->Prop)(h:AW P N own x (Zw (Mid L.length R) Q) T L)(hq:∀T2 L2,R T2 L2->L.length<=L2.length->AW P N own y Q T2 L2):AW P N own (.seq x y) Q T L:=λc hc r hr w0 S0 E a w hst=>by
 obtain⟨c1,c2,rfl,h1,h2⟩:=abm hc;refine wpIn_seq (wpIn_mono (h c1 h1 r (λe=>hr (by simp[bq.hasRF,e])) w0 S0 E a w hst) λe a' w' ⟨w1,S1,E',T',L',b,g1,g2,g3⟩=>?_);cases e;obtain⟨T2,L2,k1,k2⟩:=g2;obtain⟨E3,q1,q2⟩:=g3.cut g1 hst.1.none_of k1;obtain⟨_,X,_,hlen,_⟩:=k1;exact wpIn_mono (hq T2 L2 k2 hlen c2 h2 r (λe=>hr (by simp[bq.hasRF,e])) w1 S1 E3 a' w' q2) λe a'' w'' ⟨w2,S2,E4,T4,L4,b2,k1,k2,k3⟩=>⟨w2,S2,E4,T4,L4,b.trans b2,q1.trans k1,k2,k3⟩
 all_goals exact⟨w1,S1,E',T',L',b,g1,g2,g3⟩
theorem TR.cons{E:Env}{a:Act}{t:Nat}{v:AV}(r:TR E T a)(hv:VR E v (a.tmps.getD t undef)):TR E ((t,v)::T) a:=λt' v' h=>by simp only[ay]at h;split at h;simp_all;exact r t' v' h
theorem bK{lc:bq}(t sz:Nat){l:List AV}{n:Nat}(h1:ay T t=some (.sl l n (some n)))(h2:l.length=n*sz)(h:AW P N own lc Q ((t,.gsl l n L.length sz)::T) (L++[.spare n sz])):AW P N own lc Q T L:=λc hl r hr w0 S0 E a w hst=>by
 obtain⟨r1,r2⟩:=hst.1.addtok (n:=n) (sz:=sz) (lc:=none) R4;have hv:=hst.2.1 t _ h1;have hT:=hst.2.1.mono r1;refine wpIn_mono (h c hl r hr w0 S0 _ a w ⟨r2,hT.cons ?_,hst.2.2⟩) λe a' w' ⟨w1,S1,E',T1,L1,b,k1,k2,k3⟩=>⟨w1,S1,E',T1,L1,b,r1.trans k1,k2,k3⟩
 have hv':=VR.mono r1 _ _ hv;obtain⟨p,c',q1,q2,q3,q4⟩:=hv';exact⟨p,c',q1,q2,h2,q4,⟨n,sz,none⟩,amN,ajs _,λ_=>⟨rfl,λ_=>q3 n rfl,amN⟩⟩
theorem bm{x:Opd}{y z:bq}{p:Prop}[Decidable p](hx:evX T x=some (.bool (decide p)))(ht:p->AW P N own y Q T L)(hf:¬p->AW P N own z Q T L):AW P N own (.cond x y z) Q T L :=
 br hx (λe=>ht (of_decide_eq_true e)) (λe=>hf (of_decide_eq_false e))
theorem bj{x:Opd}{y z:bq}{p:Prop}[Decidable p](hx:evX T x=some (.bool (!decide p)))(ht:¬p->AW P N own y Q T L)(hf:p->AW P N own z Q T L):AW P N own (.cond x y z) Q T L :=
 br hx (λe=>ht (of_decide_eq_false (by simpa using e))) (λe=>hf (of_decide_eq_true (by simpa using e)))
end
section
variable {P:Program}{K:Tm->Prop}{L L1:List Blk}{Ls:List (List Blk)}{p:AV}{d:Option Nat}{op:LOp}{rest:List aw}{T:Tm}{t:Nat}{b:Bool}{al:Option Nat}{n:Nat}
def afc(L:List Blk)(k:AV->Prop):Option (Prop×AV×List Blk)->Prop
 |some (c,av,L')=>c/\L'=L/\k av
 |none=>False
theorem acY{k:AV->Prop}{c:Prop}{av:AV}{L':List Blk}:afc L k (some (c,av,L'))=(c/\L'=L/\k av):=rfl
def aaK(L L1:List Blk)(k:AV->Prop):Option (Prop×AV×List Blk)->Option (Prop×AV×List Blk)->Prop
 |some (c,av,L'),some (c2,av2,L2)=>c/\L'=L/\c2/\av2=av/\L2=L1/\k av
 |_,_=>False
theorem acX{k:AV->Prop}{c c2:Prop}{av av2:AV}{L' L2:List Blk}:aaK L L1 k (some (c,av,L')) (some (c2,av2,L2))=(c/\L'=L/\c2/\av2=av/\L2=L1/\k av):=rfl
def aii(P:Program)(f:FuncId)(L:List Blk)(k:AV->Prop):Option (List AV)->Prop
 |some args=>∃v,af P f args L (λav L'=>av=v/\L'=L)/\k v
 |none=>False
def agT(P:Program)(f:FuncId)(L L1:List Blk)(k:AV->Prop):Option (List AV)->Prop
 |some args=>∃v,af P f args L (λav L'=>av=v/\L'=L)/\af P f args L1 (λav L'=>av=v/\L'=L1)/\k v
 |none=>False
def ZB(b:Bool)(y n:Prop):Option AV->Prop
 |some (.bool x)=>if x=b then y else n
 |some (.tup [])=>n
 |_=>False
theorem ac0{b x:Bool}{y n:Prop}:ZB b y n (some (.bool x))=if x=b then y else n:=rfl
theorem afg{b:Bool}{y n:Prop}:ZB b y n (some (.tup []))=n:=rfl
def ahc(P:Program)(f:FuncId)(args:List AV)(L L1:List Blk)(k:AV->Prop):Prop:=∃v,af P f args L (λav L'=>av=v/\L'=L)/\af P f args L1 (λav L'=>av=v/\L'=L1)/\k v
theorem bQ{f:FuncId}{args:List AV}{k:AV->Prop}{v:AV}(h:af P f args L (λav L'=>av=v/\L'=L))(h1:af P f args L1 (λav L'=>av=v/\L'=L1))(hk:k v):ahc P f args L L1 k:=⟨v,h,h1,hk⟩
theorem aih{f:FuncId}{k:AV->Prop}{args:List AV}:aii P f L k (some args)=afl P f args L k:=rfl
theorem aig{f:FuncId}{k:AV->Prop}{args:List AV}:agT P f L L1 k (some args)=ahc P f args L L1 k:=rfl
theorem afn{o:aw}{v:AV}(h:o.op.isCall=false):AQv P o T L v=(match au T L o.op with|some (c,av,L')=>c/\av=v/\L'=L|none=>False):=by obtain⟨d,op,g⟩:=o;cases op<;>simp only[LOp.isCall,akx]at h<;>rfl
def Wm(P:Program)(L:List Blk)(k:AV->Prop)(T:Tm)(op:LOp):Prop :=
 match op with
 |.call f xs=>aii P f L k (gR T xs)
 |.callv f xs=>∃v,AQv P ⟨none,.callv f xs,none⟩ T L v/\k v
 |lo=>afc L k (au T L lo)
def ae9(P:Program)(L L1:List Blk)(k:AV->Prop)(T:Tm)(op:LOp):Prop :=
 match op with
 |.call f xs=>agT P f L L1 k (gR T xs)
 |.callv f xs=>∃v,(AQv P ⟨none,.callv f xs,none⟩ T L v/\AQv P ⟨none,.callv f xs,none⟩ T L1 v)/\k v
 |lo=>aaK L L1 k (au T L lo) (au T L1 lo)
def AGK(P:Program)(K:Tm->List Blk->Prop)(Ls:List (List Blk))(H:List ma)(rest:List (aw×Kd))(d:Option Nat)(T:Tm)(av:AV):Prop:=AG P K rest Ls H (cB d av T)
def AGR(P:Program)(K:Tm->List Blk->Prop)(Ls:List (List Blk))(H:List ma)(rest:List (aw×Kd))(f:Nat)(o:aw)(T:Tm)(av:AV):Prop:=AG P K rest Ls (aae f o T av H) (cB o.dst av T)
def AGE(P:Program)(K:Tm->List Blk->Prop)(Ls:List (List Blk))(H:List ma)(rest:List (aw×Kd))(d:Option Nat)(T:Tm)(av:AV)(L2:List Blk):Prop:=Fq P L2 H/\AG P K rest (L2::Ls) (On H) (cB d av T)
def afb(k:AV->List Blk->Prop):Option (Prop×AV×List Blk)->Prop
 |some (c,av,L2)=>c/\k av L2
 |none=>False
theorem acW{k:AV->List Blk->Prop}{c:Prop}{av:AV}{L2:List Blk}:afb k (some (c,av,L2))=(c/\k av L2):=rfl
def IsV(v av:AV):Prop:=av=v
theorem ahJ{o:aw}{T:Tm}{v:AV}{H:List ma}:aae 0 o T v H=H:=rfl
theorem ahI{f:Nat}{o:aw}{T:Tm}{v:AV}{H:List ma}:aae (f+1) o T v H=(f+1,o,T,v)::H:=rfl
theorem aeO:On []=[]:=rfl
theorem aeN{y:aw×Tm×AV}{H:List ma}:On ((1,y)::H)=On H:=rfl
theorem ahR{y:aw×Tm×AV}{H:List ma}:On ((n+2,y)::H)=(n+1,y)::On H:=rfl
theorem Kb{k:AV->Prop}:(∃v,AQ P ⟨d,op,none⟩ T L v/\k v)=Wm P L k T op:=by
 by_cases h:op.isCall=false;have e:Wm P L k T op=afc L k (au T L op):=by cases op<;>simp only[LOp.isCall,akx]at h<;>rfl
 rw[e];simp only[AQ,afn (o:=⟨d,op,none⟩) h];rcases au T L op with _|⟨c,av,L'⟩;simp[afc];simp only[afc,eq_iff_iff]
 grind
 cases op<;>simp only[LOp.isCall,not_true_eq_false]at h;rename_i f xs;simp only[AQ,AQv,Wm];rcases gR T xs with _|args;simp[aii];rfl;rfl
theorem agV{k:AV->Prop}:(∃v,(AQ P ⟨d,op,none⟩ T L v/\AQ P ⟨d,op,none⟩ T L1 v)/\k v)=ae9 P L L1 k T op:=by
 by_cases h:op.isCall=false;have e:ae9 P L L1 k T op=aaK L L1 k (au T L op) (au T L1 op):=by cases op<;>simp only[LOp.isCall,akx]at h<;>rfl
 rw[e];simp only[AQ,afn (o:=⟨d,op,none⟩) h];rcases au T L op with _|⟨c,av,L'⟩<;>rcases au T L1 op with _|⟨c2,av2,L2⟩;simp[aaK];simp[aaK];simp[aaK];simp only[aaK,eq_iff_iff]
 grind
 cases op<;>simp only[LOp.isCall,not_true_eq_false]at h;rename_i f xs;simp only[AQ,AQv,ae9];rcases gR T xs with _|args;simp[agT];simp only[agT,and_assoc];rfl
theorem aaR{k:AV->Prop}{g:aw->AV->Prop}(hg:∀v,g ⟨d,op,some (t,b)⟩ v=match ay T t with|some (.bool x)=>if x=b then g ⟨d,op,none⟩ v else v=.tup []|some (.tup [])=>v=.tup []|_=>False):
  (∃v,g ⟨d,op,some (t,b)⟩ v/\k v)=ZB b (∃v,g ⟨d,op,none⟩ v/\k v) (k (.tup [])) (ay T t):=by
 simp only[hg];rcases ay T t with _|x;simp[ZB];cases x<;>simp only[ZB,false_and,exists_false]
 grind
 grind
theorem aim{K:Tm->List Blk->Prop}{H:List ma}:AG P K [] (L::Ls) H T=K T L:=rfl
theorem agX{K:Tm->List Blk->Prop}{H:List ma}{r:List (aw×Kd)}:AG P K ((⟨d,op,none⟩,.pure)::r) (L::Ls) H T=Wm P L (AGK P K (L::Ls) H r d T) T op:=Kb
theorem afs{K:Tm->List Blk->Prop}{H:List ma}{r:List (aw×Kd)}:AG P K ((⟨d,op,some (t,b)⟩,.pure)::r) (L::Ls) H T=ZB b (Wm P L (AGK P K (L::Ls) H r d T) T op) (AGK P K (L::Ls) H r d T (.tup [])) (ay T t):=by rw[<- Kb (d:=d)];exact aaR (g:=λo v=>AQ P o T L v) λv=>rfl
theorem afr{K:Tm->List Blk->Prop}{H:List ma}{r:List (aw×Kd)}{f:Nat}:AG P K ((⟨d,op,none⟩,.read 0 f)::r) (L::Ls) H T=Wm P L (AGR P K (L::Ls) H r f ⟨d,op,none⟩ T) T op:=by rw[<- Kb (d:=d)];simp only[AG,ald,akW,ajI,forall_eq,AGR]
theorem ac4{K:Tm->List Blk->Prop}{H:List ma}{r:List (aw×Kd)}{f:Nat}:AG P K ((⟨d,op,some (t,b)⟩,.read 0 f)::r) (L::Ls) H T=ZB b (Wm P L (AGR P K (L::Ls) H r f ⟨d,op,some (t,b)⟩ T) T op) (AGR P K (L::Ls) H r f ⟨d,op,some (t,b)⟩ T (.tup [])) (ay T t):=by rw[<- Kb (d:=d)];simp only[AG,ald,akW,ajI,forall_eq];exact aaR (g:=λo v=>AQ P o T L v) (k:=AGR P K (L::Ls) H r f ⟨d,op,some (t,b)⟩ T) λv=>rfl
theorem afq{K:Tm->List Blk->Prop}{H:List ma}{r:List (aw×Kd)}{f:Nat}:AG P K ((⟨d,op,none⟩,.read 1 f)::r) (L::L1::Ls) H T=ae9 P L L1 (AGR P K (L::L1::Ls) H r f ⟨d,op,none⟩ T) T op:=by rw[<- agV (d:=d)];simp only[AG,ald,akW,ajM,akl,or_false,forall_eq_or_imp,forall_eq,AGR]
def aiZ(P:Program)(L:List Blk)(k:AV->List Blk->Prop)(T:Tm)(op:LOp):Prop :=
 match op with
 |.call f xs=>∃v L2,EQv P ⟨none,.call f xs,none⟩ T L v L2/\k v L2
 |.callv f xs=>∃v L2,EQv P ⟨none,.callv f xs,none⟩ T L v L2/\k v L2
 |lo=>afb k (au T L lo)
theorem ain{K:Tm->List Blk->Prop}{H:List ma}{r:List (aw×Kd)}:AG P K ((⟨d,op,none⟩,.eff)::r) (L::Ls) H T=aiZ P L (AGE P K (L::Ls) H r d T) T op:=by
 simp only[AG,EQ];have key:∀lo:LOp,lo.isCall=false->(∃v L2,EQv P ⟨d,lo,none⟩ T L v L2/\AGE P K (L::Ls) H r d T v L2)=afb (AGE P K (L::Ls) H r d T) (au T L lo):=λlo hlo=>by
  have e:∀v L2,EQv P ⟨d,lo,none⟩ T L v L2=(match au T L lo with|some (c,av,L')=>c/\av=v/\L'=L2|none=>False):=λv L2=>by cases lo<;>simp only[LOp.isCall,akx]at hlo<;>rfl
  simp only[e];rcases au T L lo with _|⟨c,av,L'⟩;simp[afb];simp only[afb,eq_iff_iff]
  grind
 have key2:(∃v L2,EQv P ⟨d,op,none⟩ T L v L2/\Fq P L2 H/\AG P K r (L2::L::Ls) (On H) (cB d v T))=(∃v L2,EQv P ⟨d,op,none⟩ T L v L2/\AGE P K (L::Ls) H r d T v L2):=rfl;cases op
 case call=>rfl
 case callv=>rfl
 all_goals exact key _ rfl
theorem acZ:Fq P L []=True:=rfl
theorem aaL{f:Nat}{v:AV}{H:List ma}:Fq P L ((f,⟨d,op,none⟩,T,v)::H)=(Wm P L (IsV v) T op/\Fq P L H):=by rw[<- Kb (d:=d)];simp[Fq,IsV]
theorem Zv{f:Nat}{v:AV}{H:List ma}:Fq P L ((f,⟨d,op,some (t,b)⟩,T,v)::H)=(ZB b (Wm P L (IsV v) T op) (IsV v (.tup [])) (ay T t)/\Fq P L H):=by rw[<- Kb (d:=d),<- aaR (g:=λo v=>AQ P o T L v) (k:=IsV v) (d:=d) (op:=op) (t:=t) (b:=b) (T:=T) λv=>rfl];simp[Fq,IsV]
theorem bI{N:Nat}{own:Nat->Nat->Nat}{Q:Exit->Tm->List Blk->Prop}{qk:List (aw×Kd)}{ts:List aw}(h:AG P (ku P (Q .normal) ts) qk [L] [] T):AW P N own (.dregion qk ts) Q T L:=V3 h
end
theorem WZ(xs:List Int):AV.frzL (xs.map (AV.int .i64))=xs.map (AV.int .i64):=by rw[AV.frzL_eq,ajS];rfl
theorem ad0(xs:List Int):(xs.map (AV.int .i64)).all AV.one=true:=by rw[List.all_map];simp[AV.one]
theorem ahh:IntKind.i64.wrap 0=0:=by decide
theorem ahg:IntKind.i64.wrap 1=1:=by decide
theorem ahf:IntKind.i64.wrap 2=2:=by decide
theorem afv:IntKind.i64.wrap (-1)=-1:=by decide
structure Nx(p:Prop):Prop where
 o:p
structure NxI(c p:Prop):Prop where
 o:c->p
theorem cD{c p:Prop}(h:c->p):NxI c p:=⟨h⟩
theorem dN{p:Prop}(h:p):Nx p:=⟨h⟩
section
variable {P:Program}{L:List Blk}{body:List SOp}{d:Nat}{x:Opd}{k:Tm->Prop}{T:Tm}{c:Prop}[Decidable c]{p q:Bool}
theorem cF(h:NxI (c) (GL P L body (IsX x q) T))(hk:Nx (k ((d,.bool (decide c&&q))::T))):GQ P L true body d x k T (decide c):=⟨q,λe=>h.o (of_decide_eq_true e),hk.o⟩
theorem bD(h:NxI (¬c) (GL P L body (IsX x q) T))(hk:Nx (k ((d,.bool (!decide c&&q))::T))):GQ P L true body d x k T (!decide c):=⟨q,λe=>h.o (by simpa using e),hk.o⟩
theorem cG(h:NxI (¬c) (GL P L body (IsX x q) T))(hk:Nx (k ((d,.bool (decide c ||q))::T))):GQ P L false body d x k T (decide c):=⟨q,λe=>h.o (of_decide_eq_false e),hk.o⟩
theorem bE(h:NxI (c) (GL P L body (IsX x q) T))(hk:Nx (k ((d,.bool (!decide c ||q))::T))):GQ P L false body d x k T (!decide c):=⟨q,λe=>h.o (by simpa using e),hk.o⟩
theorem cH(h:NxI (p=true) (GL P L body (IsX x q) T))(hk:Nx (k ((d,.bool (p&&q))::T))):GQ P L true body d x k T p:=⟨q,h.o,hk.o⟩
theorem bF(h:NxI (p=false) (GL P L body (IsX x q) T))(hk:Nx (k ((d,.bool (p ||q))::T))):GQ P L false body d x k T p:=⟨q,h.o,hk.o⟩
variable {a b:Prop}[Decidable a][Decidable b]
theorem ah2:(decide a&&decide b)=decide (a/\b):=(alA a b).symm
theorem ahZ:(!decide a&&decide b)=decide (¬a/\b):=by simp[alA]
theorem ah1:(decide a && !decide b)=decide (a/\¬b):=by simp[alA]
theorem ahY:(!decide a && !decide b)=decide (¬a/\¬b):=by simp[alA]
theorem aiv:(decide a ||decide b)=decide (a\/b):=(al4 a b).symm
theorem ait:(!decide a ||decide b)=decide (¬a\/b):=by simp[al4]
theorem aiu:(decide a || !decide b)=decide (a\/¬b):=by simp[al4]
theorem ais:(!decide a || !decide b)=decide (¬a\/¬b):=by simp[al4]
end
attribute [push_cast] agQ evD deg ajQ aib ai4 aic agS ai3 ai2 aiY ah6 aiX ah5 ah7 aa3 agZ ag0 afh ai5 abB ai1 GOp IsX ah2 ahZ ah1 ahY aiv ait aiu ais aj7 alw akp al5 alf alP akE al6 alc alL
attribute [push_cast] ahh ahg ahf afv AGK AGR AGE IsV acW ahJ ahI aeO aeN ahR aim agX afs afr ac4 afq ain aiZ acZ aaL Zv acY acX aih aig ac0 afg Wm ae9 eq_self aaQ Yy afo ac3 aaS xL X7 afa afk ac1 AOp au evX gR ay cB bin agG agF un eqA row jq AV.cells? bnd Zw aaN am Uu Yy elems app VT fq AV.frz AV.frzL WZ ad0 akV Option.bind_none ajQ aj8 aks aml if_true if_false true_and and_true ajz aj9 ajA ajR akn akv XO oK afR afQ agO akd aj0 aj6 akz akw Nat.mul_one Nat.one_mul ajX Nat.mul_zero alg alQ alc alL decide_true decide_false forall_const not_true_eq_false not_false_eq_true ne_eq ajK akx alB alR ald akW dw List.set_cons_zero ak2 akL aly AV.one alo alw aj7 false_implies implies_true decide_eq_true_eq decide_eq_false_iff_not alz Int.toNat_zero Int.toNat_natCast akb Bool.not_not Bool.not_eq_false
theorem Rel.frzB{w0:World}{S0:SB}{E:Env}{L:List Blk}{w:World}(h:Rel w0 S0 E L w){i:Nat}{c:List AV}(hL:L[i]?=some (.cells c)):Rel w0 S0 E (L.set i (.cells (AV.frzL c))) w:=by
 have hi:i<L.length:=(ajr.1 hL).1;have fix:∀(j:Nat) (k:Blk),(L.set i (.cells (AV.frzL c)))[j]?=some k->k.live=true->∃k',L[j]?=some k'/\k'.live=true:=λj k hk hl=>by rw[aj1]at hk;split at hk;rename_i e;subst e;exact⟨_,hL,rfl⟩;exact⟨k,hk,hl⟩
 have fixs:∀(j n sz:Nat),(L.set i (.cells (AV.frzL c)))[j]?=some (.spare n sz)->L[j]?=some (.spare n sz):=λj n sz hk=>by rw[aj1]at hk;split at hk;cases hk;exact hk
 refine⟨h.mem,λj k hk=>?_,λi hi=>h.fresh i (by simpa using hi),λi k c hk hl hc=>?_,λi j k k' c c' hi li hj lj=>?_,
  λi hi=>h.tkfresh i (by simpa using hi),λi n sz t d hi=>h.tkown i n sz t d (fixs i n sz hi),λi n sz t d j k' c' hi ht hd hj hl=>?_,
  λi n sz t d i' n' sz' t' d' hi ht hd hi'=>h.tkinj i n sz t d i' n' sz' t' d' (fixs i n sz hi) ht hd (fixs i' n' sz' hi'),h.frame,h.size,h.os,h.tape,h.output,h.glob,h.gsz⟩
 rw[aj1]at hk;split at hk;rename_i e;subst e;cases hk;obtain⟨cl,cs,ty,fr,g1,g2,g3,g4,g5,g6⟩:=h.blk _ _ hL;refine⟨cl,cs,ty,fr,g1,g2,g3,by rw[AV.frzL_eq];simpa using g4,λj a ha=>?_,g6⟩;rw[AV.frzL_eq,akr,ajW]at ha;obtain⟨b,hb,rfl⟩:=ha;obtain⟨v,h1,h2⟩:=g5 j b hb;exact⟨v,h1,VR.frz _ _ h2⟩;exact h.blk j k hk;obtain⟨k',h1,h2⟩:=fix i k hk hl;exact h.own i k' c h1 h2 hc;obtain⟨k1,h1,h2⟩:=fix i k hi li;obtain⟨k2,h3,h4⟩:=fix j k' hj lj;exact h.inj i j k1 k2 c c' h1 h2 h3 h4;obtain⟨k1,h1,h2⟩:=fix j k' hj hl;exact h.tkloc i n sz t d j k1 c' (fixs i n sz hi) ht hd h1 h2
theorem gZ{P:Program}{f:FuncId}{args:List AV}{L:List Blk}{K:AV->List Blk->Prop}(h:af P f (AV.frzL args) L K):af P f args L K:=λw0 S0 E w vs hR hv =>
 h w0 S0 E w vs hR (VRL.frz _ _ hv)
end Go.Proofs.YtdnfjhflkkpokaaGreatDoor.Av
