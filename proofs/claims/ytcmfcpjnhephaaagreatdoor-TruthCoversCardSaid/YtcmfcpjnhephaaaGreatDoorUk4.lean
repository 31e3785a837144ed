/- Joined texts of the walk, made small by a program. -/
import Derived.Test.YtcmfcpjnhephaaaGreatDoorUk3
import Derived.Scope
import Derived.Test.YtcmfcpjnhephaaaGreatDoorProg
set_option linter.unusedSimpArgs false
set_option linter.unusedVariables false
namespace Go.Proofs.YtcmfcpjnhephaaaGreatDoor.Av
open Go
variable {P:Program}{T T':Tm}{L L2 L':List Blk}{v:AV}{K:Tm->List Blk->Prop}{k:Tm->Prop}{t d B:Nat}{b:Bool}{x:Opd}{α:Type}{n:Int}{p:Prop}
def EQv(P:Program)(o:aj)(T:Tm)(L:List Blk)(v:AV)(L2:List Blk):Prop :=
 match o.op with
 | .call f xs=>match gC T xs with
   |some args=>ae P f args L λav L'=>av=v/\L'=L2
   |none=>False
 | .callv f xs=>match evX T f,gC T xs with
   |some (.func g caps),some args=>ae P g (args++caps) L λav L'=>av=v/\L'=L2
   |_,_=>False
 | lo=>match ak T L lo with
   |some (c,av,L')=>c/\av=v/\L'=L2
   |none=>False
def EQ(P:Program)(o:aj)(T:Tm)(L:List Blk)(v:AV)(L2:List Blk):Prop :=
 match o.guard with
 |none=>EQv P o T L v L2
 | some (t,b)=>match aq T t with
   |some (.bool x)=>if x=b then EQv P o T L v L2 else v=.tup []/\L2=L
   |some (.tup [])=>v=.tup []/\L2=L
   |_=>False
theorem EQv.congr{o:aj}(h1:∀t∈o.op.tmps,aq T t=aq T' t)(hv:EQv P o T L v L2):EQv P o T' L v L2:=by unfold EQv at hv⊢;split at hv;rename_i f xs e;rw[e]at h1;rw[<- oD (l:=xs) h1];exact hv;rename_i f xs e;rw[e]at h1;simp only[LOp.tmps,alv]at h1;rw[<- oD (l:=xs) (λt ht=>h1 t (.inr ht)),<- az (x:=f) (λt ht=>h1 t (.inl ht))];exact hv;rw[<- Se h1];exact hv
theorem EQ.congr{o:aj}(h:∀t∈o.reads,aq T t=aq T' t)(hq:EQ P o T L v L2):EQ P o T' L v L2:=by
 have h1:∀t∈o.op.tmps,aq T t=aq T' t:=λt ht=>h t (by simp[aj.reads,ht])
 unfold EQ at hq⊢;split at hq;exact hq.congr h1;rename_i t b hg;rw[<- h t (by simp[aj.reads,hg])];split at hq;split at hq;rename_i e;rw[if_pos e];exact hq.congr h1;rename_i e;rw[if_neg e];exact hq;exact hq;exact hq.elim
theorem EQv.aop{o:aj}(hq:EQv P o T L v L2):AOp P o (λT' L'=>T'=cM o.dst v T/\L'=L2) T L:=by
 unfold EQv at hq;unfold AOp;split at hq;rename_i f xs e;simp only[e];split at hq;rename_i args ha;rw[ha];exact ae.mono hq λav L' ⟨h1,h2⟩=>⟨by rw[h1],h2⟩
 exact hq.elim;rename_i f xs e;simp only[e];split at hq;rename_i g caps args hf ha;rw[hf,ha];exact ae.mono hq λav L' ⟨h1,h2⟩=>⟨by rw[h1],h2⟩
 exact hq.elim;rename_i lo h1 h2;split at hq;rename_i c av L' he;have hres:Res (λT' L'=>T'=cM o.dst v T/\L'=L2) o.dst T (ak T L o.op):=by rw[he];obtain⟨hc,rfl,rfl⟩:=hq;exact⟨hc,rfl,rfl⟩
 obtain⟨d,lop,g⟩:=o;cases lop<;>first|exact hres|(simp[ak]at he)
 exact hq.elim
theorem EQ.aops{o:aj}(hq:EQ P o T L v L2):oI P (λT' L'=>T'=cM o.dst v T/\L'=L2) [o] T L:=by unfold EQ at hq;simp only[oI];split at hq;rename_i hg;simp only[hg];exact hq.aop;rename_i t b hg;simp only[hg];split at hq;rename_i x hx;rw[hx,KL];split at hq;rename_i e;rw[if_pos e];exact hq.aop;rename_i e;rw[if_neg e];exact⟨by rw[hq.1],hq.2.symm⟩;rename_i hx;rw[hx,ac0];exact⟨by rw[hq.1],hq.2.symm⟩;exact hq.elim
def done(es:List Nat)(listed:Array Bool):Nat:=es.countP λe=>listed.getD e false
theorem Uf:∀(es:List Nat) (f:Nat->Bool) (m:Nat),(∀(j e:Nat),es[j]?=some e->f e=decide (j<m))->m<=es.length->es.countP f=m
 |[],f,m,_,hm=>by simp at hm;simp[hm]
 | e::es,f,0,h,_=>by
   refine aow.2 λx hx=>?_
   obtain⟨j,hj,rfl⟩:=amJ.1 hx;have:=h j _ (alH hj);simp[this]
 |e::es,f,m+1,h,hm=>by rw[List.countP_cons_of_pos (by have:=h 0 e rfl;simpa using this)];rw[Uf es f m (λj x hx=>by have:=h (j+1) x (by simpa using hx);rw[this];congr 1;simp) (by simpa using hm)]
theorem TY:∀(es:List Nat) (f:Nat->Bool),(∀(j j' e e':Nat),es[j]?=some e->es[j']?=some e'->j<j'->f e'=true->f e=true)->∀(j e:Nat),es[j]?=some e->f e=decide (j<es.countP f)
 |[],f,_,j,e,h=>by simp at h
 | x::es,f,hp,j,e,h=>by
   have ih:=TY es f λa b y z h1 h2 h3=>hp (a+1) (b+1) y z (by simpa using h1) (by simpa using h2) aoJ
   by_cases hx:f x=true
   .rw[List.countP_cons_of_pos hx];cases j with
    |zero=>simp at h;subst h;simp[hx]
    |succ j=>rw[ih j e (by simpa using h)];congr 1;simp
   .have all:∀y∈es,f y=false:=λy hy=>by
     obtain⟨k,hk,rfl⟩:=amJ.1 hy;rcases hf:f es[k]with _|_
     .rfl
     .exact absurd (hp 0 (k+1) x es[k] rfl aoK aoJ hf) hx
    rw[List.countP_cons_of_neg hx,aow.2 (λy hy=>by simp[all y hy])];simp only[Nat.not_lt_zero,decide_false];cases j with
    |zero=>simp at h;subst h;simpa using hx
    |succ j=>exact all e (al8 (by simpa using h))
section
variable {P:Program}{r:Option Nat}{w0:World}{S0:SB}{N:Nat}{own:Nat->Nat}{ops:Array Oper}{L:List Blk}
theorem ab4{los:List aj}{n:Nat}(hlow:ce P N own ops (List.range ops.size)=some los)(hok:Km ops los n=true){qs ts:List aj}(hsplit:los=qs++ts)(hn:qs.length=n){es:List Nat}{Ms:Nat->List Blk}(hes:∀e∈es,e<qs.length)(hch:∀(j j' e e':Nat),es[j]?=some e->es[j']?=some e'->j<j'->((qo ops.toList []).getD e' 0).testBit e=true){K:Tm->List Blk->Prop}{T:Tm}{Q:Exit->Act->World->Prop}{E0:Env}{tr:List AV}(htr:tr.length=qs.length)(hq:∀(i:Nat) (o:aj) (v:AV),qs[i]?=some o->tr[i]?=some v->(∃m,es[m]?=some i/\EQ P o (TL T qs tr 0 λj=>decide (j<i)) (Ms m) v (Ms (m+1))) \/
   (i∉es/\∀m,m<=es.length->(∀(j e:Nat),es[j]?=some e->j<m->((qo ops.toList []).getD e 0).testBit i=false)->(∀(j e:Nat),es[j]?=some e->m<=j->((qo ops.toList []).getD i 0).testBit e=false)->AQ P o (TL T qs tr 0 λj=>decide (j<i)) (Ms m) v))(hK:oI P K ts (TL T qs tr 0 λ_=>true) (Ms es.length))(hQ:∀E' T' L' a' w',E0.le E'->K T' L'->St w0 S0 N E' T' L' a' w'->Q .normal a' w'):
  ∀(fuel:Nat) (listed:Array Bool) (a:Act) (w:World) (E:Env),listed.size=ops.size->listed.toList.count false=fuel->Tt ops listed->E0.le E ->
   (∀i,qs.length<=i->listed.getD i false=false)->St w0 S0 N E (TL T qs tr 0 λj=>listed.getD j false) (Ms (done es listed)) a w->wpAnyIn (fw r) 0 P .any ops Q fuel listed a w:=by
 simp only[Km,alx]at hok;generalize htbl:qo ops.toList []=tbl at hok hch hq;obtain⟨⟨⟨⟨hdist,htied⟩,hahead⟩,hfix⟩,hchain⟩:=hok;have hget:=xX hlow;have hlen:los.length=ops.size:=by simpa using hget.1
 have hlo:∀i,i<ops.size->∃lo,los[i]?=some lo/\oL P N own ops i=some lo:=λi hi=>hget.2 i i (by simp[hi])
 have hD:aaQ qs:=by
  have:=VY hdist;rw[hsplit]at this;have sub:∀(qs ts:List aj),aaQ (qs++ts)->aaQ qs:=by
   intro qs;induction qs with
   |nil=>intro _ _;trivial
   |cons q qs ih=>intro ts h;exact⟨λp hp=>h.1 p (by simp[hp]),ih ts h.2⟩
  exact sub _ _ this
 have hqlen:qs.length+ts.length=ops.size:=by rw[<- hlen,hsplit];simp
 have allListed:∀listed:Array Bool,listed.size=ops.size->Region.ready .any ops listed=[]->∀i,i<ops.size->listed.getD i false=true:=by
  intro listed hsz hr i;induction i using Nat.strongRecOn with
  | _ i ih =>
    intro hi;rcases hb:listed.getD i false with _|_
    .exfalso;have:i∈Region.ready .any ops listed:=by
      refine mem_ready.2 ⟨?_,ops[i],amb hi,λe he hbd=>?_⟩
      .have hi':i<listed.size:=aoJ;simp[amp,hi']at hb⊢;exact hb
      .have:=alC.1 hahead (ops[i],i) (by rw[anF];simp[hi])
       have:=alC.1 this e (by simpa using he);simp only[hbd,am0,amY,decide_eq_true_eq]at this;exact ih e.on this aoJ
     rw[hr]at this;cases this
    .rfl
 have getD_eq:∀(listed:Array Bool) (i:Nat),listed.size=ops.size->i<ops.size->listed.getD i true=listed.getD i false:=λlisted i h1 h2=>by have:i<listed.size:=aoJ;simp[amp,this]
 have finish:∀(listed:Array Bool) (a:Act) (w:World) (E:Env) (fuel:Nat),listed.size=ops.size->listed.toList.count false=fuel->Tt ops listed->E0.le E->(∀i,qs.length<=i->listed.getD i false=false)->St w0 S0 N E (TL T qs tr 0 λj=>listed.getD j false) (Ms (done es listed)) a w ->
   (∀i,i<qs.length->listed.getD i false=true)->wpAnyIn (fw r) 0 P .any ops Q fuel listed a w:=by
  intro listed a w E fuel hsz hcnt hcl hE hnot hst hall;have hTL:TL T qs tr 0 (λj=>listed.getD j false)=TL T qs tr 0 λ_=>true:=WB λj hj=>by simp only[amG];exact hall j hj
  have hL:Ms (done es listed)=Ms es.length:=by congr 1;exact List.countP_eq_length.2 λe he=>hall e (hes e he)
  rw[hTL,hL]at hst;have hdrop:los.drop qs.length=ts:=(by rw[hsplit];simp);have hfuel:fuel=ts.length:=by
   rw[<- hcnt,<- Nat.add_left_cancel_iff (n:=qs.length),hqlen,<- hsz];have e:listed.toList=List.replicate qs.length true++List.replicate (listed.size-qs.length) false:=by
    apply amW;intro i;rcases alK i qs.length with h1|h1
    .have:=hall i h1;have hlt:i<listed.size:=aoJ;rw[aly (by simpa using h1)];simp[amp,hlt]at this;simp[hlt,h1,this]
    .rw[alT (by simpa using h1)];have:=hnot i h1;rcases alK i listed.size with h2|h2
     .simp[amp,h2]at this;simp only[aox];rw[List.getElem?_replicate];rw[if_pos aoJ];simp[h2,this]
     .rw[amI (by simpa using h2),amI (by simp;omega)]
   rw[e];simp[List.count_append,List.count_replicate];omega
  rw[hfuel];exact aa0 hlow hahead hfix hchain hQ ts qs.length listed _ _ a w E aoJ hqlen hdrop hsz (λi hi=>by
   rcases alK i qs.length with h1|h1
   .rw[hall i h1];simpa using h1
   .rw[hnot i h1];simpa using h1) hcl hE hst hK
 intro fuel;induction fuel with
 | zero =>
   intro listed a w E hsz hcnt hcl hE hnot hst;have hr:Region.ready .any ops listed=[]:=by
    refine aov.2 λi hi=>?_
    obtain⟨h1,o,ho,_⟩:=mem_ready.1 hi;have hi':i<ops.size:=(amt.1 ho).1;have:false∈listed.toList:=by have hlt:i<listed.size:=aoJ;simp[amp,hlt]at h1;rw[<- h1];simp
    rw[List.count_eq_zero]at hcnt;exact hcnt this
   exact finish listed a w E 0 hsz hcnt hcl hE hnot hst λi hi=>allListed listed hsz hr i aoJ
 | succ fuel ih =>
   intro listed a w E hsz hcnt hcl hE hnot hst;by_cases hall:∀i,i<qs.length->listed.getD i false=true
   .exact finish listed a w E _ hsz hcnt hcl hE hnot hst hall
   refine⟨λhr=>absurd (λi hi=>allListed listed hsz hr i aoJ) hall,λi hi=>?_⟩;obtain⟨hun,o,ho,hedges⟩:=mem_ready.1 hi;have hi':i<ops.size:=(amt.1 ho).1;have hun':listed.getD i false=false:=(by rw[<- getD_eq listed i hsz hi'];exact hun);obtain⟨lo,hlo1,hlo2⟩:=hlo i hi';have hready:∀o',ops[i]?=some o'->∀e∈o'.after,Region.binds .any e=true->listed.getD e.on false=true:=λo' ho'=>by rw[ho]at ho';cases ho';exact hedges
   have hset:∀k,(listed.setIfInBounds i true).getD k false=if k=i then true else listed.getD k false:=λk=>by
    by_cases e:k=i
    .subst e;have:k<listed.size:=aoJ;simp[amp,this]
    .rw[if_neg e];exact getD_set_ne false (Ne.symm e)
   have hcnt':(listed.setIfInBounds i true).toList.count false=fuel:=by
    have hlt:i<listed.size:=aoJ;have:=X4 listed.toList i (by simp[amp,hlt]at hun';simp[hlt,hun'])
    rw[Array.toList_setIfInBounds];omega
   have hcl':Tt ops (listed.setIfInBounds i true):=λk o' hk ho' e he hb=>by
    rw[hset]at hk⊢;by_cases e1:e.on=i
    .rw[if_pos e1]
    .rw[if_neg e1];by_cases e2:k=i
     .subst e2;exact hready o' ho' e he hb
     .rw[if_neg e2]at hk;exact hcl k o' hk ho' e he hb
   rcases alK i qs.length with hiq|hiq
   .
    have hqi:qs[i]?=some lo:=by rw[hsplit,aly hiq]at hlo1;exact hlo1
    have hti:i<tr.length:=aoJ;have agree:∀t∈lo.reads,aq (TL T qs tr 0 λj=>decide (j<i)) t=aq (TL T qs tr 0 λj=>listed.getD j false) t:=by
     intro t ht;by_cases hw:∃(j:Nat) (p:aj),qs[j]?=some p/\p.dst=some t
     .obtain⟨j,p,hp,hd⟩:=hw;have hjq:j<qs.length:=(alq.1 hp).1;rw[Y6 hD htr hp hd,Y6 hD htr hp hd];have hlj:los[j]?=some p:=(by rw[hsplit,aly hjq];exact hp);have:=alC.1 htied (lo,i) (by rw[anF];simpa using hlo1);have:=alC.1 this t ht;have:=alC.1 this (p,j) (by rw[anF];simpa using hlj);simp only[hd,beq_self_eq_true,am0,amY,al9,ame]at this;rcases this with h1|h1
      .have e1:=YW hahead hfix _ _ aoJ h1;have e2:=fp hahead hfix hcl i j hi' hready h1;simp only[decide_eq_true_eq,if_pos e1,if_pos e2]
      .have e1:=YW hahead hfix _ _ aoJ h1;have e2:listed.getD j false=false:=by
        rcases hb:listed.getD j false with _|_
        .rfl
        .have:=fp hahead hfix hcl j i aoJ (λo' ho'=>hcl j o' hb ho') h1;rw[hun']at this;cases this
       simp only[decide_eq_true_eq,if_neg (show ¬j<i by omega),e2,alG,if_false]
     .have hno:∀(j:Nat) (p:aj),qs[j]?=some p->p.dst≠some t:=λj p hp hd=>hw ⟨j,p,hp,hd⟩
      rw[Y7 hno,Y7 hno]
    have hTnew:∀(t:Nat) (v:AV),aq (TL T qs tr 0 λj=>(listed.setIfInBounds i true).getD j false) t=some v->aq (cM lo.dst tr[i] (TL T qs tr 0 λj=>listed.getD j false)) t=some v:=by
     intro t v hv;by_cases hw:∃(j:Nat) (p:aj),qs[j]?=some p/\p.dst=some t
     .obtain⟨j,p,hp,hd⟩:=hw;rw[Y6 hD htr hp hd]at hv;by_cases e:j=i
      .subst e;rw[hqi]at hp;cases hp;rw[hd,RQ];rw[if_pos (by rw[hset,if_pos rfl]),alH hti]at hv;exact hv
      .have hne:lo.dst≠some t:=λe'=>e (KO hD hp hqi hd e')
       rw[xZ hne,Y6 hD htr hp hd];simp only[hset,if_neg e]at hv;exact hv
     .have hno:∀(j:Nat) (p:aj),qs[j]?=some p->p.dst≠some t:=λj p hp hd=>hw ⟨j,p,hp,hd⟩
      rw[Y7 hno]at hv;rw[xZ (hno i lo hqi),Y7 hno];exact hv
    have hnot':∀k,qs.length<=k->(listed.setIfInBounds i true).getD k false=false:=λk hk=>by rw[hset,if_neg aoJ];exact hnot k hk
    have hpre:∀j e,es[j]?=some e->listed.getD e false=decide (j<done es listed):=TY es _ λj j' e e' h1 h2 h3 h4=>by have hlt:e'<ops.size:=(by have:=hes e' (al8 h2);omega);exact fp hahead hfix hcl e' e hlt (λo' ho'=>hcl e' o' h4 ho') (hch j j' e e' h1 h2 h3)
    have hdl:done es listed<=es.length:=List.countP_le_length;rcases hq i lo tr[i] hqi (alH hti)with⟨m,g1,g2⟩|⟨g1,g2⟩
    .have hm:done es listed=m:=by
      have h1:=hpre m i g1;rw[hun']at h1;have h2:¬m<done es listed:=(by simpa using h1.symm);rcases alK (done es listed) m with h3|h3
      .obtain⟨e,he⟩:∃e,es[done es listed]?=some e:=⟨_,alH (by have:=(alq.1 g1).1;omega)⟩;have h4:=hpre _ e he;rw[fp hahead hfix hcl i e hi' hready (hch _ _ e i he g1 h3)]at h4;simp at h4
      .omega
     have hm':done es (listed.setIfInBounds i true)=m+1:=by
      refine Uf es _ (m+1) (λj e he=>?_) (by have:=(alq.1 g1).1;omega);rw[hset];by_cases e1:e=i
      .subst e1;rw[if_pos rfl];rcases Nat.lt_trichotomy j m with h3|h3|h3
       .simp;omega
       .simp;omega
       .have:=YW hahead hfix e e hi' (hch m j e e g1 he h3);omega
      .rw[if_neg e1,hpre j e he,hm];have:j≠m:=λe2=>by subst e2;rw[g1]at he;cases he;exact e1 rfl
       congr 1;simp only[eq_iff_iff];omega
     rw[hm]at hst;refine Wu hlo2 hst (EQ.aops (EQ.congr agree g2)) λE' T' L' a' w' hle ⟨e1,e2⟩ hst'=>ih _ a' w' E' (by simpa using hsz) hcnt' hcl' (hE.trans hle) hnot' ?_
     subst e1;subst e2;rw[hm'];exact hst'.weak hTnew rfl λ_ _ e=>.inr e
    .have hL:done es (listed.setIfInBounds i true)=done es listed:=by
      unfold done;refine List.countP_congr λe he=>?_
      rw[hset,if_neg (λe1:e=i=>g1 (e1▸he))]
     have hAQ:=g2 (done es listed) hdl (λj e he hj=>by
      rcases hb:(tbl.getD e 0).testBit i with _|_
      .rfl
      .have h1:=hpre j e he;rw[decide_eq_true hj]at h1;have hlt:e<ops.size:=(by have:=hes e (al8 he);omega);have:=fp hahead hfix hcl e i hlt (λo' ho'=>hcl e o' h1 ho') hb;rw[hun']at this;cases this) (λj e he hj=>by
      rcases hb:(tbl.getD i 0).testBit e with _|_
      .rfl
      .have h1:=hpre j e he;rw[fp hahead hfix hcl i e hi' hready hb]at h1;have:=of_decide_eq_true h1.symm;omega)
     refine ahg hlo2 hst (hAQ.congr agree) λE' a' w' hle hst'=>ih _ a' w' E' (by simpa using hsz) hcnt' hcl' (hE.trans hle) hnot' ?_
     rw[hL];exact hst'.weak hTnew rfl λ_ _ e=>.inr e
   .
    refine absurd (λj hj=>?_) hall;have h1:=alC.1 hchain i (by simpa using hi');simp only[al9,decide_eq_true_eq]at h1;rcases h1 with h2|h2
    .omega
    .have h3:=alC.1 h2 j (by simp;omega);exact fp hahead hfix hcl i j hi' hready h3
end
inductive Kd where
 |pure
 |read (n f:Nat)
 |eff
 deriving Inhabited,DecidableEq
abbrev qj:=Nat×aj×Tm×AV
def F4(P:Program)(L:List Blk):List qj->Prop
 |[]=>True
 |(_,o,T,v)::h=>AQ P o T L v/\F4 P L h
def Pw:List qj->List qj
 |[]=>[]
 |(0,_)::h=>Pw h
 |(1,_)::h=>Pw h
 |(n+2,y)::h=>(n+1,y)::Pw h
def aby(f:Nat)(o:aj)(T:Tm)(v:AV)(H:List qj):List qj :=
 match f with
 |0=>H
 |f+1=>(f+1,o,T,v)::H
def AG(P:Program)(K:Tm->List Blk->Prop):List (aj×Kd)->List (List Blk)->List qj->Tm->Prop
 |[],L::_,_,T=>K T L
 |(o,.pure)::r,L::Ls,H,T=>∃v,AQ P o T L v/\AG P K r (L::Ls) H (cM o.dst v T)
 |(o,.read n f)::r,L::Ls,H,T=>∃v,(∀L'∈(L::Ls).take (n+1),AQ P o T L' v)/\AG P K r (L::Ls) (aby f o T v H) (cM o.dst v T)
 |(o,.eff)::r,L::Ls,H,T=>∃v L2,EQ P o T L v L2/\F4 P L2 H/\AG P K r (L2::L::Ls) (Pw H) (cM o.dst v T)
 |_,[],_,_=>False
def oB:List (aj×Kd)->Nat
 |[]=>0
 |(_,.eff)::r=>oB r+1
 |_::r=>oB r
def mem(Ns:List (List Blk))(m:Nat):List Blk:=Ns.reverse.getD m []
theorem xW{X Ls:List (List Blk)}{m:Nat}(h:m<Ls.length):mem (X++Ls) m=Ls.getD (Ls.length-1-m) []:=by simp only[mem,List.reverse_append,alR];rw[aly (by simpa using h),List.getElem?_reverse h]
theorem Yf{P:Program}{L:List Blk}:∀{H:List qj},F4 P L H->∀y∈H,AQ P y.2.1 y.2.2.1 L y.2.2.2
 |[],_,y,hy=>by cases hy
 | (f,o,T,v)::h,hr,y,hy=>by
   rcases alu.1 hy with rfl|hy
   .exact hr.1
   .exact Yf hr.2 y hy
theorem Sf:∀{H:List qj}{y:qj},y∈H->1<y.1->(y.1-1,y.2)∈Pw H
 |[],y,hy,_=>by cases hy
 | (0,z)::h,y,hy,h1=>by
   rcases alu.1 hy with rfl|hy
   .simp at h1
   .show(y.1-1,y.2)∈Pw h;exact Sf hy h1
 | (1,z)::h,y,hy,h1=>by
   rcases alu.1 hy with rfl|hy
   .simp at h1
   .show(y.1-1,y.2)∈Pw h;exact Sf hy h1
 | (n+2,z)::h,y,hy,h1=>by
   rcases alu.1 hy with rfl|hy
   .simp[Pw]
   .exact amB _ (Sf hy h1)
def acX(P:Program)(o:aj)(T:Tm)(Ns:List (List Blk))(v:AV)(c:Nat):Kd->Prop
 |.pure=>AQ P o T (mem Ns c) v
 |.read n f=>∀m,c-n<=m->m<=c+f->m<Ns.length->AQ P o T (mem Ns m) v
 |.eff=>EQ P o T (mem Ns c) v (mem Ns (c+1))
theorem ahF  :∀(qk:List (aj×Kd)) (Ls:List (List Blk)) (H:List qj) (T:Tm) (k:Nat),AG P K qk Ls H T ->
  ∃(tr:List AV) (X:List (List Blk)),tr.length=qk.length/\X.length=oB qk /\
   (∀y∈H,∀m,Ls.length<=m->m<Ls.length+y.1->m<(X++Ls).length->AQ P y.2.1 y.2.2.1 (mem (X++Ls) m) y.2.2.2) /\
   (∀i o kd v,qk[i]?=some (o,kd)->tr[i]?=some v->acX P o (TL T (qk.map (·.1)) tr k λj=>decide (j<k+i)) (X++Ls) v (Ls.length-1+oB (qk.take i)) kd) /\
   K (TL T (qk.map (·.1)) tr k λ_=>true) (mem (X++Ls) ((X++Ls).length-1)):=by
 intro qk;induction qk with
 | nil =>
   intro Ls H T k h;cases Ls with
   |nil=>exact h.elim
   | cons L Ls =>
     refine⟨[],[],rfl,rfl,λy _ m h1 _ h3=>?_,λi o kd v hi=>by simp at hi,?_⟩
     .simp only[al2]at h3;omega
     .rw[al2,<- al2 (L::Ls),xW aoK];have h':K T L:=h;simpa[TL]using h'
 | cons q qk ih =>
   intro Ls H T k h;cases Ls with
   |nil=>rcases q with⟨o,_|_|_⟩<;>exact h.elim
   | cons L Ls =>
     obtain⟨o,kd⟩:=q;have tl0:∀(v:AV) (tr:List AV),TL T (((o,kd)::qk).map (·.1)) (v::tr) k (λj=>decide (j<k+0))=T:=λv tr=>by
      have e:TL T (((o,kd)::qk).map (·.1)) (v::tr) k (λj=>decide (j<k+0))=TL T (((o,kd)::qk).map (·.1)) (v::tr) k (λ_=>false):=WB λj _=>aoK
      rw[e];exact aaL _ _ _ _
     have tls:∀(v:AV) (tr:List AV) (i:Nat),TL T (((o,kd)::qk).map (·.1)) (v::tr) k (λj=>decide (j<k+(i+1)))=TL (cM o.dst v T) (qk.map (·.1)) tr (k+1) (λj=>decide (j<k+1+i)):=λv tr i=>by simp only[alD,TL];rw[if_pos aoK];exact WB λj _=>by congr 1;simp;omega
     have tlt:∀(v:AV) (tr:List AV),TL T (((o,kd)::qk).map (·.1)) (v::tr) k (λ_=>true)=TL (cM o.dst v T) (qk.map (·.1)) tr (k+1) (λ_=>true):=λv tr=>by simp only[alD,TL,if_true]
     cases kd with
     | pure =>
       obtain⟨v,h1,h2⟩:=h;obtain⟨tr,X,g1,g2,g3,g4,g5⟩:=ih _ _ _ (k+1) h2;refine⟨v::tr,X,by simp[g1],g2,g3,λi p kd u hi hu=>?_,by rw[tlt];exact g5⟩;cases i with
       | zero =>
         simp only[amk,als,alE]at hi hu;obtain⟨rfl,rfl⟩:=hi;subst hu;rw[tl0];simp only[amX,oB,amP,acX];rw[xW aoK];simpa using h1
       | succ i =>
         rw[tls];exact g4 i p kd u (by simpa using hi) (by simpa using hu)
     | read n f =>
       obtain⟨v,h1,h2⟩:=h;obtain⟨tr,X,g1,g2,g3,g4,g5⟩:=ih _ _ _ (k+1) h2;have hk:∀y∈H,y∈aby f o T v H:=λy hy=>by
        unfold aby;split
        .exact hy
        .exact amB _ hy
       refine⟨v::tr,X,by simp[g1],g2,λy hy=>g3 y (hk y hy),λi p kd u hi hu=>?_,by rw[tlt];exact g5⟩;cases i with
       | zero =>
         simp only[amk,als,alE]at hi hu;obtain⟨rfl,rfl⟩:=hi;subst hu;rw[tl0];simp only[amX,oB,amP,acX];intro m m1 m2 m3;rcases alK m (L::Ls).length with m4|m4
         .rw[xW m4];refine h1 _ ?_;have m5:(L::Ls).length-1-m<(L::Ls).length:=aoJ;rw[alR,alH m5,amj];rw[List.mem_take_iff_getElem];refine⟨(L::Ls).length-1-m,?_,rfl⟩;simp only[alA]at m1 m4 m5⊢;omega
         .cases f with
          |zero=>simp only[alA]at m2 m4;omega
          |succ f=>exact g3 (f+1,o,T,v) (by simp[aby]) m m4 (by simp only[alA]at m2 m4⊢;omega) m3
       | succ i =>
         rw[tls];exact g4 i p kd u (by simpa using hi) (by simpa using hu)
     | eff =>
       obtain⟨v,L2,h1,hr,h2⟩:=h;obtain⟨tr,X,g1,g2,g3,g4,g5⟩:=ih _ _ _ (k+1) h2;have e:(X++[L2])++(L::Ls)=X++(L2::L::Ls):=aoK;refine⟨v::tr,X++[L2],by simp[g1],by simp[oB,g2],λy hy m m1 m2 m3=>?_,λi p kd u hi hu=>?_,by rw[tlt,e];exact g5⟩
       .rw[e]at m3⊢;rcases Nat.eq_or_lt_of_le m1 with m4|m4
        .subst m4;rw[xW aoK];have:=Yf hr y hy;simpa using this
        .exact g3 _ (Sf hy aoJ) m (by simp only[alA]at m4⊢;omega) (by simp only[alA]at m2⊢;omega) m3
       rw[e];cases i with
       | zero =>
         simp only[amk,als,alE]at hi hu;obtain⟨rfl,rfl⟩:=hi;subst hu;rw[tl0];simp only[amX,oB,amP,acX];rw[xW (by simp only[alA];omega),xW (by simp only[alA];omega)];simpa using h1
       | succ i =>
         rw[tls];have:=g4 i p kd u (by simpa using hi) (by simpa using hu);have e2:(L2::L::Ls).length-1+oB (qk.take i)=(L::Ls).length-1+oB (((o,Kd.eff)::qk).take (i+1)):=by simp only[alA,am8,oB];omega
         rw[e2]at this;exact this
def LOp.pureB:LOp->Bool
 |.mv _|.pick .. |.build .. |.bin .. |.un .. |.faddr .. |.extract .. |.mkfn .. |.conv .. |.sconv .. |.eqk .. |.eq2 ..=>true
 |_=>false
theorem aii{o:aj}(hp:o.op.pureB=true)(h:AQ P o T L v):AQ P o T L' v:=by
 have key:∀{c:Prop}{av:AV}{L2:List Blk},ak T L o.op=some (c,av,L2)->ak T L' o.op=some (c,av,L'):=λ{c av L2} he=>by
  have e:ak T L' o.op=(ak T L o.op).map λx=>(x.1,x.2.1,L'):=by obtain⟨d,op,g⟩:=o;cases op<;>simp only[LOp.pureB,alG]at hp<;>simp only[ak]<;>(repeat' split)<;>simp[Option.map_map,anX]
  rw[e,he];rfl
 have hv:AQv P o T L v->AQv P o T L' v:=λhv=>by
  unfold AQv at hv⊢;obtain⟨d,op,g⟩:=o;cases op<;>simp only[LOp.pureB,alG]at hp<;>simp only at hv⊢<;>(
   split at hv
   .rename_i c av L2 he;rw[key he];exact⟨hv.1,hv.2.1,rfl⟩
   .exact hv.elim)
 unfold AQ at h⊢;split at h;exact hv h;split at h;split at h;rename_i e;rw[if_pos e];exact hv h;rename_i e;rw[if_neg e];exact h;exact h;exact h.elim
def dA:List (aj×Kd)->Nat->List Nat
 |[],_=>[]
 |(_,.eff)::r,k=>k::dA r (k+1)
 |_::r,k=>dA r (k+1)
theorem oN:∀(qk:List (aj×Kd)) (k:Nat),(dA qk k).length=oB qk
 |[],_=>rfl
 |(_,.pure)::r,k=>oN r (k+1)
 |(_,.read _ _)::r,k=>oN r (k+1)
 |(_,.eff)::r,k=>by simp[dA,oB,oN r (k+1)]
theorem VW:∀(qk:List (aj×Kd)) (k i:Nat) (o:aj),qk[i]?=some (o,.eff)->(dA qk k)[oB (qk.take i)]?=some (k+i)
 |[],_,i,o,h=>by simp at h
 |(p,kd)::r,k,0,o,h=>by simp only[amk,als,alE]at h;obtain⟨rfl,rfl⟩:=h;simp[dA,oB]
 |(p,kd)::r,k,i+1,o,h=>by have ih:=VW r (k+1) i o (by simpa using h);rw[show k+1+i=k+(i+1)by omega]at ih;cases kd<;>simpa[dA,oB]using ih
theorem VV:∀(qk:List (aj×Kd)) (k e:Nat),e∈dA qk k->∃i o,e=k+i/\qk[i]?=some (o,.eff)
 |[],_,e,h=>by simp[dA]at h
 | (p,kd)::r,k,e,h=>by
   have go:e∈dA r (k+1)->∃i o,e=k+i/\((p,kd)::r)[i]?=some (o,.eff):=λh'=>by obtain⟨i,o,rfl,h2⟩:=VV r (k+1) e h';exact⟨i+1,o,aoJ,by simpa using h2⟩
   cases kd with
   |pure=>exact go h
   |read _ _=>exact go h
   | eff =>
     rcases alu.1 h with rfl|h
     .exact⟨0,p,rfl,rfl⟩
     .exact go h
def SO(tbl:List Nat)(qk:List (aj×Kd)):Bool :=
 let es:=dA qk 0
 ((List.range es.length).all λj'=>(List.range j').all λj=>(tbl.getD (es.getD j' 0) 0).testBit (es.getD j 0)) &&
 qk.zipIdx.all λ((o,kd),i)=>match kd with
  |.pure=>o.op.pureB
  |.eff=>true
  | .read n f=>let c:=oB (qk.take i)
    (List.range es.length).all λj=>(!decide (j<c-n) ||(tbl.getD i 0).testBit (es.getD j 0))&&(!decide (c+f<=j) ||(tbl.getD (es.getD j 0) 0).testBit i)
section
variable {P:Program}{r:Option Nat}{w0:World}{S0:SB}{N:Nat}{own:Nat->Nat}{ops:Array Oper}{L:List Blk}
theorem aaI{los:List aj}{n:Nat}(hlow:ce P N own ops (List.range ops.size)=some los)(hok:Km ops los n=true){qk:List (aj×Kd)}{ts:List aj}(hsplit:los=qk.map (·.1)++ts)(hn:qk.length=n)(hk:SO (qo ops.toList []) qk=true){K:Tm->List Blk->Prop}{T:Tm}{Q:Exit->Act->World->Prop}{E0:Env}(h:AG P (oI P K ts) qk [L] [] T)(hQ:∀E' T' L' a' w',E0.le E'->K T' L'->St w0 S0 N E' T' L' a' w'->Q .normal a' w')(a:Act)(w:World)(E:Env)(hE:E0.le E)(hst:St w0 S0 N E T L a w):
  wpAnyIn (fw r) 0 P .any ops Q ops.size (Array.replicate ops.size false) a w:=by
 obtain⟨tr,X,g1,g2,-,g4,g5⟩:=ahF qk [L] [] T 0 h;have rep0:∀i,(Array.replicate ops.size false).getD i false=false:=λi=>by rw[amp,Array.getElem?_replicate];split<;>rfl
 simp only[SO,alx]at hk;obtain⟨hk1,hk2⟩:=hk;have hesl:=oN qk 0;have hlt:∀e∈dA qk 0,∃o,qk[e]?=some (o,.eff):=λe he=>by obtain⟨i,o,rfl,h2⟩:=VV qk 0 e he;exact⟨o,by simpa using h2⟩
 have hlen:(X++[L]).length=oB qk+1:=by simp[g2]
 refine ab4 (T:=T) (K:=K) (qs:=qk.map (·.1)) (ts:=ts) (tr:=tr) (es:=dA qk 0) (Ms:=mem (X++[L])) hlow hok hsplit (by simpa using hn) (λe he=>?_) (λj j' e e' h1 h2 h3=>?_) (by simpa using g1) (λi o v ho hv=>?_) ?_ hQ ops.size _ a w E aoK (by simp[List.count_replicate]) (λi o hi=>by rw[rep0]at hi;cases hi) hE (λi _=>rep0 i) ?_;obtain⟨o,ho⟩:=hlt e he;simpa using(alq.1 ho).1;have l2:j'<(dA qk 0).length:=(alq.1 h2).1;have:=alC.1 (alC.1 hk1 j' (by simpa using l2)) j (by simpa using h3);have q1:(dA qk 0).getD j 0=e:=by rw[alR,h1];rfl
 have q2:(dA qk 0).getD j' 0=e':=by rw[alR,h2];rfl
 rw[q1,q2]at this;exact this;rw[amc,alS]at ho;obtain⟨⟨o',kd⟩,ho,rfl⟩:=ho;have hs:=g4 i o' kd v ho hv;simp only[aoy,amK,amG]at hs;have hkk:=alC.1 hk2 ((o',kd),i) (by rw[anF];simpa using ho);have notin:kd≠.eff->i∉dA qk 0:=λhne he=>by obtain⟨o2,h2⟩:=hlt i he;rw[ho]at h2;cases h2;exact hne rfl
 cases kd with
 | eff =>
   refine .inl ⟨oB (qk.take i),?_,hs⟩;simpa using VW qk 0 i o' ho
 |pure=>exact .inr ⟨notin aoK,λm _ _ _=>aii (by simpa using hkk) hs⟩
 | read n f =>
   refine .inr ⟨notin aoK,λm hm p1 p2=>?_⟩;simp only at hkk;have chk:=λj (hj:j<(dA qk 0).length)=>alC.1 hkk j (by simpa using hj)
   have cle:oB (qk.take i)<=(dA qk 0).length:=by
    have:∀(l:List (aj×Kd)) (i:Nat),oB (l.take i)<=oB l:=by
     intro l;induction l with
     |nil=>intro i;simp
     | cons q l ih =>
       intro i;cases i with
       |zero=>simp[oB]
       |succ i=>obtain⟨o,_|_|_⟩:=q<;>simp only[am8,oB]<;>have:=ih i<;>omega
    rw[hesl];exact this qk i
   refine hs m ?_ ?_ (by rw[hlen];omega)
   .rcases alK m (oB (qk.take i)-n)with hlt2|hge
    .have hme:m<(dA qk 0).length:=aoJ;have:=chk m hme;simp only[alx,al9,al4,decide_eq_false_iff_not]at this;have e1:=p2 m _ (alH hme) (alr _);rcases this.1 with c|c
     .exact absurd hlt2 c
     .rw[alR (l:=dA qk 0),alH hme]at c;simp only[amj]at c;rw[e1]at c;cases c
    .exact hge
   .rcases alK (oB (qk.take i)+f) m with hlt2|hge
    .have hme:oB (qk.take i)+f<(dA qk 0).length:=aoJ;have:=chk _ hme;simp only[alx,al9,al4,decide_eq_false_iff_not]at this;have e1:=p1 _ _ (alH hme) hlt2;rcases this.2 with c|c
     .exact absurd (alr _) c
     .rw[alR (l:=dA qk 0),alH hme]at c;simp only[amj]at c;rw[e1]at c;cases c
    .exact hge
 rw[hlen]at g5;rw[hesl];simpa using g5
 .have e:TL T (qk.map (·.1)) tr 0 (λj=>(Array.replicate ops.size false).getD j false)=T:=by refine Eq.trans (WB (g:=λ_=>false) λj _=>rep0 _) (aaL _ tr T 0)
  have e2:done (dA qk 0) (Array.replicate ops.size false)=0:=aow.2 λx _=>by rw[rep0];simp
  rw[e,e2,xW aoK];simpa using hst
end
inductive SOp where
 |op (o:aj)
 |grp (g:Option (Nat×Bool)) (t:Nat) (b:Bool) (body:List SOp) (d:Nat) (x:Opd)
 deriving Inhabited
variable {r body:List SOp}
def dR(g:Option (Nat×Bool))(t:Nat)(b:Bool)(d:Nat)(x:Opd):aj :=
 ⟨some d,.pick (.tmp t) (if b then x else .av (.bool true)) (if b then .av (.bool false)else x),g⟩
mutual
def SOp.flat:SOp->List aj
 |.op o=>[o]
 |.grp g t b body d x=>SOp.flatL body++[dR g t b d x]
def SOp.flatL:List SOp->List aj
 |[]=>[]
 |s::r=>SOp.flat s++SOp.flatL r
end
def bC(l:List aj):List Nat:=l.filterMap (·.dst)
def gds:List SOp->List Nat
 |[]=>[]
 |.op _::r=>gds r
 |.grp _ _ _ body _ _::r=>bC (SOp.flatL body)++gds r
def cT:SOp->List Nat
 |.op o=>o.dst.toList
 |.grp _ _ _ _ d _=>[d]
mutual
def okO(g:Nat×Bool)(seen:List Nat):SOp->Bool
 |.op o=>decide (o.guard=some g)
 |.grp g' t b body d x=>decide (g'=some g)&&seen.contains t && !(bC (SOp.flatL body)).contains t && !(bC (SOp.flatL body)).contains g.1&&okB (t,b) [] body
def okB(g:Nat×Bool)(seen:List Nat):List SOp->Bool
 |[]=>true
 |s::r=>okO g seen s&&(cT s).all (λd => !(gds r).contains d&&d != g.1)&&okB g (cT s++seen) r
end
def okS:List SOp->Bool
 |[]=>true
 |.op o::r=>o.dst.toList.all (λd => !(gds r).contains d)&&okS r
 |.grp g t b body d x::r=>decide (g=none) && !(bC (SOp.flatL body)).contains t&&okB (t,b) [] body && !(gds r).contains d&&okS r
def mrg(b p q:Bool):Bool:=if b then p&&q else p ||q
def ahy(P:Program)(f:FuncId)(args:List AV)(L:List Blk)(k:AV->Prop):Prop:=∃v,ae P f args L (λav L'=>av=v/\L'=L)/\k v
theorem aA{f:FuncId}{args:List AV}{k:AV->Prop}(h:ae P f args L (λav L'=>av=v/\L'=L))(hk:k v):ahy P f args L k:=⟨v,h,hk⟩
def IsB:Option AV->Bool->Prop:=λo q=>o=some (.bool q)
theorem bh{q:Bool}:IsB (some (.bool q)) q:=rfl
def IsX(x:Opd)(q:Bool)(T:Tm):Prop:=IsB (evX T x) q
def aht(k:Tm->Prop)(d:Option Nat)(T:Tm)(v:AV):Prop:=k (cM d v T)
def ak5(P:Program)(f:FuncId)(L:List Blk)(k:AV->Prop):Option (List AV)->Prop
 |some args=>ahy P f args L k
 |none=>False
def ac1(P:Program)(L:List Blk)(k:AV->Prop):Option AV->Option (List AV)->Prop
 |some (.func g caps),some args=>ahy P g (args++caps) L k
 |_,_=>False
def ak1(L:List Blk)(k:AV->Prop):Option (Prop×AV×List Blk)->Prop
 |some (c,av,L')=>c/\L'=L/\k av
 |none=>False
def GOp(P:Program)(L:List Blk)(o:aj)(k:Tm->Prop)(T:Tm):Prop :=
 match o.op with
 |.call f xs=>ak5 P f L (aht k o.dst T) (gC T xs)
 |.callv f xs=>ac1 P L (aht k o.dst T) (evX T f) (gC T xs)
 |lo=>ak1 L (aht k o.dst T) (ak T L lo)
mutual
def GL(P:Program)(L:List Blk):List SOp->(Tm->Prop)->Tm->Prop
 |[],k,T=>k T
 |s::r,k,T=>GO P L s (GL P L r k) T
def GO(P:Program)(L:List Blk):SOp->(Tm->Prop)->Tm->Prop
 |.op o,k,T=>GOp P L o k T
 | .grp _ t b body d x,k,T=>match aq T t with
   |some (.bool p)=>∃q,(p=b->GL P L body (IsX x q) T)/\k ((d,.bool (mrg b p q))::T)
   |_=>False
end
def GQ(P:Program)(L:List Blk)(b:Bool)(body:List SOp)(d:Nat)(x:Opd)(k:Tm->Prop)(T:Tm)(p:Bool):Prop :=
 ∃q,(p=b->GL P L body (IsX x q) T)/\k ((d,.bool (mrg b p q))::T)
def GG(P:Program)(L:List Blk)(b:Bool)(body:List SOp)(d:Nat)(x:Opd)(k:Tm->Prop)(T:Tm):Option AV->Prop
 |some (.bool p)=>GQ P L b body d x k T p
 |_=>False
theorem akn    :GL P L [] k T=k T:=by rw[GL]
theorem ak4{o:aj}:GL P L (.op o::r) k T=GOp P L o (GL P L r k) T:=by rw[GL,GO]
theorem ako{g:Option (Nat×Bool)}:GL P L (.grp g t b body d x::r) k T=GG P L b body d x (GL P L r k) T (aq T t):=by rw[GL,GO];rfl
theorem ai7{p:Bool}:GG P L b body d x k T (some (.bool p))=GQ P L b body d x k T p:=rfl
theorem ak3       :GQ P L true body d x k T false=k ((d,.bool false)::T):=by simp[GQ,mrg]
theorem ak2       :GQ P L false body d x k T true=k ((d,.bool true)::T):=by simp[GQ,mrg]
def SL(P:Program):List SOp->(Tm->List Blk->Prop)->Tm->List Blk->Prop
 |[],K,T,L=>K T L
 | .op o::r,K,T,L=>match o.guard with
   |none=>AOp P o (SL P r K) T L
   |some (t,b)=>Grd P o (SL P r K) b T L (aq T t)
 |.grp _ t b body d x::r,K,T,L=>GG P L b body d x (λT'=>SL P r K T' L) T (aq T t)
def SK(P:Program)(r:List SOp)(K:Tm->List Blk->Prop)(L:List Blk)(T:Tm):Prop:=SL P r K T L
theorem akX     :SK P r K L T=SL P r K T L:=rfl
theorem akj    :SL P [] K T L=K T L:=rfl
theorem akW{d:Option Nat}{op:LOp}:SL P (.op ⟨d,op,none⟩::r) K T L=AOp P ⟨d,op,none⟩ (SL P r K) T L:=rfl
theorem aki{d:Option Nat}{op:LOp}:SL P (.op ⟨d,op,some (t,b)⟩::r) K T L=Grd P ⟨d,op,some (t,b)⟩ (SL P r K) b T L (aq T t):=rfl
theorem akk{g:Option (Nat×Bool)}:SL P (.grp g t b body d x::r) K T L=GG P L b body d x (SK P r K L) T (aq T t):=rfl
def sel:List Bool->Tm->Tm
 |[],T=>T
 |true::m,x::T=>x::sel m T
 |false::m,_::T=>sel m T
 |_::_,[]=>[]
theorem acr :sel [] T=T:=by cases T<;>rfl
theorem ajg{m:List Bool}{x:Nat×AV}:sel (true::m) (x::T)=x::sel m T:=rfl
theorem ajh{m:List Bool}{x:Nat×AV}:sel (false::m) (x::T)=sel m T:=rfl
section
variable {P:Program}{ro:Option Nat}{w0:World}{S0:SB}{N:Nat}
def Fr(ds:List Nat)(T:Tm):Prop:=∀d∈ds,aq T d=none
theorem qc{d:Option Nat}{v:AV}{T:Tm}{t:Nat}(h:d≠some t):aq (cM d v T) t=aq T t:=by
 cases d with
 |none=>rfl
 |some d=>simp only[cM,aq];rw[if_neg (λe=>h (by rw[e]))]
theorem gq{own:Nat->Nat}{ops:Array Oper}:∀{l m:List aj}{is:List Nat},ce P N own ops is=some (l++m)->∃js ks,is=js++ks/\ce P N own ops js=some l/\ce P N own ops ks=some m
 |[],m,is,h=>⟨[],is,rfl,rfl,h⟩
 | o::l,m,is,h=>by
   cases is with
   |nil=>simp[ce]at h
   | cons i is =>
     simp only[ce]at h;split at h<;>try cases h
     rename_i o' m' h1 h2;obtain⟨js,ks,rfl,h3,h4⟩:=gq (l:=l) (m:=m) h2;refine⟨i::js,ks,rfl,?_,h4⟩;simp only[ce,h1,h3]
theorem oC{own:Nat->Nat}{ops:Array Oper}{o:aj}{is:List Nat}(h:ce P N own ops is=some [o]):∃i,is=[i]/\oL P N own ops i=some o:=by
 cases is with
 |nil=>simp[ce]at h
 | cons i is =>
   simp only[ce]at h;split at h<;>try cases h
   rename_i o' m' h1 h2;cases is with
   |nil=>exact⟨i,rfl,h1⟩
   | cons j is =>
     simp only[ce]at h2;split at h2<;>cases h2
theorem UM{own:Nat->Nat}{ops:Array Oper}{K:Tm->List Blk->Prop}{Q:Exit->Act->World->Prop}{i:Nat}{lo:aj}{rest:List Nat}(hl:oL P N own ops i=some lo){T:Tm}{L:List Blk}{E:Env}{a:Act}{w:World}(hst:St w0 S0 N E T L a w)(hg:lo.guard=none\/∃t b,lo.guard=some (t,b)/\aq T t=some (.bool b))(h:AOp P lo K T L)(hK:∀E' T' L' a' w',E.le E'->K T' L'->St w0 S0 N E' T' L' a' w'->wpOpsIn (fw ro) 0 P ops Q rest a' w'):wpOpsIn (fw ro) 0 P ops Q (i::rest) a w:=by
 obtain⟨o,ho,hop,hdst,hd,hg'⟩:=gA hl;obtain⟨ld,lop,lg⟩:=lo;simp only at hop hdst hg' hg;subst hdst;simp only[wpOpsIn,ho];have hw:Region.wanted o (yielded ops a.tmps)=true:=by rcases hg' with⟨g1,g2⟩|⟨j,b,t,g1,g2,g3,g4⟩;simp[Region.wanted,g1];subst g4;rcases hg with hg|⟨t',b',e,hx⟩;cases hg;cases e;have hy:=jK (E:=E) (T:=T) (a:=a) (ops:=ops) hst.2.1 g2 (by rw[hst.2.2.1];exact g3);simp[Region.wanted,g1,hy.1 b hx]
 rw[if_pos hw];exact Lc hop hd hst h hK
theorem Vr{own:Nat->Nat}{ops:Array Oper}{Q:Exit->Act->World->Prop}{i:Nat}{lo:aj}{rest:List Nat}(hl:oL P N own ops i=some lo){T:Tm}{L:List Blk}{E:Env}{a:Act}{w:World}(hst:St w0 S0 N E T L a w){t:Nat}{b:Bool}(hg:lo.guard=some (t,b))(hx:aq T t=some (.bool (!b))\/aq T t=some (.tup []))(hK:∀a',St w0 S0 N E (cM lo.dst (.tup []) T) L a' w->wpOpsIn (fw ro) 0 P ops Q rest a' w):wpOpsIn (fw ro) 0 P ops Q (i::rest) a w:=by
 obtain⟨o,ho,hop,hdst,hd,hg'⟩:=gA hl;obtain⟨ld,lop,lg⟩:=lo;simp only at hop hdst hg' hg hK;subst hdst;simp only[wpOpsIn,ho];have hw:Region.wanted o (yielded ops a.tmps)=false:=by rcases hg' with⟨g1,g2⟩|⟨j,b',t',g1,g2,g3,g4⟩;rw[g2]at hg;cases hg;rw[g4]at hg;cases hg;have hy:=jK (E:=E) (T:=T) (a:=a) (ops:=ops) hst.2.1 g2 (by rw[hst.2.2.1];exact g3);rcases hx with hx|hx;simp[Region.wanted,g1,hy.1 _ hx];simp[Region.wanted,g1,hy.2 hx]
 rw[if_neg (by simp[hw])];exact⟨λ_ _=>trivial,hK _ (P1 hst hd)⟩
def Ext(ds:List Nat)(T T':Tm):Prop:=∀t v,t∉ds->aq T t=some v->aq T' t=some v
mutual
theorem ajB{own:Nat->Nat}{ops:Array Oper}{Q:Exit->Act->World->Prop}{L:List Blk}{E:Env}{w:World}(s:SOp){g:Nat×Bool}{seen:List Nat}{is rest:List Nat}{T:Tm}{a:Act}(hok:okO g seen s=true)(hl:ce P N own ops is=some s.flat)(hst:St w0 S0 N E T L a w)(hx:aq T g.1=some (.bool (!g.2))\/aq T g.1=some (.tup []))(hseen:∀d∈seen,aq T d=some (.tup []))(hK:∀T' a',Ext (bC s.flat) T T'->(∀d,aq T d=some (.tup [])->aq T' d=some (.tup []))->(∀d∈cT s,aq T' d=some (.tup []))->St w0 S0 N E T' L a' w->wpOpsIn (fw ro) 0 P ops Q rest a' w):wpOpsIn (fw ro) 0 P ops Q (is++rest) a w:=by
 have tup:∀(d':Option Nat) (T:Tm) (d:Nat),aq T d=some (.tup [])->aq (cM d' (.tup []) T) d=some (.tup []):=λd' T d h=>by
  cases d' with
  |none=>exact h
  | some d' =>
    simp only[cM,aq];split
    .rfl
    .exact h
 cases s with
 | op o =>
   simp only[SOp.flat]at hl hK;obtain⟨i,rfl,h1⟩:=oC hl;simp only[okO,decide_eq_true_eq]at hok;refine Vr h1 hst (t:=g.1) (b:=g.2) hok hx λa' ha'=>hK _ a' (λt v ht hv=>?_) (tup _ _) (λd hd=>?_) ha'
   .rw[qc (λe=>ht (by simp[bC,e]))];exact hv
   .simp only[cT,aoa]at hd;rw[hd];simp[cM,aq]
 | grp g' t b body d x =>
   simp only[okO,alx,decide_eq_true_eq,ame,al4,amf,decide_eq_false_iff_not]at hok;obtain⟨⟨⟨⟨hg',ht⟩,htb⟩,hgb⟩,hb⟩:=hok;simp only[SOp.flat]at hl hK;obtain⟨js,ks,rfl,h1,h2⟩:=gq hl;obtain⟨i,rfl,h3⟩:=oC h2;rw[alI];refine UK body hb h1 hst (.inr (hseen t (by simpa using ht))) aoK λT' a' hext htup hst'=>?_
   refine Vr h3 hst' (t:=g.1) (b:=g.2) (by simp[dR,hg']) ?_ λa'' hst''=>hK _ a'' (λt v ht hv=>?_) (λd hd=>tup _ _ _ (htup d hd)) (λd hd=>?_) hst''
   .exact hx.imp (λh=>hext _ _ hgb h) (λh=>htup _ h)
   .rw[qc (λe=>ht (by simp only[dR]at e;simp[bC,dR,e]))];exact hext t v (λhm=>ht (by simp only[bC,am2,alv];exact .inl hm)) hv
   .simp only[cT,alM]at hd;subst hd;simp[dR,cM,aq]
theorem UK{own:Nat->Nat}{ops:Array Oper}{Q:Exit->Act->World->Prop}{L:List Blk}{E:Env}{w:World}(l:List SOp){g:Nat×Bool}{seen:List Nat}{is rest:List Nat}{T:Tm}{a:Act}(hok:okB g seen l=true)(hl:ce P N own ops is=some (SOp.flatL l))(hst:St w0 S0 N E T L a w)(hx:aq T g.1=some (.bool (!g.2))\/aq T g.1=some (.tup []))(hseen:∀d∈seen,aq T d=some (.tup []))(hK:∀T' a',Ext (bC (SOp.flatL l)) T T'->(∀d,aq T d=some (.tup [])->aq T' d=some (.tup []))->St w0 S0 N E T' L a' w->wpOpsIn (fw ro) 0 P ops Q rest a' w):wpOpsIn (fw ro) 0 P ops Q (is++rest) a w:=by
 cases l with
 | nil =>
   simp only[SOp.flatL]at hl hK;have:is=[]:=by
    cases is with
    |nil=>rfl
    | cons i is =>
      simp only[ce]at hl;split at hl<;>cases hl
   subst this;exact hK T a (λ_ _ _ h=>h) (λ_ h=>h) hst
 | cons s r =>
   simp only[okB,alx,alC,al4,bne_iff_ne]at hok;obtain⟨⟨h1,h2⟩,h3⟩:=hok;simp only[SOp.flatL]at hl hK;obtain⟨js,ks,rfl,h4,h5⟩:=gq hl;rw[alI];refine ajB s h1 h4 hst hx hseen λT' a' e1 e2 e3 hst'=>?_
   have hx':aq T' g.1=some (.bool (!g.2))\/aq T' g.1=some (.tup []):=by
    by_cases hm:g.1∈bC s.flat
    .cases s with
     | op o =>
       simp only[bC,SOp.flat,List.filterMap_cons,List.filterMap_nil]at hm;cases hd:o.dst with
       |none=>simp[hd]at hm
       | some d =>
         simp[hd]at hm;exact absurd hm.symm (h2 d (by simp[cT,hd])).2
     | grp g' t b body d x =>
       simp only[okO,alx,al4,amf,decide_eq_false_iff_not]at h1;simp only[bC,SOp.flat,am2,alv]at hm;rcases hm with hm|hm
       .exact absurd hm h1.1.2
       .simp[dR]at hm;exact absurd hm.symm (h2 d (by simp[cT])).2
    .exact hx.imp (e1 _ _ hm) (e2 _)
   refine UK r h3 h5 hst' hx' (λd hd=>?_) λT'' a'' f1 f2 hst''=>hK T'' a'' (λt v ht hv=>?_) (λd hd=>f2 d (e2 d hd)) hst''
   .rcases alv.1 hd with hd|hd
    .exact e3 d hd
    .exact e2 d (hseen d hd)
   .simp only[bC,am2,alv,not_or]at ht;exact f1 t v ht.2 (e1 t v ht.1 hv)
end
theorem Fr.put{ds:List Nat}{T:Tm}{d:Option Nat}{v:AV}(h:Fr ds T)(hd:∀k,d=some k->k∉ds):Fr ds (cM d v T):=λk hk=>by rw[qc (λe=>hd k e hk)];exact h k hk
mutual
theorem agL(s:SOp):∀d∈gds [s],d∈bC s.flat:=by
 cases s with
 |op o=>simp[gds]
 | grp g t b body d x =>
   intro u hu;simp only[gds,alY]at hu;simp only[SOp.flat,bC,am2,alv];exact .inl hu
end
theorem R3(s:SOp)(r:List SOp):gds (s::r)=gds [s]++gds r:=by cases s<;>simp[gds]
theorem R2:∀(l:List SOp),∀d∈gds l,d∈bC (SOp.flatL l)
 |[],d,h=>by simp[gds]at h
 |s::r,d,h=>by rw[R3,alv]at h;simp only[SOp.flatL,bC,am2,alv];exact h.imp (agL s d) (R2 r d)
theorem ZE(s:SOp):∀d∈cT s,d∈bC s.flat:=by
 cases s with
 | op o =>
   intro d hd;simp only[cT,aoa]at hd;simp[SOp.flat,bC,hd]
 | grp g t b body d x =>
   intro u hu;simp only[cT,alM]at hu;subst hu;simp[SOp.flat,bC,dR]
mutual
theorem aj4{own:Nat->Nat}{ops:Array Oper}{Q:Exit->Act->World->Prop}{L:List Blk}(s:SOp){g:Nat×Bool}{seen:List Nat}{is rest:List Nat}{T:Tm}{a:Act}{E:Env}{w:World}{k:Tm->Prop}(hok:okO g seen s=true)(hl:ce P N own ops is=some s.flat)(hst:St w0 S0 N E T L a w)(hx:aq T g.1=some (.bool g.2))(hfr:∀d∈gds [s],aq T d=none)(h:GO P L s k T)(hK:∀E' T' a' w',E.le E'->k T'->Ext (cT s) T T'->(∀d,d∉cT s->aq T d=none->aq T' d=none)->St w0 S0 N E' T' L a' w'->wpOpsIn (fw ro) 0 P ops Q rest a' w'):wpOpsIn (fw ro) 0 P ops Q (is++rest) a w:=by
 cases s with
 | op o =>
   simp only[SOp.flat]at hl;obtain⟨i,rfl,h1⟩:=oC hl;simp only[okO,decide_eq_true_eq]at hok;simp only[GO]at h;have ext:∀v,Ext (cT (.op o)) T (cM o.dst v T):=λv t x ht hv=>by rw[qc (λe=>ht (by simp[cT,e]))];exact hv
   have fre:∀v d,d∉cT (.op o)->aq T d=none->aq (cM o.dst v T) d=none:=λv d hd hn=>by rw[qc (λe=>hd (by simp[cT,e]))];exact hn
   have hA:AOp P o (λT' L'=>L'=L/\∃v,T'=cM o.dst v T/\k T') T L:=by
    obtain⟨d,op,gd⟩:=o;have call:∀{f:FuncId}{args:List AV},ahy P f args L (aht k d T)->ae P f args L (Kon (λT' L'=>L'=L/\∃v,T'=cM d v T/\k T') d T):=λ{f args} ⟨v,h1,h2⟩ =>
     h1.mono λav L' ⟨e1,e2⟩=>by subst e1;subst e2;exact⟨rfl,av,rfl,h2⟩
    simp only[GOp]at h;simp only[AOp];cases op
    case call f xs =>
     simp only at h⊢;cases he:gC T xs with
     |none=>rw[he]at h;exact h.elim
     |some args=>rw[he]at h;exact call h
    case callv f xs =>
     simp only at h⊢;cases hf:evX T f with
     |none=>rw[hf]at h;exact h.elim
     | some u =>
       rw[hf]at h;cases he:gC T xs with
       |none=>rw[he]at h;cases u<;>exact h.elim
       | some args =>
         rw[he]at h;cases u<;>simp only[ac1]at h;exact call h
    all_goals
     simp only at h⊢;generalize ak T L _=r at h⊢;cases r with
     |none=>exact h.elim
     | some r =>
       obtain⟨c,av,L'⟩:=r;exact⟨h.1,h.2.1,av,rfl,h.2.2⟩
   refine UM h1 hst (.inr ⟨g.1,g.2,hok,hx⟩) hA λE' T' L' a' w' hle ⟨e1,v,e2,hk⟩ hst'=>?_
   subst e1;subst e2;exact hK E' _ a' w' hle hk (ext v) (fre v) hst'
 | grp g' t b body d x =>
   simp only[okO,alx,decide_eq_true_eq,al4,amf,decide_eq_false_iff_not]at hok;obtain⟨⟨⟨⟨hg',ht⟩,htb⟩,hgb⟩,hb⟩:=hok;simp only[SOp.flat]at hl;obtain⟨js,ks,rfl,h1,h2⟩:=gq hl;obtain⟨i,rfl,h3⟩:=oC h2;rw[alI];simp only[GO]at h;have hfr':Fr (bC (SOp.flatL body)) T:=λd' hd'=>hfr d' (by simp[gds,hd'])
   have fin:∀{E':Env}{T':Tm}{a':Act}{w':World}(p q:Bool),E.le E'->St w0 S0 N E' T' L a' w'->Ext (bC (SOp.flatL body)) T T'->aq T t=some (.bool p)->(p=b->evX T' x=some (.bool q))->k ((d,.bool (mrg b p q))::T)->wpOpsIn (fw ro) 0 P ops Q ([i]++rest) a' w':=λ{E' T' a' w'} p q hle hst' hext hp hq hk=>by
    have hv:ak T' L (.pick (.tmp t) (if b then x else .av (.bool true)) (if b then .av (.bool false)else x))=some (True,.bool (mrg b p q),L):=by have ht':aq T' t=some (.bool p):=hext _ _ htb hp;cases b<;>cases p<;>simp[ak,evX,ht',mrg]<;>exact hq rfl
    refine UM h3 hst' (.inr ⟨g.1,g.2,by simp[dR,hg'],hext _ _ hgb hx⟩) (K:=λT'' L''=>T''=(d,.bool (mrg b p q))::T'/\L''=L) ?_ λE'' T'' L'' a'' w'' hle' ⟨e1,e2⟩ hst''=>?_
    .simp only[dR,AOp,hv,Res,cM,and_self]
    .subst e1;subst e2;refine hK E'' ((d,.bool (mrg b p q))::T) a'' w'' (hle.trans hle') hk (λu v hu hv=>?_) (λu hu hn=>?_) ⟨hst''.1,hst''.2.1.weak λu v hu=>?_,hst''.2.2⟩
     .simp only[cT,alM]at hu;simp only[aq];rw[if_neg (Ne.symm hu)];exact hv
     .simp only[cT,alM]at hu;simp only[aq];rw[if_neg (Ne.symm hu)];exact hn
     .simp only[aq]at hu⊢;split
      .rename_i e;rw[if_pos e]at hu;exact hu
      .rename_i e;rw[if_neg e]at hu;refine hext u v (λhm=>?_) hu;rw[hfr' u hm]at hu;cases hu
   rcases hp:aq T t with _|u
   .rw[hp]at h;exact h.elim
   rw[hp]at h;cases u<;>try exact h.elim
   rename_i p;obtain⟨q,hq,hk⟩:=h;by_cases e:p=b
   .subst e;refine YM body hb h1 hst hp (λd hd=>hfr' d (R2 body d hd)) (hq rfl) λE' T' a' w' hle hx' hext hst'=>fin p q hle hst' hext hp (λ_=>hx') hk
   .have:p = !b:=(by cases p<;>cases b<;>simp_all);refine UK body hb h1 hst (.inl (by rw[hp,this])) aoK λT' a' hext _ hst'=>fin p q (.refl E) hst' hext hp (λe'=>absurd e' e) hk
theorem YM{own:Nat->Nat}{ops:Array Oper}{Q:Exit->Act->World->Prop}{L:List Blk}(l:List SOp){g:Nat×Bool}{seen:List Nat}{is rest:List Nat}{T:Tm}{a:Act}{E:Env}{w:World}{k:Tm->Prop}(hok:okB g seen l=true)(hl:ce P N own ops is=some (SOp.flatL l))(hst:St w0 S0 N E T L a w)(hx:aq T g.1=some (.bool g.2))(hfr:Fr (gds l) T)(h:GL P L l k T)(hK:∀E' T' a' w',E.le E'->k T'->Ext (bC (SOp.flatL l)) T T'->St w0 S0 N E' T' L a' w'->wpOpsIn (fw ro) 0 P ops Q rest a' w'):wpOpsIn (fw ro) 0 P ops Q (is++rest) a w:=by
 cases l with
 | nil =>
   simp only[SOp.flatL]at hl;have:is=[]:=by
    cases is with
    |nil=>rfl
    | cons i is =>
      simp only[ce]at hl;split at hl<;>cases hl
   subst this;rw[GL]at h;exact hK E T a w (.refl E) h (λ_ _ _ h=>h) hst
 | cons s r =>
   simp only[okB,alx,alC,al4,bne_iff_ne,amf,decide_eq_false_iff_not]at hok;obtain⟨⟨h1,h2⟩,h3⟩:=hok;simp only[SOp.flatL]at hl;obtain⟨js,ks,rfl,h4,h5⟩:=gq hl;rw[alI];rw[GL]at h;rw[R3]at hfr;refine aj4 s h1 h4 hst hx (λd hd=>hfr d (amZ _ hd)) h λE' T' a' w' hle hk' e1 e2 hst'=>?_
   refine YM r h3 h5 hst' (e1 _ _ (λhm=>(h2 _ hm).2 rfl) hx) (λd hd=>e2 d (λhm=>(h2 d hm).1 hd) (hfr d (anp _ hd))) hk' λE'' T'' a'' w'' hle' hk'' f1 hst''=>hK E'' T'' a'' w'' (hle.trans hle') hk'' (λt v ht hv=>?_) hst''
   simp only[SOp.flatL,bC,am2,alv,not_or]at ht;exact f1 t v ht.2 (e1 t v (λhm=>ht.1 (ZE s t hm)) hv)
end
theorem ajd{o:aj}{K:Tm->List Blk->Prop}{T:Tm}{L:List Blk}(h:AOp P o K T L):AOp P o (λT' L'=>K T' L'/\∃v,T'=cM o.dst v T) T L:=by
 obtain⟨d,op,gd⟩:=o;have call:∀{f:FuncId}{args:List AV},ae P f args L (Kon K d T)->ae P f args L (Kon (λT' L'=>K T' L'/\∃v,T'=cM d v T) d T):=λ{f args} h=>h.mono λav L' h=>⟨h,av,rfl⟩
 simp only[AOp]at h⊢;cases op
 case call f xs =>
  simp only at h⊢;cases he:gC T xs with
  |none=>rw[he]at h;exact h.elim
  |some args=>rw[he]at h;exact call h
 case callv f xs =>
  simp only at h⊢;cases hf:evX T f with
  |none=>rw[hf]at h;cases he:gC T xs<;>rw[he]at h<;>exact h.elim
  | some u =>
    rw[hf]at h;cases he:gC T xs with
    |none=>rw[he]at h;cases u<;>exact h.elim
    | some args =>
      rw[he]at h;cases u<;>simp only[ahw]at h
      case yld i=>exact ahB.mono h λav L' h=>⟨h,av,rfl⟩
      exact call h
 all_goals
  simp only at h⊢;generalize ak T L _=r at h⊢;cases r with
  |none=>exact h.elim
  |some r=>exact⟨h.1,h.2,r.2.1,rfl⟩
theorem Gj{own:Nat->Nat}{ops:Array Oper}{Q:Exit->Act->World->Prop}{K:Tm->List Blk->Prop}:∀(l:List SOp){is:List Nat}{T:Tm}{L:List Blk}{a:Act}{E:Env}{w:World},okS l=true->ce P N own ops is=some (SOp.flatL l) ->
  St w0 S0 N E T L a w->Fr (gds l) T->SL P l K T L->(∀E' T' L' a' w',E.le E'->K T' L'->St w0 S0 N E' T' L' a' w'->Q .normal a' w')->wpOpsIn (fw ro) 0 P ops Q is a w
 | [],is,T,L,a,E,w,hok,hl,hst,hfr,h,hK=>by
   simp only[SOp.flatL]at hl;have:is=[]:=by
    cases is with
    |nil=>rfl
    | cons i is =>
      simp only[ce]at hl;split at hl<;>cases hl
   subst this;exact hK E T L a w (.refl E) h hst
 | .op o::r,is,T,L,a,E,w,hok,hl,hst,hfr,h,hK=>by
   simp only[okS,alx,alC,aoa,al4,amf,decide_eq_false_iff_not]at hok;simp only[SOp.flatL,SOp.flat,aob]at hl;obtain⟨js,ks,rfl,h1,h2⟩:=gq (l:=[o]) hl;obtain⟨i,rfl,h3⟩:=oC h1;have hfr':∀v,Fr (gds r) (cM o.dst v T):=λv=>Fr.put (ds:=gds r) hfr λk hk=>hok.1 k hk
   have run:(o.guard=none\/∃t b,o.guard=some (t,b)/\aq T t=some (.bool b))->AOp P o (SL P r K) T L->wpOpsIn (fw ro) 0 P ops Q ([i]++ks) a w:=λhg h =>
    UM h3 hst hg (ajd h) λE' T' L' a' w' hle ⟨hs,v,e⟩ hst'=>by subst e;exact Gj r hok.2 h2 hst' (hfr' v) hs λE'' T'' L'' a'' w'' hle'=>hK E'' T'' L'' a'' w'' (hle.trans hle')
   have skip:∀t b,o.guard=some (t,b)->(aq T t=some (.bool (!b))\/aq T t=some (.tup []))->SL P r K (cM o.dst (.tup []) T) L->wpOpsIn (fw ro) 0 P ops Q ([i]++ks) a w:=λt b hg hx h =>
    Vr h3 hst hg hx λa' hst'=>Gj r hok.2 h2 hst' (hfr' _) h hK
   rw[SL]at h;rcases hg:o.guard with _|⟨t,b⟩
   .rw[hg]at h;exact run (.inl hg) h
   .rw[hg]at h;simp only at h;rcases hx:aq T t with _|u
    .rw[hx]at h;exact h.elim
    rw[hx]at h;cases u<;>try exact h.elim
    .rename_i x;rw[KL]at h;by_cases e:x=b
     .rw[if_pos e]at h;exact run (.inr ⟨t,b,hg,by rw[hx,e]⟩) h
     .rw[if_neg e]at h;have:x = !b:=(by cases x<;>cases b<;>simp_all);exact skip t b hg (.inl (by rw[hx,this])) h
    .rename_i l;cases l with
     |cons _ _=>exact h.elim
     |nil=>exact skip t b hg (.inr hx) h
 | .grp g t b body d x::r,is,T,L,a,E,w,hok,hl,hst,hfr,h,hK=>by
   simp only[okS,alx,decide_eq_true_eq,al4,amf,decide_eq_false_iff_not]at hok;obtain⟨⟨⟨⟨hg,htb⟩,hb⟩,hd⟩,hr⟩:=hok;simp only[SOp.flatL,SOp.flat,alI]at hl;obtain⟨js,ks',rfl,h1,h2⟩:=gq hl;obtain⟨is',ks,rfl,h2',h4⟩:=gq h2;obtain⟨i,rfl,h3⟩:=oC h2';rw[SL]at h;have hfr1:Fr (bC (SOp.flatL body)) T:=λd' hd'=>hfr d' (by simp[gds,hd'])
   have hfr2:Fr (gds r) T:=λd' hd'=>hfr d' (by simp[gds,hd'])
   have fin:∀{E':Env}{T':Tm}{a':Act}{w':World}(p q:Bool),E.le E'->St w0 S0 N E' T' L a' w'->Ext (bC (SOp.flatL body)) T T'->aq T t=some (.bool p)->(p=b->evX T' x=some (.bool q))->SL P r K ((d,.bool (mrg b p q))::T) L->wpOpsIn (fw ro) 0 P ops Q ([i]++ks) a' w':=λ{E' T' a' w'} p q hle hst' hext hp hq hk=>by
    have hv:ak T' L (.pick (.tmp t) (if b then x else .av (.bool true)) (if b then .av (.bool false)else x))=some (True,.bool (mrg b p q),L):=by have ht':aq T' t=some (.bool p):=hext _ _ htb hp;cases b<;>cases p<;>simp[ak,evX,ht',mrg]<;>exact hq rfl
    refine UM h3 hst' (.inl (by simp[dR,hg])) (K:=λT'' L''=>T''=(d,.bool (mrg b p q))::T'/\L''=L) ?_ λE'' T'' L'' a'' w'' hle' ⟨e1,e2⟩ hst''=>?_
    .simp only[dR,AOp,hv,Res,cM,and_self]
    .subst e1;subst e2;refine Gj r hr h4 (T:=(d,.bool (mrg b p q))::T) ⟨hst''.1,hst''.2.1.weak λu v hu=>?_,hst''.2.2⟩ (Fr.put (d:=some d) hfr2 λk hk=>by cases hk;exact hd) hk λE3 T3 L3 a3 w3 hle3=>hK E3 T3 L3 a3 w3 ((hle.trans hle').trans hle3)
     simp only[aq]at hu⊢;split
     .rename_i e;rw[if_pos e]at hu;exact hu
     .rename_i e;rw[if_neg e]at hu;refine hext u v (λhm=>?_) hu;rw[hfr1 u hm]at hu;cases hu
   rcases hp:aq T t with _|u
   .rw[hp]at h;exact h.elim
   rw[hp]at h;cases u<;>try exact h.elim
   rename_i p;obtain⟨q,hq,hk⟩:=h;by_cases e:p=b
   .subst e;exact YM body hb h1 hst hp (λd hd=>hfr1 d (R2 body d hd)) (hq rfl) λE' T' a' w' hle hx' hext hst'=>fin p q hle hst' hext hp (λ_=>hx') hk
   .have:p = !b:=(by cases p<;>cases b<;>simp_all);exact UK body hb h1 hst (.inl (by rw[hp,this])) aoK λT' a' hext _ hst'=>fin p q (.refl E) hst' hext hp (λe'=>absurd e' e) hk
end
theorem aiV{p:Bool}(h:¬p=b):p = !b:=by cases p<;>cases b<;>simp_all
mutual
def Yu(g:Option (Nat×Bool))(seen D:List Nat):SOp->Bool
 |.op o=>decide (o.guard=g)&&o.reads.all (λt => !D.contains t)
 |.grp g' t b body d x=>decide (g'=g)&&(g.isNone ||seen.contains t) && !D.contains t && !(bC (SOp.flatL body)).contains t&&(match g with|some g1 => !(bC (SOp.flatL body)).contains g1.1|none=>true) &&
  x.tmps.all (λt => !(D++gds body).contains t)&&okG (some (t,b)) [] D body
def okG(g:Option (Nat×Bool))(seen D:List Nat):List SOp->Bool
 |[]=>true
 |s::r=>Yu g seen D s&&(cT s).all (λd => !(D++gds [s]).contains d && !(gds r).contains d&&(match g with|some g1=>d != g1.1|none=>true))&&okG g (cT s++seen) (D++gds [s]) r
end
section
variable {P:Program}{L:List Blk}{K:Tm->List Blk->Prop}
def AR(P:Program)(K:Tm->List Blk->Prop)(l:List aj)(L:List Blk)(T:Tm):Prop:=AG P K (l.map λo=>(o,.read 0 0)) [L] [] T
theorem akv{T:Tm}(h:K T L):AR P K [] L T:=h
theorem UW{o:aj}{r:List aj}{T:Tm}{v:AV}(h1:AQ P o T L v)(h2:AR P K r L (cM o.dst v T)):AR P K (o::r) L T:=by refine⟨v,λL' hL'=>?_,h2⟩;simp at hL';subst hL';exact h1
def Agr(D:List Nat)(T T1:Tm):Prop:=∀t,t∉D->aq T1 t=aq T t
theorem Agr.put{D:List Nat}{T T1:Tm}(h:Agr D T T1)(d:Option Nat)(v:AV):Agr D (cM d v T) (cM d v T1):=λt ht=>by
 cases d with
 |none=>exact h t ht
 |some d=>simp only[cM,aq];split;rfl;exact h t ht
theorem ZT{d:Option Nat}{T:Tm}{t:Nat}(h:aq T t=some (.tup [])):aq (cM d (.tup []) T) t=some (.tup []):=by
 cases d with
 |none=>exact h
 |some d=>simp only[cM,aq];split;rfl;exact h
mutual
theorem ai0(s:SOp){g:Nat×Bool}{seen D:List Nat}{rest:List aj}{T:Tm}(hok:Yu (some g) seen D s=true)(hx:aq T g.1=some (.bool (!g.2))\/aq T g.1=some (.tup []))(hseen:∀d∈seen,aq T d=some (.tup []))(hK:∀T',(∀t,t∉bC s.flat->aq T' t=aq T t)->(∀d,aq T d=some (.tup [])->aq T' d=some (.tup []))->(∀d∈cT s,aq T' d=some (.tup []))->AR P K rest L T'):AR P K (s.flat++rest) L T:=by
 have skip:∀(o:aj) (T:Tm),o.guard=some g->(aq T g.1=some (.bool (!g.2))\/aq T g.1=some (.tup []))->AQ P o T L (.tup []):=λo T hg hx=>by obtain⟨t,b⟩:=g;simp only[AQ,hg];rcases hx with hx|hx<;>simp only at hx<;>rw[hx]<;>simp
 cases s with
 | op o =>
   simp only[Yu,alx,decide_eq_true_eq]at hok;refine UW (skip o T hok.1 hx) (hK _ (λt ht=>qc λe=>ht (by simp[SOp.flat,bC,e])) (λd hd=>ZT hd) λd hd=>?_);simp only[cT,aoa]at hd;rw[hd];simp[cM,aq]
 | grp g' t b body d x =>
   simp only[Yu,alx,decide_eq_true_eq,Option.isNone_some,amY,al4,amf,decide_eq_false_iff_not]at hok;obtain⟨⟨⟨⟨⟨⟨hg',ht⟩,_⟩,htb⟩,hgb⟩,_⟩,hb⟩:=hok;simp only[SOp.flat,alI];refine Ws body hb (.inr (hseen t (by simpa using ht))) aoK λT' h1 h2=>?_
   refine UW (o:=dR g' t b d x) (v:=.tup []) (skip _ T' (by simp[dR,hg']) (by rw[h1 _ hgb];exact hx)) (hK _ (λu hu=>?_) (λu hu=>ZT (h2 u hu)) λu hu=>?_)
   .rw[qc (λe=>hu (by simp only[dR]at e;simp[SOp.flat,bC,dR,e]))];exact h1 u λhm=>hu (by simp only[SOp.flat,bC,am2,alv];exact .inl hm)
   .simp only[cT,alM]at hu;subst hu;simp[dR,cM,aq]
theorem Ws(l:List SOp){g:Nat×Bool}{seen D:List Nat}{rest:List aj}{T:Tm}(hok:okG (some g) seen D l=true)(hx:aq T g.1=some (.bool (!g.2))\/aq T g.1=some (.tup []))(hseen:∀d∈seen,aq T d=some (.tup []))(hK:∀T',(∀t,t∉bC (SOp.flatL l)->aq T' t=aq T t)->(∀d,aq T d=some (.tup [])->aq T' d=some (.tup []))->AR P K rest L T'):AR P K (SOp.flatL l++rest) L T:=by
 cases l with
 |nil=>exact hK T (λ_ _=>rfl) (λ_ h=>h)
 | cons s r =>
   simp only[okG,alx,alC,al4,bne_iff_ne]at hok;obtain⟨⟨h1,h2⟩,h3⟩:=hok;simp only[SOp.flatL,alI];refine ai0 s h1 hx hseen λT' e1 e2 e3=>?_
   have hx':aq T' g.1=some (.bool (!g.2))\/aq T' g.1=some (.tup []):=by
    by_cases hm:g.1∈bC s.flat
    .cases s with
     | op o =>
       simp only[bC,SOp.flat,List.filterMap_cons,List.filterMap_nil]at hm;cases hd:o.dst with
       |none=>simp[hd]at hm
       | some d =>
         simp[hd]at hm;exact absurd hm.symm (h2 d (by simp[cT,hd])).2
     | grp g' t b body d x =>
       simp only[Yu,alx,al4,amf,decide_eq_false_iff_not]at h1;simp only[bC,SOp.flat,am2,alv]at hm;rcases hm with hm|hm
       .exact absurd hm h1.1.1.2
       .simp[dR]at hm;exact absurd hm.symm (h2 d (by simp[cT])).2
    .exact hx.imp (λh=>by rw[e1 _ hm];exact h) (e2 _)
   refine Ws r h3 hx' (λd hd=>?_) λT'' f1 f2=>hK T'' (λt ht=>?_) (λd hd=>f2 d (e2 d hd))
   .rcases alv.1 hd with hd|hd
    .exact e3 d hd
    .exact e2 d (hseen d hd)
   .simp only[SOp.flatL,bC,am2,alv,not_or]at ht;rw[f1 t ht.2,e1 t ht.1]
end
def RL(l:List SOp):List Nat:=l.flatMap cT
theorem Xr:∀(l:List SOp),∀d∈RL l,d∈bC (SOp.flatL l)
 |[],d,h=>by simp[RL]at h
 |s::r,d,h=>by simp only[RL,amv,alv]at h;simp only[SOp.flatL,bC,am2,alv];exact h.imp (ZE s d) (Xr r d)
theorem akm{o:aj}{k:Tm->Prop}{T:Tm}(h:GOp P L o k T):∃v,AQv P o T L v/\k (cM o.dst v T):=by
 obtain⟨d,op,gd⟩:=o;simp only[GOp]at h;unfold AQv;cases op
 case call f xs =>
  simp only at h⊢;cases he:gC T xs with
  |none=>rw[he]at h;exact h.elim
  |some args=>rw[he]at h;obtain⟨v,h1,h2⟩:=h;exact⟨v,h1,h2⟩
 case callv f xs =>
  simp only at h⊢;cases hf:evX T f with
  |none=>rw[hf]at h;exact h.elim
  | some u =>
    rw[hf]at h;cases he:gC T xs with
    |none=>rw[he]at h;cases u<;>exact h.elim
    | some args =>
      rw[he]at h;cases u<;>simp only[ac1]at h;obtain⟨v,h1,h2⟩:=h;exact⟨v,h1,h2⟩
 all_goals
  simp only at h⊢;generalize ak T L _=r at h⊢;cases r with
  |none=>exact h.elim
  | some r =>
    obtain⟨c,av,L'⟩:=r;exact⟨av,⟨h.1,rfl,h.2.1⟩,h.2.2⟩
mutual
theorem akb(s:SOp){g:Option (Nat×Bool)}{seen D:List Nat}{rest:List aj}{T T1:Tm}{k:Tm->Prop}(hok:Yu g seen D s=true)(hx:∀g1,g=some g1->g1.1∉D/\aq T g1.1=some (.bool g1.2))(hfr:∀d∈gds [s],aq T d=none)(ha:Agr D T T1)(h:GO P L s k T)(hK:∀T' T1',k T'->Agr (D++gds [s]) T' T1'->(∀t,t∉cT s->aq T' t=aq T t)->AR P K rest L T1'):AR P K (s.flat++rest) L T1:=by
 cases s with
 | op o =>
   simp only[Yu,alx,decide_eq_true_eq,alC,al4,amf,decide_eq_false_iff_not]at hok;simp only[GO]at h;obtain⟨v,h1,h2⟩:=akm h;have hq:AQ P o T L v:=by
    unfold AQ;rw[hok.1];cases g with
    |none=>exact h1
    | some g1 =>
      obtain⟨t,b⟩:=g1;have:=(hx _ rfl).2;simp only at this⊢;rw[this];simp[h1]
   refine UW (hq.congr λt ht=>(ha t (hok.2 t ht)).symm) (hK _ _ h2 (λt ht=>?_) λt ht=>qc λe=>ht (by simp[cT,e]));exact(ha.put _ _) t λhm=>ht (amZ _ hm)
 | grp g' t b body d x =>
   simp only[Yu,alx,decide_eq_true_eq,alC,al4,amf,decide_eq_false_iff_not]at hok;obtain⟨⟨⟨⟨⟨⟨hg',_⟩,htD⟩,htb⟩,hgb⟩,hxD⟩,hb⟩:=hok;simp only[GO]at h;have hfr':∀u∈bC (SOp.flatL body),aq T u=none:=λu hu=>hfr u (by simp[gds,hu])
   have hgd:gds [SOp.grp g' t b body d x]=bC (SOp.flatL body):=(by simp[gds]);rw[hgd]at hK;simp only[SOp.flat,alI];have fin:∀{T1b:Tm}(p q:Bool),aq T t=some (.bool p)->(∀u,u∉D->u∉bC (SOp.flatL body)->aq T1b u=aq T u)->(p=b->evX T1b x=some (.bool q))->k ((d,.bool (mrg b p q))::T)->AR P K ([dR g' t b d x]++rest) L T1b:=λ{T1b} p q hp hT hq hk=>by
    have hv:ak T1b L (.pick (.tmp t) (if b then x else .av (.bool true)) (if b then .av (.bool false)else x))=some (True,.bool (mrg b p q),L):=by have ht':aq T1b t=some (.bool p):=(by rw[hT t htD htb];exact hp);cases b<;>cases p<;>simp[ak,evX,ht',mrg]<;>exact hq rfl
    have hqv:AQv P (dR g' t b d x) T1b L (.bool (mrg b p q)):=by simp only[AQv,dR,hv,and_self]
    have hq:AQ P (dR g' t b d x) T1b L (.bool (mrg b p q)):=by
     unfold AQ;cases g with
     |none=>simp only[dR,hg'];exact hqv
     | some g1 =>
       obtain⟨t1,b1⟩:=g1;have h1:=hx _ rfl;simp only[dR,hg'];rw[show aq T1b t1=some (.bool b1)by rw[hT t1 h1.1 (by simpa using hgb)];exact h1.2];simp;exact hqv
    refine UW hq (hK ((d,.bool (mrg b p q))::T) _ hk (λu hu=>?_) λu hu=>?_)
    .simp only[alv,not_or]at hu;simp only[dR,cM,aq];split
     .rfl
     .exact hT u hu.1 hu.2
    .simp only[cT,alM]at hu;simp only[aq];rw[if_neg (Ne.symm hu)]
   rcases hp:aq T t with _|u
   .rw[hp]at h;exact h.elim
   rw[hp]at h;cases u<;>try exact h.elim
   rename_i p;obtain⟨q,hq,hk⟩:=h;by_cases e:p=b
   .subst e;refine Y1 body hb (λg1 e=>by cases e;exact⟨htD,hp⟩) (λu hu=>hfr' u (R2 body u hu)) ha (hq rfl) λTb T1b hxb hab hTb=>fin p q hp (λu h1 h2=>?_) (λ_=>?_) hk
    .rw[hab u (by simp only[alv,not_or];exact⟨h1,λhm=>h2 (R2 body u hm)⟩)];exact hTb u λhm=>h2 (Xr body u hm)
    .have hxb':evX Tb x=some (.bool q):=hxb;rw[<- hxb'];cases x with
     |av a=>rfl
     |tmp t'=>exact hab t' (by have:=hxD t' (by simp[Opd.tmps]);simpa using this)
   .have:p = !b:=aiV e;refine Ws body hb (.inl (by show aq T1 t=_;rw[ha t htD,hp,this])) aoK λT1b h1 _=>fin p q hp (λu h2 h3=>?_) (λe'=>absurd e' e) hk
    rw[h1 u h3,ha u h2]
theorem Y1(l:List SOp){g:Option (Nat×Bool)}{seen D:List Nat}{rest:List aj}{T T1:Tm}{k:Tm->Prop}(hok:okG g seen D l=true)(hx:∀g1,g=some g1->g1.1∉D/\aq T g1.1=some (.bool g1.2))(hfr:∀d∈gds l,aq T d=none)(ha:Agr D T T1)(h:GL P L l k T)(hK:∀T' T1',k T'->Agr (D++gds l) T' T1'->(∀t,t∉RL l->aq T' t=aq T t)->AR P K rest L T1'):AR P K (SOp.flatL l++rest) L T1:=by
 cases l with
 | nil =>
   rw[GL]at h;exact hK T T1 h (by simpa[gds]using ha) (λ_ _=>rfl)
 | cons s r =>
   simp only[okG,alx,alC,al4,amf,decide_eq_false_iff_not]at hok;obtain⟨⟨h1,h2'⟩,h3⟩:=hok;have h2:∀d∈cT s,d∉gds r:=λd hd=>(h2' d hd).1.2
   simp only[SOp.flatL,alI];rw[GL]at h;rw[R3]at hfr hK;refine akb s h1 hx (λd hd=>hfr d (amZ _ hd)) ha h λT' T1' hk e1 e2=>?_
   refine Y1 r h3 (λg1 hg=>?_) (λd hd=>?_) e1 hk λT'' T1'' hk' f1 f2=>hK T'' T1'' hk' (by rwa[alI]at f1) λt ht=>?_
   .subst hg;have hne:g1.1∉cT s:=λhm=>by have:=(h2' _ hm).2;simp at this
    have hng:g1.1∉gds [s]:=λhm=>by
     cases s with
     |op o=>simp[gds]at hm
     | grp g' t b body d x =>
       simp only[Yu,alx,al4,amf,decide_eq_false_iff_not]at h1;simp only[gds,alY]at hm;exact h1.1.1.2 hm
    have h4:=hx g1 rfl;exact⟨by simp only[alv,not_or];exact⟨h4.1,hng⟩,by rw[e2 _ hne];exact h4.2⟩
   .rw[e2 d (λhm=>h2 d hm hd)];exact hfr d (anp _ hd)
   .simp only[RL,amv,alv,not_or]at ht;rw[f2 t ht.2,e2 t ht.1]
end
theorem ZH:∀(l:List SOp){g:Option (Nat×Bool)}{seen D:List Nat},okG g seen D l=true->∀t∈RL l,t∉D++gds l
 |[],_,_,_,_,t,h=>by simp[RL]at h
 | s::r,g,seen,D,hok,t,h=>by
   simp only[okG,alx,alC,al4,amf,decide_eq_false_iff_not]at hok;obtain⟨⟨h1,h2⟩,h3⟩:=hok;rw[R3];simp only[RL,amv,alv]at h;rcases h with h|h
   .have:=(h2 t h).1;simp only[alv,not_or]at this⊢;exact⟨this.1.1,this.1.2,this.2⟩
   .have:=ZH r h3 t h;simp only[alv,not_or]at this⊢;exact⟨this.1.1,this.1.2,this.2⟩
theorem aeB{l:List SOp}{T:Tm}{k:Tm->Prop}(hok:okG none [] [] l=true)(hfr:Fr (gds l) T)(h:GL P L l k T):AR P (λT1 L'=>L'=L/\∃T',k T'/\∀t v,aq T' t=some v->aq T1 t=some v) (SOp.flatL l) L T:=by
 have:=Y1 (K:=λT1 L'=>L'=L/\∃T',k T'/\∀t v,aq T' t=some v->aq T1 t=some v) (rest:=[]) l hok (λ_ e=>by cases e) hfr (T1:=T) (λ_ _=>rfl) h λT' T1' hk e1 e2=>akv ⟨rfl,T',hk,λt v hv=>?_⟩
 simpa using this;by_cases hm:t∈gds l;by_cases ho:t∈RL l;exact absurd (by simpa using hm) (ZH l hok t ho);rw[e2 t ho,hfr t hm]at hv;cases hv;rw[e1 t (by simpa using hm)];exact hv
end
section
variable {P:Program}{r:Option Nat}{w0:World}{S0:SB}{N:Nat}
inductive b9 where
 |skip
 |sreg (sops:List SOp) (mask:List Bool)
 |sdreg (sops:List SOp) (kds:List Kd) (mask:List Bool)
 |dregM (qk:List (aj×Kd)) (ts:List aj) (mask:List Bool)
 |region (ops:List aj)
 |dregion (qk:List (aj×Kd)) (ts:List aj)
 |seq (a b:b9)
 |cond (c:Opd) (a b:b9)
 |block (id:Nat) (c:b9)
 |loop (c:b9)
 |exit (id:Nat)
 |ret
 |rangeF (g:Opd) (ps:List Nat) (x y:b9)
 |scope (c:b9)
 |label
 deriving Inhabited
def b9.raw:b9->b9
 |.sreg s _=>.region (SOp.flatL s)
 |.dregM qk ts _=>.dregion qk ts
 |.sdreg s kds _=>.dregion ((SOp.flatL s).zip kds) ((SOp.flatL s).drop kds.length)
 |.seq a b=>.seq a.raw b.raw
 |.cond c a b=>.cond c a.raw b.raw
 |.block id c=>.block id c.raw
 |.loop c=>.loop c.raw
 |.rangeF g ps x y=>.rangeF g ps x.raw y.raw
 |.scope c=>.scope c.raw
 |c=>c
def b9.hasRF:b9->Bool
 |.seq a b=>a.hasRF ||b.hasRF
 |.cond _ a b=>a.hasRF ||b.hasRF
 |.block _ c=>c.hasRF
 |.loop c=>c.hasRF
 |.scope c=>c.hasRF
 |.rangeF ..=>true
 |_=>false
def LOp.effB:LOp->Bool
 |.alloc _|.box _|.s2bO _|.s2bG _|.rangeS _|.nextS _|.store .. |.mkslice .. |.app .. |.appz .. |.copy .. |.clear .. |.mkmap|.mset .. |.mdel .. |.mrange _|.mnext _=>true
 |.bslice own ..=>own
 |_=>false
def akO(own:Nat->Nat)(i:Nat)(o:aj):Bool:=o.op.effB ||own i == 3
def ajT(eff:Nat->aj->Bool)(tbl:List Nat)(es:List Nat)(i:Nat)(o:aj):Kd :=
 if o.op.pureB=true then .pure else if eff i o=true then .eff
 else .read (es.filter λe=>decide (e<i) && !(tbl.getD i 0).testBit e).length (es.filter λe=>decide (i<e) && !(tbl.getD e 0).testBit i).length
def YE(eff:Nat->aj->Bool)(tbl:List Nat)(qs:List aj):List (aj×Kd):=
 let es:=(qs.zipIdx.filter λp=>eff p.2 p.1).map (·.2)
 qs.zipIdx.map λp=>(p.1,ajT eff tbl es p.2 p.1)
theorem ZW(eff:Nat->aj->Bool)(tbl:List Nat)(qs:List aj):(YE eff tbl qs).map (·.1)=qs:=by simp[YE,al0,anX]
def br(P:Program)(N:Nat)(own:Nat->Nat->Nat):Code->Option b9
 |.skip=>some .skip
 |.region id ops false=>(ce P N (own id) ops (List.range ops.size)).map .region
 | .region id ops true=>(ce P N (own id) ops (List.range ops.size)).bind fun los =>
   let n:=Ya (qo ops.toList []) 0 los.length
   let qk:=YE (akO (own id)) (qo ops.toList []) (los.take n)
   if(Km ops los n&&decide (n<=los.length)&&P.follows .mixedOrders&&SO (qo ops.toList []) qk)=true then some (.dregion qk (los.drop n))else none
 | .seq a b=>match br P N own a,br P N own b with
   |some x,some y=>some (.seq x y)
   |_,_=>none
 | .cond c a b=>match bG c,br P N own a,br P N own b with
   |some c,some x,some y=>some (.cond c x y)
   |_,_,_=>none
 |.block id c=>(br P N own c).map (.block id)
 |.loop c=>(br P N own c).map .loop
 |.exit id=>some (.exit id)
 |.ret=>some .ret
 |.scope c=>(br P N own c).map .scope
 |.label _=>some .label
 | .rangeFunc g ps x y=>match bG g,br P N own x,br P N own y with
   |some g,some x,some y=>if(!x.hasRF && !y.hasRF&&ps.all λp=>decide (p<N))=true then some (.rangeF g ps.toList x y)else none
   |_,_,_=>none
 |_=>none
structure Bs(w0:World)(S0:SB)(w1:World)(S1:SB):Prop where
 size:w0.heap.size<=w1.heap.size
 fr:∀k,k<w0.heap.size->¬S0 k->¬S1 k/\w1.heap[k]?=w0.heap[k]?
 sub:∀k,S1 k->S0 k\/w0.heap.size<=k
 os:w1.os=w0.os
 tape:w1.tape=w0.tape
 output:w1.output=w0.output
 low:S1.B=S0.B
theorem Bs.refl(w0:World)(S0:SB):Bs w0 S0 w0 S0:=⟨alr _,λ_ _ h=>⟨h,rfl⟩,λ_ h=>.inl h,rfl,rfl,rfl,rfl⟩
theorem Bs.trans{w0 w1 w2:World}{S0 S1 S2:SB}(h:Bs w0 S0 w1 S1)(k:Bs w1 S1 w2 S2):Bs w0 S0 w2 S2 :=
 ⟨alQ h.size k.size,λi hi hs=>by
  obtain⟨h1,h2⟩:=h.fr i hi hs;obtain⟨h3,h4⟩:=k.fr i (amV hi h.size) h1;exact⟨h3,h4.trans h2⟩,λi hi=>by
  rcases k.sub i hi with h1|h1;exact h.sub i h1;exact .inr (alQ h.size h1),k.os.trans h.os,k.tape.trans h.tape,k.output.trans h.output,k.low.trans h.low⟩
theorem Bs.rel{w0 w1 w:World}{S0 S1:SB}(h:Bs w0 S0 w1 S1){E:Env}{L:List Blk}(hR:Rel w1 S1 E L w):Rel w0 S0 E L w :=
 ⟨hR.mem,hR.blk,hR.fresh,λi k c h1 h2 h3=>⟨(hR.own i k c h1 h2 h3).1,by
  rcases(hR.own i k c h1 h2 h3).2 with h4|h4;exact h.sub _ h4;exact .inr (alQ h.size h4)⟩,hR.inj,hR.tkfresh,λi n sz t k h1 h2 h3=>⟨(hR.tkown i n sz t k h1 h2 h3).1,by
  rcases(hR.tkown i n sz t k h1 h2 h3).2 with h4|h4;exact h.sub _ h4;exact .inr (alQ h.size h4)⟩,hR.tkloc,hR.tkinj,λk hk hs=>by
  obtain⟨h1,h2⟩:=h.fr k hk hs;exact(hR.frame k (amV hk h.size) h1).trans h2,alQ h.size hR.size,hR.os.trans h.os,hR.tape.trans h.tape,hR.output.trans h.output,hR.glob,hR.gsz⟩
theorem Rel.ownSub{w0 w:World}{S0:SB}{E:Env}{L:List Blk}(hR:Rel w0 S0 E L w)(k:Nat)(hk:Y9 E L k):S0 k\/w0.heap.size<=k:=by rcases hk with⟨i,b,c,h1,h2,h3,rfl⟩|⟨i,n,sz,t,c,h1,h2,h3,rfl⟩;exact(hR.own i b c h1 h2 h3).2;exact(hR.tkown i n sz t c h1 h2 h3).2
theorem Rel.bs{w0 w:World}{S0:SB}{E:Env}{L:List Blk}(hR:Rel w0 S0 E L w):Bs w0 S0 w ⟨Y9 E L,S0.B⟩:=
 ⟨hR.size,λk hk hs=>⟨λho=>by rcases hR.ownSub k ho with h1|h1;exact hs h1;omega,hR.frame k hk hs⟩,hR.ownSub,hR.os,hR.tape,hR.output,rfl⟩
theorem ab8.bs{w0 w1:World}{S0 S1:SB}{ds:List Deferred}(h:ab8 w0 S0 ds)(b:Bs w0 S0 w1 S1):ab8 w1 S1 ds:=⟨by rw[b.low];exact alQ h.1 b.size,h.2.1,λd hd=>by obtain⟨D,h1,h0,h2,h3,h4⟩:=h.2.2 d hd;obtain⟨h5,h6⟩:=b.fr D h2 h3;exact⟨D,h1,by rw[b.low];exact h0,amV h2 b.size,h5,h6.trans h4⟩⟩
def AW(P:Program)(N:Nat)(own:Nat->Nat->Nat)(lc:b9)(Q:Exit->Tm->List Blk->Prop)(T:Tm)(L:List Blk):Prop :=
 ∀c,br P N own c=some lc.raw->∀(r:Option Nat),(lc.hasRF=true->r=none)->∀(w0:World) (S0:SB) (E:Env) (a:Act) (w:World),St w0 S0 N E T L a w ->
  c.wpIn (fw r) 0 P (λe a' w'=>∃w1 S1 E' T' L',Bs w0 S0 w1 S1/\E.le E'/\Q e T' L'/\St w1 S1 N E' T' L' a' w') a w
variable {own:Nat->Nat->Nat}{Q:Exit->Tm->List Blk->Prop}{T:Tm}{L:List Blk}
theorem AW.mono{lc:b9}{Q':Exit->Tm->List Blk->Prop}(h:AW P N own lc Q T L)(hq:∀e T L,Q e T L->Q' e T L):AW P N own lc Q' T L:=λc hc r hr w0 S0 E a w hst =>
 wpIn_mono (h c hc r hr w0 S0 E a w hst) λe a' w' ⟨w1,S1,E',T',L',b,h1,h2,h3⟩=>⟨w1,S1,E',T',L',b,h1,hq _ _ _ h2,h3⟩
theorem AW.weakT{lc:b9}{T':Tm}(h:AW P N own lc Q T' L)(hT:∀t v,aq T' t=some v->aq T t=some v):AW P N own lc Q T L:=λc hc r hr w0 S0 E a w hst =>
 h c hc r hr w0 S0 E a w (hst.weak hT rfl λ_ _ e=>.inr e)
theorem rY{c:Code}{x:b9}(hc:br P N own c=some x):match x with
  |.skip=>c=.skip
  |.exit id=>c=.exit id
  |.ret=>c=.ret
  |.label=>∃l,c=.label l
  |.seq x y=>∃c1 c2,c=.seq c1 c2/\br P N own c1=some x/\br P N own c2=some y
  |.cond o x y=>∃c0 c1 c2,c=.cond c0 c1 c2/\bG c0=some o/\br P N own c1=some x/\br P N own c2=some y
  |.block id x=>∃c1,c=.block id c1/\br P N own c1=some x
  |.loop x=>∃c1,c=.loop c1/\br P N own c1=some x
  |.scope x=>∃c1,c=.scope c1/\br P N own c1=some x
  |.region ops=>∃id os,c=.region id os false/\ce P N (own id) os (List.range os.size)=some ops
  |.dregion qk ts=>∃id os los n,c=.region id os true/\ce P N (own id) os (List.range os.size)=some los/\Km os los n=true/\n<=los.length/\P.follows .mixedOrders=true/\qk.map (·.1)=los.take n/\ts=los.drop n/\SO (qo os.toList []) qk=true
  |_=>True:=by
 cases c with
 |skip=>cases hc;rfl
 |ret=>cases hc;rfl
 |exit id=>cases hc;rfl
 |label l=>cases hc;exact⟨_,rfl⟩
 |goto l=>cases hc
 |refuse s=>cases hc
 |block id c=>simp only[br,alS]at hc;obtain⟨_,h1,rfl⟩:=hc;exact⟨_,rfl,h1⟩
 |loop c=>simp only[br,alS]at hc;obtain⟨_,h1,rfl⟩:=hc;exact⟨_,rfl,h1⟩
 |scope c=>simp only[br,alS]at hc;obtain⟨_,h1,rfl⟩:=hc;exact⟨_,rfl,h1⟩
 | seq a b => simp only [br] at hc; split at hc <;> try (cases hc; done)
              rename_i h1 h2;cases hc;exact⟨_,_,rfl,h1,h2⟩
 | cond k a b => simp only [br] at hc; split at hc <;> try (cases hc; done)
                 rename_i h1 h2 h3;cases hc;exact⟨_,_,_,rfl,h1,h2,h3⟩
 | rangeFunc f ps a b =>
   simp only[br]at hc
   repeat' split at hc
   all_goals cases hc
   trivial
 | region id ops draw =>
   cases draw
   .simp only[br,alS]at hc;obtain⟨_,h1,rfl⟩:=hc;exact⟨_,_,rfl,h1⟩
   .simp only[br,ani]at hc;obtain⟨los,h1,hc⟩:=hc;split at hc
    .rename_i hb;simp only[alx,decide_eq_true_eq]at hb;cases hc;exact⟨_,_,los,_,rfl,h1,hb.1.1.1,hb.1.1.2,hb.1.2,ZW _ _ _,rfl,hb.2⟩
    .cases hc
theorem agk{c:Code}(hc:br P N own c=some .skip):c=.skip:=rY hc
theorem agm{c:Code}{id:Nat}(hc:br P N own c=some (.exit id)):c=.exit id:=rY hc
theorem aiB{c:Code}(hc:br P N own c=some .ret):c=.ret:=rY hc
theorem acI{c:Code}{x y:b9}(hc:br P N own c=some (.seq x y)):∃c1 c2,c=.seq c1 c2/\br P N own c1=some x/\br P N own c2=some y:=rY hc
theorem Z4{c:Code}{o:Opd}{x y:b9}(hc:br P N own c=some (.cond o x y)):∃c0 c1 c2,c=.cond c0 c1 c2/\bG c0=some o/\br P N own c1=some x/\br P N own c2=some y:=rY hc
theorem adX{c:Code}{id:Nat}{x:b9}(hc:br P N own c=some (.block id x)):∃c1,c=.block id c1/\br P N own c1=some x:=rY hc
theorem agl{c:Code}{x:b9}(hc:br P N own c=some (.loop x)):∃c1,c=.loop c1/\br P N own c1=some x:=rY hc
theorem Pq{c:Code}{ops:List aj}(hc:br P N own c=some (.region ops)):∃id os,c=.region id os false/\ce P N (own id) os (List.range os.size)=some ops:=rY hc
theorem Ua{c:Code}{qk:List (aj×Kd)}{ts:List aj}(hc:br P N own c=some (.dregion qk ts)):∃id os los n,c=.region id os true/\ce P N (own id) os (List.range os.size)=some los/\Km os los n=true/\n<=los.length/\P.follows .mixedOrders=true/\qk.map (·.1)=los.take n/\ts=los.drop n/\SO (qo os.toList []) qk=true:=rY hc
theorem iU{b:Frame}{a:Act}{k:List Item}{cs:List Frame}{w:World}{c:Code}:step P (lone (b.atR a (.code (.scope c)::k)) cs w)=.next (lone (b.atR a (.code c :: .inScope c::k)) cs w):=
 step_lone_go (by simp[stepG,stepG.exec,Frame.atR])
theorem WK{b:Frame}{a:Act}{k:List Item}{cs:List Frame}{w:World}{c:Code}:step P (lone (b.atR a (.inScope c::k)) cs w)=.next (lone (b.atR a k) cs w):=
 step_lone_go (by simp[stepG,stepG.exec,Frame.atR])
theorem aaU{F:Fence}{n:Nat}{a:Act}{w:World}{Q:Exit->Act->World->Prop}{c:Code}(h:c.wpIn F n P (Exit.noGoto Q) a w):(Code.scope c).wpIn F n P Q a w:=by
 intro b k cs hro hb hr;have h0:(lone (b.atR a (.code (.scope c)::k)) cs w).fenced P F:=fenced_calm hb hr rfl;obtain⟨e,a₁,w₁,hq,harr⟩:=h b (.inScope c::k) cs hro hb hr;cases e with
 |normal=>exact⟨.normal,a₁,w₁,hq,.head h0 iU (StepsIn.trans harr (.one (fenced_calm hb hr rfl) WK))⟩
 | exit id =>
   have hx:exitTo id (.inScope c::k)=exitTo id k:=(by simp[exitTo]);exact⟨.exit id,a₁,w₁,hq,λk' hk=>.head h0 iU (harr.1 k' (by rw[hx];exact hk)),
    λhr' hk=>let ⟨k₁,h1,h2⟩:=harr.2 hr' (by rw[hx];exact hk);⟨k₁,h1,.head h0 iU h2⟩⟩
 |goto l=>exact hq.elim
 |ret=>exact⟨_,a₁,w₁,hq,.of_steps (.one h0 iU) harr⟩
 |panic ch=>exact⟨_,a₁,w₁,hq,.of_steps (.one h0 iU) harr⟩
 |outgrown=>exact⟨_,a₁,w₁,hq,.of_steps (.one h0 iU) harr⟩
theorem aP(h:Q .normal T L):AW P N own .skip Q T L:=λc hc r hr w0 S0 E a w hst=>by obtain rfl:=agk hc;exact wpIn_skip ⟨w0,S0,E,T,L,.refl _ _,.refl E,h,hst⟩
theorem aW{id:Nat}(h:Q (.exit id) T L):AW P N own (.exit id) Q T L:=λc hc r hr w0 S0 E a w hst=>by obtain rfl:=agm hc;exact wpIn_exit ⟨w0,S0,E,T,L,.refl _ _,.refl E,h,hst⟩
theorem bq(h:Q .ret T L):AW P N own .ret Q T L:=λc hc r hr w0 S0 E a w hst=>by obtain rfl:=aiB hc;exact wpIn_ret ⟨w0,S0,E,T,L,.refl _ _,.refl E,h,hst⟩
def acY(K:Tm->List Blk->Prop)(Q:Exit->Tm->List Blk->Prop):Exit->Tm->List Blk->Prop
 |.normal,T,L=>K T L
 |e,T,L=>Q e T L
theorem bd{x y:b9}(h:AW P N own x (acY (AW P N own y Q) Q) T L):AW P N own (.seq x y) Q T L:=λc hc r hr w0 S0 E a w hst=>by
 obtain⟨c1,c2,rfl,h1,h2⟩:=acI hc;refine wpIn_seq (wpIn_mono (h c1 h1 r (λe=>hr (by simp[b9.hasRF,e])) w0 S0 E a w hst) λe a' w' ⟨w1,S1,E',T',L',b,g1,g2,g3⟩=>?_);cases e
 case normal=>exact wpIn_mono (g2 c2 h2 r (λe=>hr (by simp[b9.hasRF,e])) w1 S1 E' a' w' g3) λe a'' w'' ⟨w2,S2,E'',T'',L'',b2,k1,k2,k3⟩=>⟨w2,S2,E'',T'',L'',b.trans b2,g1.trans k1,k2,k3⟩
 all_goals exact⟨w1,S1,E',T',L',b,g1,g2,g3⟩
theorem aL{x:Opd}{y z:b9}{b:Bool}(hx:evX T x=some (.bool b))(ht:b=true->AW P N own y Q T L)(hf:b=false->AW P N own z Q T L):AW P N own (.cond x y z) Q T L:=λc hc r hr w0 S0 E a w hst=>by obtain⟨c0,c1,c2,rfl,h1,h2,h3⟩:=Z4 hc;have:=ai h1 hx hst.2.1;simp only[VR]at this;exact wpIn_cond_split this (λe=>ht e c1 h2 r (λe=>hr (by simp[b9.hasRF,e])) w0 S0 E a w hst) (λe=>hf e c2 h3 r (λe=>hr (by simp[b9.hasRF,e])) w0 S0 E a w hst)
def ab7(id:Nat)(Q:Exit->Tm->List Blk->Prop):Exit->Tm->List Blk->Prop
 |.exit id',T,L=>if id'=id then Q .normal T L else Q (.exit id') T L
 |e,T,L=>Q e T L
theorem ao{x:Opd}{y z:b9}(hx:evX T x=some .anyb)(ht:AW P N own y Q T L)(hf:AW P N own z Q T L):AW P N own (.cond x y z) Q T L:=λc hc r hr w0 S0 E a w hst=>by obtain⟨c0,c1,c2,rfl,h0,h1,h2⟩:=Z4 hc;have hv:=ai h0 hx hst.2.1;simp only[VR]at hv;obtain⟨b,hv⟩:=hv;exact wpIn_cond_split hv (λ_=>ht c1 h1 r (λe=>hr (by simp[b9.hasRF,e])) w0 S0 E a w hst) (λ_=>hf c2 h2 r (λe=>hr (by simp[b9.hasRF,e])) w0 S0 E a w hst)
theorem aH{id:Nat}{x:b9}(h:AW P N own x (ab7 id Q) T L):AW P N own (.block id x) Q T L:=λc hc r hr w0 S0 E a w hst=>by
 obtain⟨c1,rfl,h1⟩:=adX hc;refine wpIn_block (wpIn_mono (h c1 h1 r (λe=>hr (by simp[b9.hasRF,e])) w0 S0 E a w hst) λe a' w' ⟨w1,S1,E',T',L',b,g1,g2,g3⟩=>?_);cases e
 case exit i =>
  simp only[ab7]at g2;simp only[Exit.inBlock];split at g2
  .rename_i e;rw[if_pos e];exact⟨w1,S1,E',T',L',b,g1,g2,g3⟩
  .rename_i e;rw[if_neg e];exact⟨w1,S1,E',T',L',b,g1,g2,g3⟩
 all_goals exact⟨w1,S1,E',T',L',b,g1,g2,g3⟩
def Y8(Q:Exit->Tm->List Blk->Prop):Exit->Tm->List Blk->Prop
 |.goto _,_,_=>False
 |e,T,L=>Q e T L
theorem ahq:Y8 Q .normal T L=Q .normal T L:=rfl
theorem ahr{i:Nat}:Y8 Q (.exit i) T L=Q (.exit i) T L:=rfl
theorem ahp:Y8 Q .ret T L=Q .ret T L:=rfl
attribute [push_cast] ahq ahr ahp
theorem aC{x:b9}(h:AW P N own x (Y8 Q) T L):AW P N own (.scope x) Q T L:=λc hc r hr w0 S0 E a w hst=>by
 obtain⟨c1,rfl,h1⟩:=rY hc;refine aaU (wpIn_mono (h c1 h1 r (λe=>hr (by simp[b9.hasRF,e])) w0 S0 E a w hst) λe a' w' ⟨w1,S1,E',T',L',b,g1,g2,g3⟩=>?_);cases e
 case goto l=>exact g2.elim
 all_goals exact⟨w1,S1,E',T',L',b,g1,g2,g3⟩
theorem aD(h:Q .normal T L):AW P N own .label Q T L:=λc hc r hr w0 S0 E a w hst=>by obtain⟨l,rfl⟩:=rY hc;exact wpIn_label ⟨w0,S0,E,T,L,.refl _ _,.refl E,h,hst⟩
theorem YR(p:Nat->Prop):∀n,p n->∃m,p m/\∀k,p k->m<=k:=by
 intro n;induction n using Nat.strongRecOn with
 | _ n ih =>
   intro hn;by_cases h:∃k,k<n/\p k
   .obtain⟨k,h1,h2⟩:=h;exact ih k h1 h2
   .refine⟨n,hn,λk hk=>?_⟩;rcases alK k n with h1|h1
    .exact absurd ⟨k,h1,hk⟩ h
    .exact h1
theorem St.draw{E:Env}{a:Act}{w:World}{T:Tm}{L:List Blk}(h:St w0 S0 N E T L a w)(n:Nat):St w0 S0 N E T L a {w with drawn:=n}:=⟨h.1.draw n,h.2⟩
theorem WJ{qk:List (aj×Kd)}{ts:List aj}(h:AG P (oI P (Q .normal) ts) qk [L] [] T):AW P N own (.dregion qk ts) Q T L:=λc hc r hr w0 S0 E a w hst=>by
 obtain⟨id,os,los,n,rfl,h1,h2,h3,h4,h5,rfl,h6⟩:=Ua hc;refine wpIn_region_any h4 ?_;have hn:qk.length=n:=by have:=congrArg List.length h5;simp at this;omega
 exact aaI (w0:=w0) (S0:=S0) (L:=L) (T:=T) (Q:=λe a' w'=>∃w1 S1 E' T' L',Bs w0 S0 w1 S1/\E.le E'/\Q e T' L'/\St w1 S1 N E' T' L' a' w') (K:=Q .normal) (E0:=E) h1 h2 (by rw[h5,am9]) hn h6 h (λE' T' L' a' w' e1 e2 e3=>⟨w0,S0,E',T',L',.refl _ _,e1,e2,e3⟩) a _ E (.refl E) (hst.draw _)
def ajG(mask:List Bool)(T:Tm):Bool:=(mask.zip T).all λp=>p.1 ||(aq (sel mask T) p.2.1).isNone
theorem U2:∀{mask:List Bool}{T:Tm}{t:Nat}{v:AV},(∀p∈mask.zip T,p.1=true\/p.2.1≠t)->aq (sel mask T) t=some v->aq T t=some v
 |[],T,t,v,_,h=>by rwa[acr]at h
 |true::m,[],t,v,_,h=>by simp[sel,aq]at h
 |false::m,[],t,v,_,h=>by simp[sel,aq]at h
 | true::m,x::T,t,v,hm,h=>by
   obtain⟨k,u⟩:=x;rw[ajg]at h;simp only[aq]at h⊢;split
   .rename_i e;rw[if_pos e]at h;exact h
   .rename_i e;rw[if_neg e]at h;exact U2 (λp hp=>hm p (by simp only[List.zip_cons_cons,alu];exact .inr hp)) h
 | false::m,x::T,t,v,hm,h=>by
   obtain⟨k,u⟩:=x;rw[ajh]at h;have hk:k≠t:=by
    rcases hm (false,(k,u)) aoK with h|h
    .cases h
    .exact h
   simp only[aq];rw[if_neg hk];exact U2 (λp hp=>hm p (by simp only[List.zip_cons_cons,alu];exact .inr hp)) h
theorem KX{mask:List Bool}{T:Tm}{t:Nat}{v:AV}(hb:ajG mask T=true)(h:aq (sel mask T) t=some v):aq T t=some v :=
 U2 (λp hp=>by
  have:=alC.1 hb p hp;rcases Bool.or_eq_true_iff.1 this with h1|h1;exact .inl h1;refine .inr λe=>?_
  rw[e,h]at h1;cases h1) h
def WD(mask:List Bool)(K:Tm->List Blk->Prop)(T:Tm)(L:List Blk):Prop:=ajG mask T=true/\K (sel mask T) L
theorem aO{mask:List Bool}{K:Tm->List Blk->Prop}{T:Tm}{L:List Blk}(h1:ajG mask T=true)(h2:K (sel mask T) L):WD mask K T L:=⟨h1,h2⟩
def frB(ds:List Nat)(T:Tm):Bool:=ds.all λd=>(aq T d).isNone
theorem aV{sops:List SOp}{mask:List Bool}(hf:(okS sops&&frB (gds sops) T)=true)(h:SL P sops (WD mask (Q .normal)) T L):AW P N own (.sreg sops mask) Q T L:=λc hc r hr w0 S0 E a w hst=>by obtain⟨id,os,rfl,h1⟩:=Pq hc;rw[alx]at hf;refine wpIn_region (Gj sops hf.1 h1 hst (λd hd=>?_) h λE' T' L' a' w' h2 h3 h4=>⟨w0,S0,E',sel mask T',L',.refl _ _,h2,h3.2,h4.weak (λt v hv=>KX h3.1 hv) rfl λ_ _ e=>.inr e⟩);have:=alC.1 hf.2 d hd;simpa using this
def akh(mask:List Bool)(K:Tm->List Blk->Prop)(L:List Blk)(T:Tm):Prop:=WD mask K T L
theorem ai4{mask:List Bool}{K:Tm->List Blk->Prop}{T:Tm}{L:List Blk}:akh mask K L T=WD mask K T L:=rfl
theorem aB{sops:List SOp}{kds:List Kd}{mask:List Bool}(hf:(okG none [] [] sops&&frB (gds sops) T&&decide (kds.length<=(SOp.flatL sops).length))=true)(h:GL P L sops (akh mask (Q .normal) L) T):AW P N own (.sdreg sops kds mask) Q T L:=λc hc r hr w0 S0 E a w hst=>by
 obtain⟨id,os,los,n,rfl,h1,h2,h3,h4,h5,h6,_⟩:=Ua hc;simp only[alx,decide_eq_true_eq]at hf;obtain⟨⟨f1,f2⟩,f3⟩:=hf;have hlos:los=SOp.flatL sops:=by
  have e1:((SOp.flatL sops).zip kds).map (·.1)=(SOp.flatL sops).take kds.length:=by
   have key:∀(l:List aj) (m:List Kd),(l.zip m).map (·.1)=l.take m.length:=by
    intro l;induction l with
    |nil=>intro m;simp
    |cons o l ih=>intro m;cases m<;>simp[ih]
   exact key _ _
  rw[e1]at h5;rw[<- am9 n los,<- h5,<- h6,am9]
 have hlen:los.length=os.size:=by simpa using(xX h1).1
 refine wpIn_region_any h4 ?_;have hdraw:Km os los los.length=true:=by simp only[Km,alx]at h2⊢;refine⟨h2.1,?_⟩;simp only[ab2,alC,anH,al9,decide_eq_true_eq];exact λi hi=>.inl aoJ
 have har:=aeB (P:=P) (L:=L) f1 (T:=T) (λd hd=>by have:=alC.1 f2 d hd;simpa using this) h
 refine aaI (w0:=w0) (S0:=S0) (L:=L) (T:=T) (Q:=λe a' w'=>∃w1 S1 E' T' L',Bs w0 S0 w1 S1/\E.le E'/\Q e T' L'/\St w1 S1 N E' T' L' a' w') (E0:=E) (qk:=los.map λo=>(o,.read 0 0)) (ts:=[]) h1 hdraw (by simp[al0,anX]) aoK ?_ (K:=λT1 L'=>L'=L/\∃T',akh mask (Q .normal) L T'/\∀t v,aq T' t=some v->aq T1 t=some v)
  ?_ (λE' T' L' a' w' e1 ⟨e2,T2,e3,e4⟩ e5=>?_) a _ E (.refl E) (hst.draw _)
 have hno:∀(l:List aj) (k:Nat),dA (l.map λo=>(o,Kd.read 0 0)) k=[]:=by
  intro l;induction l with
  |nil=>intro k;rfl
  |cons o l ih=>intro k;simp only[alD,dA];exact ih _
 simp only[SO,hno,amg,List.range_zero,List.all_nil,aml,alC];intro p hp;obtain⟨⟨o,kd⟩,i⟩:=p;have:kd=Kd.read 0 0:=by have:=List.fst_mem_of_mem_zipIdx hp;simp only[alt]at this;obtain⟨o',_,e⟩:=this;cases e;rfl
 subst this;rfl;rw[hlos];exact har;subst e2;exact⟨w0,S0,E',sel mask T2,_,.refl _ _,e1,e3.2,e5.weak (λt v hv=>e4 t v (KX e3.1 hv)) rfl λ_ _ e=>.inr e⟩
theorem aE{qk:List (aj×Kd)}{ts:List aj}{mask:List Bool}(h:AG P (oI P (WD mask (Q .normal)) ts) qk [L] [] T):AW P N own (.dregM qk ts mask) Q T L:=λc hc r hr w0 S0 E a w hst=>by
 have:=WJ (N:=N) (own:=own) (Q:=λe T' L'=>e=.normal/\WD mask (Q .normal) T' L') (L:=L) (T:=T) (qk:=qk) (ts:=ts) (P:=P) ?_ c hc r hr w0 S0 E a w hst;refine wpIn_mono this λe a' w' ⟨w1,S1,E',T',L',b,g1,⟨g2,g3⟩,g4⟩=>?_
 subst g2;exact⟨w1,S1,E',sel mask T',L',b,g1,g3.2,g4.weak (λt v hv=>KX g3.1 hv) rfl λ_ _ e=>.inr e⟩;have e:(λT' L'=>Exit.normal=Exit.normal/\WD mask (Q .normal) T' L')=WD mask (Q .normal):=by funext T' L';simp
 rw[e];exact h
theorem ax{ops:List aj}(h:oI P (Q .normal) ops T L):AW P N own (.region ops) Q T L:=λc hc r hr w0 S0 E a w hst=>by obtain⟨id,os,rfl,h1⟩:=Pq hc;exact wpIn_region (PO _ _ h1 hst h λE' T' L' a' w' h2 h3 h4=>⟨w0,S0,E',T',L',.refl _ _,h2,h3,h4⟩)
end
inductive aaO where
 |tmp (t:Nat)
 |cell (agg:Bool) (sz t:Nat)
 deriving Inhabited
structure aQ where
 ntmps:Nat
 code:b9
 res:List aaO
 deriving Inhabited
def aQ.raw(f:aQ):aQ:=⟨f.ntmps,f.code.raw,f.res⟩
def Pm(P:Program):List ResultVar->Option (List aaO)
 |[]=>some []
 |.tmp t::l=>(Pm P l).map (.tmp t::·)
 | .cell a t::l=>match gU P t,cR P t,Pm P l with
   |some g,some s,some m=>some (.cell g s a::m)
   |_,_,_=>none
def aZ(P:Program)(own:Nat->Nat->Nat)(f:FuncId):Option aQ :=
 match P.funcs[f]? with
 |none=>none
 | some fn=>if (fn.name == "runtime.NumGoroutine")=true then none else match fn.body with
   |none=>none
   | some c=>match br P fn.ntmps own c,Pm P fn.results.toList with
     |some lc,some rs=>some ⟨fn.ntmps,lc,rs⟩
     |_,_=>none
def Um(T:Tm)(L:List Blk):List aaO->Option (Prop×List AV)
 |[]=>some (True,[])
 | .tmp t::l=>match aq T t,Um T L l with
   |some v,some (c,m)=>some (c,v::m)
   |_,_=>none
 | .cell g sz t::l=>match (aq T t).bind (row L),Um T L l with
   |some (r,off),some (c,m)=>if g then some (off+sz<=r.length/\c,.agg ((r.drop off).take sz)::m)else some (off<r.length/\c,r.getD off .undef::m)
   |_,_=>none
def Yp:List AV->AV
 |[v]=>v
 |l=>.tup l
def am(i:Nat):List AV->Tm
 |[]=>[]
 |a::l=>(i,a)::am (i+1) l
section
variable {P:Program}{w0:World}{S0:SB}{N:Nat}{E:Env}{L:List Blk}{w:World}{T:Tm}{a:Act}
theorem P5:∀{rs:List ResultVar}{ls:List aaO}{c:Prop}{m:List AV},Pm P rs=some ls->Um T L ls=some (c,m)->c->Rel w0 S0 E L w->TR E T a ->
  ∃vs,VRL E m vs/\(rs.mapM (m:=Sem) fun
   |.tmp t=>pure (a.tmps.getD t undef)
   |.cell x t=>do loadVar t (<- asAddr (a.tmps.getD x undef))).run P w=.ok vs w
 |[],ls,c,m,hl,he,hc,hR,hT=>by simp[Pm]at hl;subst hl;simp[Um]at he;obtain⟨_,rfl⟩:=he;exact⟨[],by simp[VRL],aoK⟩
 | .tmp t::rs,ls,c,m,hl,he,hc,hR,hT=>by
   simp only[Pm,alS]at hl;obtain⟨ls',h1,rfl⟩:=hl;simp only[Um]at he;split at he<;>try cases he
   rename_i v c' m' h2 h3;obtain⟨vs,h4,h5⟩:=P5 h1 h3 hc hR hT;exact⟨_::vs,⟨_,_,rfl,hT _ _ h2,h4⟩,by simp only[anz,alz,alV,alB,h5]⟩
 | .cell x t::rs,ls,c,m,hl,he,hc,hR,hT=>by
   simp only[Pm]at hl;split at hl<;>try cases hl
   rename_i g s ls' hg hs h1;simp only[Um]at he;split at he<;>try cases he
   rename_i r off c' m' h2 h3;rcases h6:aq T x with _|u
   .simp[h6]at h2
   .simp only[h6,amE]at h2;have hv:=hT _ _ h6;obtain⟨b,o,hp,hcells⟩:=SA hR h2 hv;have hAddr:(asAddr (a.tmps.getD x undef)).run P w=.ok ⟨b,o+off,none⟩ w:=(by rw[hp];rfl);cases g
    .simp only[alG,if_false,als,alE]at he;obtain⟨rfl,rfl⟩:=he;obtain⟨vs,h4,h5⟩:=P5 h1 h3 hc.2 hR hT;obtain⟨y,h7,h8⟩:=hcells off r[off] (alH hc.1);refine⟨y::vs,⟨_,_,rfl,by rw[alR,alH hc.1];exact h8,h4⟩,?_⟩;have hload:(loadVar t ⟨b,o+off,none⟩).run P w=.ok y w:=(by simp[loadVar,xu hg,h7]);simp only[anz,alz,hAddr,alB,hload,h5,alV]
    .simp only[if_true,als,alE]at he;obtain⟨rfl,rfl⟩:=he;obtain⟨vs,h4,h5⟩:=P5 h1 h3 hc.2 hR hT;have hlen:((r.drop off).take s).length=s:=(by simp;omega);obtain⟨cs,h7,h8⟩:=T8 (P:=P) (w:=w) (b:=b) (o:=o+off) (l:=(r.drop off).take s) hg (by rw[hlen];exact hs) (λj a ha=>by have hj:j<s:=(by have:=(alq.1 ha).1;omega);rw[amx hj,amo]at ha;have:=hcells _ _ ha;rwa[<- amA]at this)
     refine⟨.agg ⟨cs⟩::vs,⟨_,_,rfl,⟨cs,rfl,h7⟩,h4⟩,?_⟩;simp only[anz,alz,hAddr,alB,h8,h5,alV]
theorem afr{m:List AV}{vs:List Value}(h:VRL E m vs):VR E (Yp m) (if h:vs.length=1 then vs[0]else .tuple ⟨vs⟩):=by
 have hl:=h.length;by_cases h1:vs.length=1;rw[dif_pos h1]
 match m,vs,h,hl,h1 with
 | [x],[y],h,_,_ =>
   simp only[VRL,List.cons.injEq]at h;obtain⟨_,_,⟨rfl,rfl⟩,h2,_⟩:=h;exact h2
 rw[dif_neg h1];have:Yp m=.tup m:=by
  match m,hl with
  |[],_=>rfl
  |[x],hl=>simp at hl;exact absurd hl h1
  |_::_::_,_=>rfl
 rw[this];exact⟨vs,rfl,h⟩
theorem Vy:∀{args:List AV}{i t:Nat}{v:AV},aq (am i args) t=some v->i<=t/\args[t-i]?=some v
 |[],i,t,v,h=>by simp[am,aq]at h
 | x::args,i,t,v,h=>by
   simp only[am,aq]at h;split at h
   .rename_i e;subst e;simp at h;subst h;simp
   .rename_i e;have:=Vy h;refine⟨aoJ,?_⟩;rw[show t-i=(t-(i+1))+1 by omega];simpa using this.2
def Fin(L0:List Blk)(r:AV)(L:List Blk)(Q:AV->List Blk->Prop):Prop :=
 ∀(w0:World) (S0:SB) (E0 E:Env) (w:World) (v:Value),E0.le E->(∀i,L0.length<=i->E0.loc i=none/\E0.tok i=none)->(∀k∈L0,k.refs (λi=>decide (i<L0.length))=true) ->
  Rel w0 S0 E L w->VR E r v->∃E' av L',E0.le E'/\Q av L'/\VR E' av v/\Rel w0 S0 E' L' w
mutual
theorem VR.refs{n:Nat}(hn:∀i,n<=i->E.loc i=none)(ht:∀i,n<=i->E.tok i=none):∀(a:AV) (v:Value),VR E a v->a.refs (λi=>decide (i<n))=true
 |.undef,_,_=>rfl
 |.bool _,_,_=>rfl
 |.anyb,_,_=>rfl
 |.int _ _,_,_=>rfl
 |.str _,_,_=>rfl
 |.nilptr,_,_=>rfl
 |.gptr _ _,_,_=>rfl
 | .ptr i off,v,r=>by
   simp only[VR]at r;obtain⟨c,h,_⟩:=r;simp only[AV.refs,decide_eq_true_eq];rcases alK i n with h1|h1
   .exact h1
   .rw[hn i h1]at h;cases h
 |.iptr l off,v,r=>by simp only[VR]at r;obtain⟨b,o,_,h⟩:=r;exact VRC.refs hn ht l b o h
 |.nilsl,_,_=>rfl
 | .sl l m cap,v,r=>by
   simp only[VR]at r;obtain⟨p,c,_,_,_,h⟩:=r;rcases h with⟨_,_,_,rfl⟩|⟨b,o,_,h⟩
   .rfl
   .exact VRC.refs hn ht l b o h
 | .gsl l m i sz,v,r=>by
   simp only[VR]at r;obtain⟨p,c,_,_,_,h,t,h2,_⟩:=r;simp only[AV.refs,decide_eq_true_eq,alx];refine⟨?_,?_⟩
   .rcases alK i n with h1|h1
    .exact h1
    .rw[ht i h1]at h2;cases h2
   .rcases h with⟨_,_,_,rfl⟩|⟨b,o,_,h⟩
    .rfl
    .exact VRC.refs hn ht l b o h
 | .lsl i off len cap sz,v,r=>by
   simp only[VR]at r;obtain⟨c,rc,d,h,_⟩:=r;simp only[AV.refs,decide_eq_true_eq];rcases alK i n with h1|h1
   .exact h1
   .rw[hn i h1]at h;cases h
 |.nilmap,_,_=>rfl
 | .lmap i,v,r=>by
   simp only[VR]at r;obtain⟨c,h,_⟩:=r;simp only[AV.refs,decide_eq_true_eq];rcases alK i n with h1|h1
   .exact h1
   .rw[hn i h1]at h;cases h
 | .yld i,v,r=>by
   simp only[VR]at r;obtain⟨c,h,_⟩:=r;simp only[AV.refs,decide_eq_true_eq];rcases alK i n with h1|h1
   .exact h1
   .rw[hn i h1]at h;cases h
 |.func f caps,v,r=>by simp only[VR]at r;obtain⟨vs,_,h⟩:=r;exact VRL.refs hn ht caps vs h
 |.nilfunc,_,_=>rfl
 |.nilif,_,_=>rfl
 |.iface t x,v,r=>by simp only[VR]at r;obtain⟨y,_,h⟩:=r;exact VR.refs hn ht x y h
 |.agg l,v,r=>by simp only[VR]at r;obtain⟨vs,_,h⟩:=r;exact VRL.refs hn ht l vs h
 |.tup l,v,r=>by simp only[VR]at r;obtain⟨vs,_,h⟩:=r;exact VRL.refs hn ht l vs h
theorem VRL.refs{n:Nat}(hn:∀i,n<=i->E.loc i=none)(ht:∀i,n<=i->E.tok i=none):∀(l:List AV) (vs:List Value),VRL E l vs->AV.refsL (λi=>decide (i<n)) l=true
 |[],_,_=>rfl
 |a::l,vs,r=>by simp only[VRL]at r;obtain⟨x,xs,_,h1,h2⟩:=r;simp only[AV.refsL,alx];exact⟨VR.refs hn ht a x h1,VRL.refs hn ht l xs h2⟩
theorem VRC.refs{n:Nat}(hn:∀i,n<=i->E.loc i=none)(ht:∀i,n<=i->E.tok i=none):∀(l:List AV) (b o:Nat),VRC E l b o->AV.refsL (λi=>decide (i<n)) l=true
 |[],_,_,_=>rfl
 |a::l,b,o,r=>by simp only[VRC]at r;obtain⟨⟨x,_,h1⟩,h2⟩:=r;simp only[AV.refsL,alx];exact⟨VR.refs hn ht a x h1,VRC.refs hn ht l b (o+1) h2⟩
end
theorem ay.refs{n:Nat}(hn:∀i,n<=i->E.loc i=none)(ht:∀i,n<=i->E.tok i=none):∀{l:List (AV×AV×Nat)}{es:List MapEntry},ay E l es->(l.all λe=>e.1.refs (λi=>decide (i<n))&&e.2.1.refs (λi=>decide (i<n)))=true
 |[],_,_=>rfl
 |(k,x,b)::l,es,r=>by simp only[ay]at r;obtain⟨e,t,_,h1,h2,_,h3⟩:=r;simp only[am6,alx];exact⟨⟨VR.refs hn ht _ _ h1,VR.refs hn ht _ _ h2⟩,ay.refs hn ht h3⟩
theorem Rel.refs(h:Rel w0 S0 E L w):∀k∈L,k.refs (λi=>decide (i<L.length))=true:=λk hk=>by
 obtain⟨i,hi⟩:=ang.1 hk;have hb:=h.blk i k hi;cases k<;>simp only[bB]at hb;rfl;obtain⟨c,cs,ty,fr,_,_,_,_,h5,_⟩:=hb;refine AV.refsL_iff.2 λa ha=>?_
 obtain⟨j,hj⟩:=ang.1 ha;obtain⟨v,_,hv⟩:=h5 j a hj;exact VR.refs h.fresh h.tkfresh _ _ hv;obtain⟨c,rs,_,_,h3⟩:=hb;exact ay.refs h.fresh h.tkfresh h3;rename_i m _ _ _;obtain⟨c,q,_,_,_,h4⟩:=hb;cases m with
 |none=>rfl
 | some j =>
   obtain⟨d,g1,_⟩:=h4;simp only[Blk.refs,decide_eq_true_eq];rcases alK j L.length with h5|h5
   .exact h5
   .rw[h.fresh j h5]at g1;cases g1
 rfl;obtain⟨c,cs,ty,fr,_,_,_,_,h5,_⟩:=hb;refine AV.refsL_iff.2 λa ha=>?_
 obtain⟨j,hj⟩:=ang.1 ha;obtain⟨v,_,hv⟩:=h5 j a hj;exact VR.refs h.fresh h.tkfresh _ _ hv;rfl;obtain⟨c,D,tm,_,_,_,_,h5⟩:=hb;simp only[Blk.refs,alC];rintro⟨t,u⟩ _;rcases hl:aq _ t with _|v;rfl;simpa using VR.refs h.fresh h.tkfresh _ _ (h5 t v hl)
def aja(res:List aaO)(L0:List Blk)(Q:AV->List Blk->Prop)(e:Exit)(T:Tm)(L':List Blk):Prop :=
 (e=.normal\/e=.ret)/\∃c rs,Um T L' res=some (c,rs)/\c/\Fin L0 (Yp rs) L' Q
theorem Rel.shut{w0 w:World}{S0:SB}{E:Env}{L:List Blk}(h:Rel w0 S0 E L w){D:Nat}(hD:w0.heap.size<=D)(hno:¬Y9 E L D)(ho:w.heap[D]?=some (.deferred (some []))):Rel w0 S0 E L (w.putObj D (.deferred none)):=by
 have same:∀k,k≠D->(w.putObj D (.deferred none)).heap[k]?=w.heap[k]?:=λk hk=>World.putObj_heap_other hk
 refine⟨λb o v hv=>?_,λi k hk=>?_,h.fresh,h.own,h.inj,h.tkfresh,h.tkown,h.tkloc,h.tkinj,λk hk hs=>?_,by simpa using h.size,h.os,h.tape,h.output,h.glob,λp hp hne=>?_⟩;have hv':=h.mem b o v hv;have hb:b≠D:=λe=>by subst e;simp[World.cell?,ho]at hv'
 have:=same b hb;simp only[World.cell?]at hv'⊢;rw[this];exact hv';cases hl:k.live;refine bB.still hl rfl (λt c n sz e ht hc=>?_) (h.blk i k hk);exact same _ λe2=>hno (.inr ⟨i,n,sz,t,c,e▸hk,ht,hc,e2⟩)
 refine bB.worldL hl (λc hc=>?_) (h.blk i k hk);exact same _ λe2=>hno (.inl ⟨i,k,c,hk,hl,hc,e2⟩)
 rw[same k aoJ];exact h.frame k hk hs;obtain⟨cs,ty,fr,h1,h2⟩:=h.gsz p hp hne;refine⟨cs,ty,fr,?_,h2⟩;rw[same _ (λe=>by rw[e,ho]at h1;cases h1)];exact h1
theorem Xc{fn:Func}{tmps:Array Value}{R:Ending->World->Prop}{wE:World}{SE:SB}{E:Env}{L:List Blk}(hR:∀w,Rel wE SE E L w->∃v,(results fn tmps).run P w=.ok v w/\R (.returned v) w):
  ∀(ds:List Deferred) (w:World),Rel wE SE E L w->ds.Nodup->(∀d∈ds,∃D,d=mkD D/\wE.heap.size<=D/\¬Y9 E L D/\w.heap[D]?=some (.deferred (some [])))->LeavesInM (fw none) 0 P fn tmps R ds .returning w
 |[],w,h,_,_=>hR w h
 |d::ds,w,h,hn,hd=>by obtain⟨D,rfl,h1,h2,h3⟩:=hd _ anq;obtain⟨n1,n2⟩:=amm.1 hn;refine⟨λe=>(by cases e),.inl ⟨D,_,rfl,run_takeDeferred h3,Xc hR ds _ (h.shut h1 h2 h3) n2 λd hd'=>?_⟩⟩;obtain⟨D',rfl,k1,k2,k3⟩:=hd d (amB _ hd');refine⟨D',rfl,k1,k2,?_⟩;rw[World.putObj_heap_other λe=>n1 (by subst e;exact hd')];exact k3
theorem ac{own:Nat->Nat->Nat}{f:FuncId}{lf:aQ}(h:aZ P own f=some lf.raw){args:List AV}{L:List Blk}{Q:AV->List Blk->Prop}(hlen:args.length<=lf.ntmps)(hb:AW P lf.ntmps own lf.code (aja lf.res L Q) (am 0 args) L):ae P f args L Q:=by
 intro w0 S0 E w vs hR hv;obtain⟨nt,code,rs0⟩:=lf;simp only[aQ.raw]at h hlen hb;unfold aZ at h;split at h;cases h;rename_i fn hfn;split at h;cases h;rename_i hname;split at h;cases h;rename_i c hc;split at h<;>try cases h
 rename_i lc rs hlc hrs;refine .inl ⟨?_,?_⟩;have:(fn.name == "runtime.NumGoroutine")=false:=by simpa using hname
 simp only[callFunc,alz,run_program,alB,hfn,this,hc,Option.isNone_some,alG,if_false,alV];refine(callsIn_wide (n:=0)).1 (callsIn_of_wp_marks (F:=fw none) hfn hc trivial ?_);have hvl:=hv.length;have hst:St w ⟨Y9 E L,w.heap.size⟩ fn.ntmps E (am 0 args) L {tmps:=(⟨vs⟩:Array Value)++Array.replicate (fn.ntmps-vs.length) undef,defers:=[]} w:=by refine⟨hR.enter _,λt x hx=>?_,by simp;omega,ab8.nil (alr _)⟩;obtain⟨_,h1⟩:=Vy hx;simp only[Nat.sub_zero]at h1;obtain⟨y,h2,h3⟩:=hv.get h1;have hlt:t<vs.length:=(alq.1 h2).1;rw[amp,aoc (by simpa using hlt)];simpa[h2]using h3
 refine wpIn_mono (hb c hlc none (λ_=>rfl) w _ E _ w hst) λe a' w' ⟨w1,S1,E',T',L',b,g1,⟨g2,c',rs',g3,g4,g5⟩,g6⟩=>?_
 have key:LeavesInM (fw none) 0 P fn a'.tmps (λe w'=>∃E' v av L',e=.returned v/\E.le E'/\Q av L'/\VR E' av v/\Rel w0 S0 E' L' w') a'.defers .returning w':=by
  refine Xc (wE:=w) (SE:=⟨Y9 E L,w.heap.size⟩) (E:=E') (L:=L') (λw2 hR2=>?_) _ _ (b.rel g6.1) g6.2.2.2.2.1 λd hd=>?_
  obtain⟨us,k1,k2⟩:=P5 hrs g3 g4 hR2 g6.2.1;obtain⟨E'',av,L'',k3,k4,k5,k6⟩:=g5 w0 S0 E E' w2 _ g1 (λi hi=>⟨hR.fresh i hi,hR.tkfresh i hi⟩) hR.refs (hR.back hR2) (afr k1);have hres:(results fn a'.tmps).run P w2=.ok (if h:us.length=1 then us[0]else .tuple ⟨us⟩) w2:=by unfold results;rw[Array.mapM_eq_mapM_toList];simp only[alz,Sem.run_map];refine(congrArg (λr=>(Result.andThen r λx w=>Result.ok x.toArray w).andThen _) k2).trans ?_;simp
  exact⟨_,hres,E'',_,av,L'',rfl,k3,k4,k5,k6⟩;obtain⟨D,h1,h0,h2,h3,h4⟩:=g6.2.2.2.2.2 d hd;refine⟨D,h1,by rw[b.low]at h0;exact h0,λho=>?_,?_⟩;rcases g6.1.ownSub D ho with h5|h5;exact h3 h5;omega;rw[g6.1.frame D h2 h3];exact h4
 rcases g2 with rfl|rfl<;>exact key
theorem aa{L0 L:List Blk}{r:AV}{Q:AV->List Blk->Prop}(h:Q r L):Fin L0 r L Q:=λw0 S0 E0 E w v h0 _ _ hR hv=>⟨E,r,L,h0,h,hv,hR⟩
theorem aa5{E0 E:Env}{n m:Nat}(h0:E0.le E)(hn:∀i,n<=i->E0.loc i=none/\E0.tok i=none)(hm:n<=m)(g:Nat->Nat)(hg:∀i,i<n->g i=i):E0.le (E.res m g):=by
 have lt:∀i,(E0.loc i≠none\/E0.tok i≠none)->i<n:=λi hi=>by rcases alK i n with h1|h1;exact h1;have:=hn i h1;simp[this.1,this.2]at hi
 refine⟨λb o x hx=>h0.mem b o x hx,λi c hc=>?_,λi t ht=>?_⟩;have hi:=lt i (.inl (by simp[hc]));rw[Env.res_loc aoJ,hg i hi];exact h0.loc i c hc;have hi:=lt i (.inr (by simp[ht]));rw[Env.res_tok aoJ,hg i hi];exact h0.tok i t ht
theorem mE{L0 L1 L2:List Blk}{r:AV}{Q:AV->List Blk->Prop}(hl:L1.length=L0.length)(hk:(∀k∈L0,k.refs (λi=>decide (i<L0.length))=true)->∀k∈L1,k.refs (λi=>decide (i<L0.length))=true)(hr:r.refs (λi=>decide (i<L0.length))=true)(h:Q r L1):Fin L0 r (L1++L2) Q:=λw0 S0 E0 E w v h0 hn hw hR hv=>by
 have hcut:=hR.cut (by rw[hl];exact hk hw);refine⟨E.res L1.length id,r,L1,aa5 h0 hn aoJ id (λ_ _=>rfl),h,VR.cut (E:=E) (E':=E.res L1.length id) (p:=λi=>decide (i<L0.length)) (λ_ _ _ x=>x) (λi c hi hc=>?_) (λi t hi ht=>?_) r v hr hv,hcut⟩
 .rw [Env.res_loc (by have : i < L0.length := by simpa using hi
                      omega)];exact hc
 .rw [Env.res_tok (by have : i < L0.length := by simpa using hi
                      omega)];exact ht
theorem bu{L0 L:List Blk}{r:AV}{Q:AV->List Blk->Prop}(h:Fin L0 r.frz L Q):Fin L0 r L Q:=λw0 S0 E0 E w v h0 hn hw hR hv =>
 h w0 S0 E0 E w v h0 hn hw hR (VR.frz _ _ hv)
theorem ahz{res:List aaO}{L0 L':List Blk}{T:Tm}{Q:AV->List Blk->Prop}{c:Prop}{rs:List AV}(h:Um T L' res=some (c,rs))(hc:c)(hf:Fin L0 (Yp rs) L' Q):aja res L0 Q .ret T L':=⟨.inr rfl,c,rs,h,hc,hf⟩
theorem eE{res:List aaO}{L0 L':List Blk}{T:Tm}{Q:AV->List Blk->Prop}{c:Prop}{rs:List AV}(h:Um T L' res=some (c,rs))(hc:c)(hf:Fin L0 (Yp rs) L' Q):aja res L0 Q .normal T L':=⟨.inl rfl,c,rs,h,hc,hf⟩
theorem ab{L0 L2:List Blk}{r:AV}{Q:AV->List Blk->Prop}(hr:r.refs (λi=>decide (i<L0.length))=true)(h:Q r L0):Fin L0 r (L0++L2) Q :=
 mE rfl (λh=>h) hr h
mutual
def AV.snap(i:Nat)(l:List AV):AV->AV
 |.lsl j off n cap s=>if j=i then .sl ((l.drop off).take (n*s)) n cap else .lsl j off n cap s
 |.agg xs=>.agg (AV.snapL i l xs)
 |.tup xs=>.tup (AV.snapL i l xs)
 |a=>a
def AV.snapL(i:Nat)(l:List AV):List AV->List AV
 |[]=>[]
 |a::xs=>AV.snap i l a::AV.snapL i l xs
end
mutual
theorem VR.snap{i:Nat}{l:List AV}{c:Loc}(hc:E.loc i=some c)(hl:VRC E l c.blk c.off):∀(a:AV) (v:Value),VR E a v->VR E (a.snap i l) v
 | .lsl j off n cap s,v,r=>by
   simp only[AV.snap];split
   .rename_i e;subst e;simp only[VR]at r⊢;obtain⟨c',rc,d,h1,rfl,h2,h3,h4,h5⟩:=r;rw[hc]at h1;cases h1;refine⟨_,rc,rfl,h3,h4,.inr ⟨c.blk,d,rfl,?_⟩⟩;rcases amN n with hn|hn
    .subst hn;simp[VRC]
    .rw[h2 aoJ];exact(hl.drop off).take _
   .exact r
 |.agg xs,v,r=>by simp only[AV.snap,VR]at r⊢;obtain⟨vs,h1,h2⟩:=r;exact⟨vs,h1,VRL.snap hc hl xs vs h2⟩
 |.tup xs,v,r=>by simp only[AV.snap,VR]at r⊢;obtain⟨vs,h1,h2⟩:=r;exact⟨vs,h1,VRL.snap hc hl xs vs h2⟩
 |.undef,_,r=>r
 |.bool _,_,r=>r
 |.anyb,_,r=>r
 |.int _ _,_,r=>r
 |.str _,_,r=>r
 |.nilptr,_,r=>r
 |.gptr _ _,_,r=>r
 |.ptr _ _,_,r=>r
 |.iptr _ _,_,r=>r
 |.nilsl,_,r=>r
 |.sl _ _ _,_,r=>r
 |.gsl _ _ _ _,_,r=>r
 |.nilmap,_,r=>r
 |.lmap _,_,r=>r
 |.yld _,_,r=>r
 |.func _ _,_,r=>r
 |.nilfunc,_,r=>r
 |.nilif,_,r=>r
 |.iface _ _,_,r=>r
theorem VRL.snap{i:Nat}{l:List AV}{c:Loc}(hc:E.loc i=some c)(hl:VRC E l c.blk c.off):∀(xs:List AV) (vs:List Value),VRL E xs vs->VRL E (AV.snapL i l xs) vs
 |[],_,r=>r
 |a::xs,vs,r=>by simp only[AV.snapL,VRL]at r⊢;obtain⟨x,ys,h1,h2,h3⟩:=r;exact⟨x,ys,h1,VR.snap hc hl a x h2,VRL.snap hc hl xs ys h3⟩
end
theorem KN{L0 L:List Blk}{r:AV}{Q:AV->List Blk->Prop}{i:Nat}{l:List AV}(hi:L[i]?=some (.cells l))(h:Fin L0 (r.snap i l) (L.set i .dead) Q):Fin L0 r L Q:=λw0 S0 E0 E w v h0 hn hw hR hv=>by obtain⟨c,cs,ty,fr,h1,_⟩:=hR.blk i _ hi;obtain⟨E',g1,g2,g3,g4⟩:=hR.snap hi h1;exact h w0 S0 E0 E' w v (h0.trans g1) hn hw g2 (VR.snap (by rw[g4];exact h1) g3 _ _ (VR.mono g1 _ _ hv))
theorem UU{L0 L2:List Blk}{r:AV}{Q:AV->List Blk->Prop}(k:Nat)(b:Blk)(hlv:b.live=true)(hk:L0.length<=k)(hL:(L0++L2)[k]?=some b)(hr:r.refs (λi=>decide (i<L0.length) ||decide (i=k))=true)(hb:b.refs (λi=>decide (i<L0.length))=true)(h:Q (r.ren λi=>if i=k then L0.length else i) (L0++[b])):Fin L0 r (L0++L2) Q:=λw0 S0 E0 E w v h0 hn hw hR hv=>by
 have lenL:(L0++[b]).length=L0.length+1:=aoK;have hg:∀i,i<L0.length->(λi=>if i<L0.length then i else k) i=i:=λi hi=>if_pos hi
 have hloc:∀i c,(decide (i<L0.length) ||decide (i=k))=true->E.loc i=some c->(E.res (L0++[b]).length (λi=>if i<L0.length then i else k)).loc (if i=k then L0.length else i)=some c:=by intro i c hi hc;by_cases e:i=k;subst e;rw[if_pos rfl,Env.res_loc aoJ,if_neg aoJ];exact hc;simp only[e,decide_false,anI,decide_eq_true_eq]at hi;rw[if_neg e,Env.res_loc aoJ,if_pos hi];exact hc
 have htok:∀i c,(decide (i<L0.length) ||decide (i=k))=true->E.tok i=some c->(E.res (L0++[b]).length (λi=>if i<L0.length then i else k)).tok (if i=k then L0.length else i)=some c:=by intro i c hi hc;by_cases e:i=k;subst e;rw[if_pos rfl,Env.res_tok aoJ,if_neg aoJ];exact hc;simp only[e,decide_false,anI,decide_eq_true_eq]at hi;rw[if_neg e,Env.res_tok aoJ,if_pos hi];exact hc
 have low:∀(i:Nat) (c:Blk),(L0++[b])[i]?=some c->(i<L0.length/\L0[i]?=some c)\/(i=L0.length/\c=b):=λi c hc=>by
  rw[amD]at hc;split at hc;rename_i hi;exact .inl ⟨hi,hc⟩;have hi':i=L0.length:=by rcases alK (i-L0.length) 1 with h1|h1;omega;rw[amI (by simpa using h1)]at hc;cases hc
  subst hi';simp at hc;exact .inr ⟨rfl,hc.symm⟩
 have hren:=hR.renum (L':=L0++[b]) (λi=>if i<L0.length then i else k) (λi j hi hj e=>by
  rw[lenL]at hi hj;split at e<;>split at e<;>omega) (λi n sz hi=>by
  rcases low i _ hi with⟨h1,h2⟩|⟨h1,h2⟩;rw[if_pos h1,aly h1];exact h2;subst h2;simp[Blk.live]at hlv) (λi c hc hlive=>by
  rcases low i _ hc with⟨h1,h2⟩|⟨h1,h2⟩;have h3:(L0++L2)[i]?=some c:=(by rw[aly h1];exact h2);refine⟨c,by rw[if_pos h1];exact h3,hlive,?_⟩;refine bB.cut (E:=E) (E':=E.res (L0++[b]).length (λi=>if i<L0.length then i else k)) (p:=λi=>decide (i<L0.length)) (λ_ _ _ x=>x) (λj c hj hc=>?_) (λj c hj hc=>?_) (λc hc=>?_) hlive (hw c (al8 h2)) (hR.blk i c h3);have hj:j<L0.length:=(by simpa using hj);rw[Env.res_loc aoJ,if_pos hj];exact hc;have hj:j<L0.length:=(by simpa using hj);rw[Env.res_tok aoJ,if_pos hj];exact hc;rw[Env.res_loc aoJ,if_pos h1];exact hc;subst h1;subst h2;refine⟨c,by simpa using hL,hlive,?_⟩;have hB:=hR.blk k _ hL;have hlk:∀d,E.loc k=some d->(E.res (L0++[c]).length (λi=>if i<L0.length then i else k)).loc L0.length=some d:=λd hd=>by have:=hloc k d aoK hd;rwa[if_pos rfl]at this
  have cutv:∀x v,x.refs (λi=>decide (i<L0.length))=true->VR E x v->VR (E.res (L0++[c]).length (λi=>if i<L0.length then i else k)) x v:=λx v hx hv=>by refine VR.cut (E:=E) (E':=E.res (L0++[c]).length (λi=>if i<L0.length then i else k)) (p:=λi=>decide (i<L0.length)) (λ_ _ _ x=>x) (λj d hj hd=>?_) (λj d hj hd=>?_) x v hx hv;have hj:j<L0.length:=(by simpa using hj);rw[Env.res_loc aoJ,if_pos hj];exact hd;have hj:j<L0.length:=(by simpa using hj);rw[Env.res_tok aoJ,if_pos hj];exact hd
  cases c<;>simp only[Blk.live,alG]at hlive<;>simp only[bB,Blk.refs]at hB hb⊢;obtain⟨d,cs,ty,fr,g1,g2,g3,g4,g5,g6⟩:=hB;exact⟨d,cs,ty,fr,hlk d g1,g2,g3,g4,λj a ha=>let ⟨x,q1,q2⟩:=g5 j a ha;⟨x,q1,cutv a x (AV.refsL_iff.1 hb a (al8 ha)) q2⟩,g6⟩;obtain⟨d,rs,g1,g2,g3⟩:=hB;refine⟨d,rs,hlk d g1,g2,?_⟩;refine ay.cut (E:=E) (E':=E.res (L0++[_]).length (λi=>if i<L0.length then i else k)) (p:=λi=>decide (i<L0.length)) (λ_ _ _ x=>x) (λj d hj hd=>?_) (λj d hj hd=>?_) hb g3;have hj:j<L0.length:=(by simpa using hj);rw[Env.res_loc aoJ,if_pos hj];exact hd;have hj:j<L0.length:=(by simpa using hj);rw[Env.res_tok aoJ,if_pos hj];exact hd;rename_i m _ _ _;obtain⟨d,q,g1,g2,g3,g4⟩:=hB;refine⟨d,q,hlk d g1,g2,g3,?_⟩;cases m with
  |none=>exact g4
  | some j =>
    obtain⟨d',q1,q2⟩:=g4;have hj:j<L0.length:=(by simpa[Blk.refs]using hb);exact⟨d',by rw[Env.res_loc aoJ,if_pos hj];exact q1,q2⟩
  obtain⟨d,g1,g2⟩:=hB;exact⟨d,hlk d g1,g2⟩;obtain⟨d,cs,ty,fr,g1,g2,g3,g4,g5,g6⟩:=hB;exact⟨d,cs,ty,fr,hlk d g1,g2,g3,g4,λj a ha=>let ⟨x,q1,q2⟩:=g5 j a ha;⟨x,q1,cutv a x (AV.refsL_iff.1 hb a (al8 ha)) q2⟩,g6⟩;obtain⟨d,D,tm,g1,g2,g3,g4,g5⟩:=hB;simp only[alC]at hb;exact⟨d,D,tm,hlk d g1,g2,g3,g4,λt x hx=>cutv x _ (by simpa[hx]using hb (t,x) (J8 hx)) (g5 t x hx)⟩)
 exact⟨E.res (L0++[b]).length (λi=>if i<L0.length then i else k),_,_,aa5 h0 hn aoJ _ hg,h,VR.ren (E:=E) (E':=E.res (L0++[b]).length (λi=>if i<L0.length then i else k)) (p:=λi=>decide (i<L0.length) ||decide (i=k)) (λ_ _ _ x=>x) hloc htok r v hr hv,hren⟩
end
theorem rn(L:List α)(x:α)(l:List α):(L++x::l)[L.length]?=some x:=aoK
theorem oM(L l:List α)(k:Nat):(L++l)[L.length+k]?=l[k]?:=by rw[alT aoJ];congr 1;omega
theorem xN(L:List α)(x y:α)(l:List α):(L++x::l).set L.length y=L++y::l:=by rw[amd _ _ aoJ];simp
theorem ah6(L l:List α)(k:Nat)(y:α):(L++l).set (L.length+k) y=L++l.set k y:=by rw[amd _ _ aoJ];congr 2;omega
theorem ai2(L l m:List α):(L++l)++m=L++(l++m):=alI _ _ _
theorem ad(h0 : -9223372036854775808<=n)(h1:n<9223372036854775808):IntKind.i64.wrap n=n:=by simp only[IntKind.wrap,IntKind.bits,IntKind.signed];simp;omega
theorem alm(j:Nat)(h:j<9223372036854775807):IntKind.i64.wrap ((j:Int)+1)=(j:Int)+1:=ad aoJ aoJ
theorem cV(h0:0<=n)(h1:n<256):IntKind.u8.wrap n=n:=by simp only[IntKind.wrap,IntKind.bits,IntKind.signed];simp;omega
theorem xJ(h0:0<=n)(h1:n<18446744073709551616):IntKind.u64.wrap n=n:=by simp only[IntKind.wrap,IntKind.bits,IntKind.signed];simp;omega
theorem aF{N:Nat}{own:Nat->Nat->Nat}{Q:Exit->Tm->List Blk->Prop}{y z:b9}(hx:evX T x=some (.bool true))(h:AW P N own y Q T L):AW P N own (.cond x y z) Q T L :=
 aL hx (λ_=>h) (λe=>by cases e)
theorem aG{N:Nat}{own:Nat->Nat->Nat}{Q:Exit->Tm->List Blk->Prop}{y z:b9}(hx:evX T x=some (.bool false))(h:AW P N own z Q T L):AW P N own (.cond x y z) Q T L :=
 aL hx (λe=>by cases e) (λ_=>h)
def ak0(v:AV)(xs:List Int):Prop:=(v=.nilsl/\xs=[])\/∃cap,v=.sl (xs.map (AV.int .i64)) xs.length cap
theorem iY{p:Nat->Bool}(xs:List Int):AV.refsL p (xs.map (AV.int .i64))=true:=AV.refsL_iff.2 λa ha=>by obtain⟨x,_,rfl⟩:=alt.1 ha;rfl
theorem ak0.refs{p:Nat->Bool}{xs:List Int}(h:ak0 v xs):v.refs p=true:=by rcases h with⟨rfl,_⟩|⟨cap,rfl⟩;rfl;exact iY xs
theorem XT{xs:List Int}{k:Nat}(h:k<xs.length):(xs.map (AV.int .i64)).getD k .undef=.int .i64 xs[k]:=by simp[h]
theorem au[Decidable p]{A B:Prop}(h1:p->A)(h2:¬p->B):if p then A else B:=by by_cases h:p;rw[if_pos h];exact h1 h;rw[if_neg h];exact h2 h
theorem an[Decidable p]{A B:Prop}(h1:p->B)(h2:¬p->A):if ¬p then A else B:=by by_cases h:p;rw[if_neg (λe=>e h)];exact h1 h;rw[if_pos h];exact h2 h
def ajq(L0 L':List Blk)(Q:AV->List Blk->Prop):Option (Prop×List AV)->Prop
 |some (c,rs)=>c/\Fin L0 (Yp rs) L' Q
 |none=>False
theorem aca{L0:List Blk}{Q:AV->List Blk->Prop}{c:Prop}{rs:List AV}:ajq L0 L' Q (some (c,rs))=(c/\Fin L0 (Yp rs) L' Q):=rfl
theorem aw{res:List aaO}{L0:List Blk}{Q:AV->List Blk->Prop}(h:ajq L0 L' Q (Um T L' res)):aja res L0 Q .ret T L':=by rcases hr:Um T L' res with _|⟨c,rs⟩;rw[hr]at h;exact h.elim;rw[hr]at h;exact ahz hr h.1 h.2
def Hid(p:Prop):Prop:=p
theorem hid{p:Prop}(h:p):Hid p:=h
theorem Hid.o(h:Hid p):p:=h
theorem Kto{K:AV->List Blk->Prop}{a b:AV}(h:K a L)(e:a=b):K b L:=e▸h
def W3(T' T:Tm):Prop:=∀p∈T',∃v,aq T p.1=some v/\(p.2=v\/p.2=v.frz)
theorem TR.sub{E:Env}{a:Act}(r:TR E T a)(h:W3 T' T):TR E T' a:=λt v hv=>by obtain⟨u,h1,h2⟩:=h _ (J8 hv);have:=r t u h1;rcases h2 with h2|h2;simp only at h2;subst h2;exact this;simp only at h2;subst h2;exact VR.frz _ _ this
theorem aaM :W3 [] T:=λp h=>by cases h
theorem Lf{u:AV}(h:aq T t=some u)(e:v=u)(h':W3 T' T):W3 ((t,v)::T') T:=λp hp=>by rcases alu.1 hp with rfl|hp;exact⟨u,h,.inl e⟩;exact h' p hp
theorem WC{u:AV}(h:aq T t=some u)(e:v=u.frz)(h':W3 T' T):W3 ((t,v)::T') T:=λp hp=>by rcases alu.1 hp with rfl|hp;exact⟨u,h,.inr e⟩;exact h' p hp
def Cut(B:Nat)(T':Tm)(L':List Blk)(T:Tm)(L:List Blk):Prop :=
 W3 T' T/\∃X,L=L'++X/\B<=L'.length/\(X=[]\/((∀p∈T',p.2.refs (λi=>decide (i<L'.length))=true)/\∀k∈L',k.refs (λi=>decide (i<L'.length))=true))
theorem aaR(h:W3 T' T)(hB:B<=L.length):Cut B T' L T L:=⟨h,[],aoK,hB,.inl rfl⟩
theorem CutS{B:Nat}{T' T:Tm}{L:List Blk}(a:W3 T' T:=by repeat' first|exact aaM|refine Lf rfl rfl ?_|refine WC rfl rfl ?_)(b:B<=L.length):Cut B T' L T L:=aaR a b
theorem CutL{B:Nat}{T' T:Tm}{L:List Blk}(a:W3 T' T:=by repeat' first|exact aaM|refine Lf rfl rfl ?_|refine WC rfl rfl ?_|refine Lf rfl (congrArg (AV.int _) aoJ) ?_|refine Lf rfl (by first|(simp_all;done)|(simp_all;omega)|(simp_all;intros;omega)) ?_)(b:B<=L.length):Cut B T' L T L:=aaR a b
abbrev alo:=@ae Tryz.prog
abbrev alp:=AV->List Blk->Prop
abbrev Ctr(P:Program)(f:FuncId)(A:List AV)(v:AV):Prop:=∀{L:List Blk}{K:AV->List Blk->Prop},K v L->ae P f A L K
theorem aoQ{P:Program}{f:FuncId}{A:List AV}{v:AV}(h:Ctr P f A v):Hid (Ctr P f A v):=hid h
abbrev o0(x:LOp):SOp:=.op ⟨none,x,none⟩
abbrev o1(n:Nat)(x:LOp):SOp:=.op ⟨some n,x,none⟩
abbrev og(n t:Nat)(b:Bool)(x:LOp):SOp:=.op ⟨some n,x,some (t,b)⟩
abbrev od(n:Nat)(x:LOp)(k:Kd):aj×Kd:=(⟨some n,x,none⟩,k)
abbrev tm(t:Nat):Opd:=.tmp t
abbrev iv(n:Int):Opd:=.av (.int .i64 n)
attribute [push_cast] o0 o1 og od tm iv
abbrev aoC(x:List SOp)(m:List Bool)(r:b9):b9:=.seq (.sreg x m) r
abbrev aoD(t:Nat)(a b:b9):b9:=.cond (.tmp t) a b
abbrev aoE(t:Nat)(a:b9):b9:=.cond (.tmp t) (.seq a .ret) .skip
abbrev aoF(n:Nat)(a:b9):b9:=.block n (.loop a)
abbrev aoG(t n:Nat):b9:=.cond (.tmp t) .skip (.exit n)
attribute [push_cast] aoC aoD aoE aoF aoG
noncomputable abbrev aoH(n:Nat):=aZ Tryz.prog (λ_ _=>1) n
abbrev aoI(c:aQ):=some c.raw
abbrev Aa(a b:Nat):SOp:=.op ⟨some a,(.mv (.tmp b)),none⟩
abbrev Ab(a:Nat)(b:Int):SOp:=.op ⟨some a,(.mv (.av (.int .i64 b))),none⟩
abbrev Ac(a b c:Nat):SOp:=.op ⟨some a,(.load false b (.tmp c)),none⟩
abbrev Ad(a b c:Nat):SOp:=.op ⟨some a,(.faddr b (.tmp c)),none⟩
abbrev Ae(a:Nat):SOp:=.op ⟨some a,(.mv (.av (.bool false))),none⟩
abbrev Af(a b c:Nat):SOp:=.op ⟨some a,(.mv (.tmp c)),some (b,true)⟩
abbrev Ag(a b:Nat)(c:Int):SOp:=.op ⟨some a,(.bin .add (.tmp b) (.av (.int .i64 c))),none⟩
abbrev Ah(a b c:Nat):SOp:=.op ⟨some a,(.mv (.tmp c)),some (b,false)⟩
abbrev Ai(a b c:Nat):SOp:=.op ⟨some a,(.call b [(.tmp c)]),none⟩
abbrev Aj(a b c:Nat):SOp:=.op ⟨none,(.store a (.tmp b) (.tmp c)),none⟩
abbrev Ak(a b c:Nat):SOp:=.op ⟨some a,(.bin .lss (.tmp b) (.tmp c)),none⟩
abbrev Al(a:Nat):SOp:=.op ⟨some a,(.mv (.av (.sl [] 0 (some 0)))),none⟩
abbrev Am(a b:Nat):SOp:=.op ⟨some a,(.len false (.tmp b)),none⟩
abbrev An(a b:Nat)(c:Int):SOp:=.op ⟨some a,(.bin .eql (.tmp b) (.av (.int .i64 c))),none⟩
abbrev Ao(a b c d:Nat):SOp:=.op ⟨some a,(.iaddr b (.tmp c) (.tmp d)),none⟩
abbrev Ap(a b c:Nat):SOp:=.op ⟨some a,(.load true b (.tmp c)),none⟩
abbrev Aq(a b:Nat):SOp:=.op ⟨some a,(.extract (.tmp b) 0),none⟩
abbrev Ar(a b c d:Nat):SOp:=.op ⟨some a,(.call b [(.tmp c),(.tmp d)]),none⟩
abbrev As(a:Nat):SOp:=.op ⟨some a,(.mv (.av (.str []))),none⟩
abbrev Au(a b:Nat):SOp:=.op ⟨some a,(.extract (.tmp b) 1),none⟩
abbrev Aw(a b:Nat):SOp:=.op ⟨some a,(.len true (.tmp b)),none⟩
abbrev Ax(a b:Nat):SOp:=.op ⟨some a,(.nilchk (.tmp b)),none⟩
abbrev Ay(a b:Nat):SOp:=.op ⟨some a,(.un .not (.tmp b)),none⟩
abbrev Az(a:Nat):SOp:=.op ⟨some a,(.mv (.av (.bool true))),none⟩
abbrev A0(a b c d e:Nat):aj×Kd:=(⟨some a,(.load false b (.tmp c)),none⟩,(.read d e))
abbrev A3(a b:Nat)(c:Int):SOp:=.op ⟨some a,(.bin .gtr (.tmp b) (.av (.int .i64 c))),none⟩
abbrev A4(a b:Nat):SOp:=.op ⟨some a,(.box (.tmp b)),none⟩
abbrev A5(a b c:Nat):aj×Kd:=(⟨some a,(.faddr b (.tmp c)),none⟩,.pure)
abbrev A6(a b c d:Nat):SOp:=.op ⟨some a,(.load false c (.tmp d)),some (b,true)⟩
abbrev A7(a b:Nat):aj×Kd:=(⟨some a,(.mv (.tmp b)),none⟩,.pure)
abbrev A8(a b c d e:Nat):SOp:=.op ⟨some a,(.call b [(.tmp c),(.tmp d),(.tmp e)]),none⟩
abbrev A9(a b c:Nat)(d:Int):SOp:=.op ⟨some a,(.bin .gtr (.tmp c) (.av (.int .i64 d))),some (b,false)⟩
abbrev AA(a b c d:Nat):SOp:=.op ⟨some a,(.faddr c (.tmp d)),some (b,true)⟩
abbrev AB(a b c:Nat):SOp:=.op ⟨some a,(.idxS (.tmp b) (.tmp c)),none⟩
abbrev AC(a b:Nat)(c:Int):SOp:=.op ⟨some a,(.bin .neq (.tmp b) (.av (.int .i64 c))),none⟩
abbrev AD(a b c d:Nat):SOp:=.op ⟨some a,(.load false c (.tmp d)),some (b,false)⟩
abbrev AE(a b c:Nat)(d:Int):SOp:=.op ⟨some a,(.bin .eql (.tmp c) (.av (.int .i64 d))),some (b,false)⟩
abbrev AF(a b:Nat)(c:Int):SOp:=.op ⟨some a,(.bin .lss (.tmp b) (.av (.int .i64 c))),none⟩
abbrev AH(a b c:Nat):SOp:=.op ⟨some a,(.bin .eql (.tmp b) (.tmp c)),none⟩
abbrev AI(a b c:Nat):SOp:=.op ⟨some a,(.app 1 1 1 [(.int .u8 0)] (.tmp b) (.tmp c)),none⟩
abbrev AJ(a b c d:Nat):SOp:=.op ⟨some a,(.faddr c (.tmp d)),some (b,false)⟩
abbrev AK(a b c d:Nat):aj×Kd:=(⟨some a,(.nilchk (.tmp b)),none⟩,(.read c d))
abbrev AL(a b c d:Nat):SOp:=.op ⟨some a,(.call c [(.tmp d)]),some (b,true)⟩
abbrev AM(a b:Nat):SOp:=.op ⟨some a,(.bslice false 1 1 [(.int .u8 0)] [(0,(1,(.tmp b)))]),none⟩
abbrev AN(a b c:Nat)(d:Int):SOp:=.op ⟨some a,(.call b [(.tmp c),(.av (.int .i64 d))]),none⟩
abbrev AO(a b c:Nat):SOp:=.op ⟨some a,(.bin .add (.tmp b) (.tmp c)),none⟩
abbrev AP(a b c d:Nat):SOp:=.op ⟨some a,(.call c [(.tmp d)]),some (b,false)⟩
abbrev AT(a b:Nat):SOp:=.op ⟨some a,(.b2s (.tmp b)),none⟩
abbrev AU(a:Nat):SOp:=.op ⟨some a,(.mv (.av .nilptr)),none⟩
abbrev AX(a b c d:Nat):SOp:=.op ⟨some a,(.idxS (.tmp c) (.tmp d)),some (b,true)⟩
abbrev AY(a b c:Nat):SOp:=.op ⟨some a,(.nilchk (.tmp c)),some (b,true)⟩
abbrev AZ(a b c:Nat)(d:Int):SOp:=.op ⟨some a,(.bin .eql (.tmp c) (.av (.int .i64 d))),some (b,true)⟩
abbrev Ba(a:Nat):SOp:=.op ⟨some a,(.alloc [(.int .i64 0),(.str []),(.str []),(.sl [] 0 (some 0)),(.sl [] 0 (some 0))]),none⟩
abbrev Bb(a b c d e:Nat):aj×Kd:=(⟨some a,(.call b [(.tmp c)]),none⟩,(.read d e))
abbrev Bc(a b c:Nat):SOp:=.op ⟨some a,(.un .not (.tmp c)),some (b,false)⟩
abbrev Bd(a b:Nat)(c:Int):SOp:=.op ⟨none,(.store a (.tmp b) (.av (.int .i64 c))),none⟩
abbrev Be(a b:Nat):SOp:=.op ⟨some a,(.bslice false 5 1 [(.str []),(.str []),(.int .i64 0),(.sl [] 0 (some 0)),(.sl [] 0 (some 0))] [(0,(5,(.tmp b)))]),none⟩
abbrev Bf(a b c:Nat):SOp:=.op ⟨some a,(.app 1 5 88 [(.str []),(.str []),(.int .i64 0),(.sl [] 0 (some 0)),(.sl [] 0 (some 0))] (.tmp b) (.tmp c)),none⟩
abbrev Bg(a b:Nat)(c:Int):SOp:=.op ⟨some a,(.bin .geq (.tmp b) (.av (.int .i64 c))),none⟩
abbrev Bh(a b c:Nat):SOp:=.op ⟨some a,(.len false (.tmp c)),some (b,false)⟩
abbrev Bi(a:Nat):SOp:=.op ⟨some a,(.alloc [(.str []),(.str [])]),none⟩
abbrev Bj(a b c:Nat):SOp:=.op ⟨some a,(.app 1 1 16 [(.str [])] (.tmp b) (.tmp c)),none⟩
abbrev Bk(a:Nat):SOp:=.op ⟨some a,(.alloc [(.str []),(.int .i64 0),(.bool false),(.bool false)]),none⟩
abbrev Bl(a b:Nat):SOp:=.op ⟨some a,(.extract (.tmp b) 2),none⟩
abbrev Bm(a b:Nat):SOp:=.op ⟨some a,(.conv .i64 (.tmp b)),none⟩
abbrev Bn(a b:Nat)(c:Int):SOp:=.op ⟨some a,(.bin .sub (.tmp b) (.av (.int .i64 c))),none⟩
abbrev Bo(a b c:Nat):SOp:=.op ⟨some a,(.len false (.tmp c)),some (b,true)⟩
abbrev Bp(a b c:Nat):SOp:=.op ⟨some a,(.un .not (.tmp c)),some (b,true)⟩
abbrev Bq(a b:Nat):SOp:=.op ⟨some a,(.bslice false 1 1 [(.str [])] [(0,(1,(.tmp b)))]),none⟩
abbrev Br(a:Nat):SOp:=.op ⟨some a,(.alloc [(.str []),(.sl [] 0 (some 0))]),none⟩
abbrev Bt(a b c:Nat):SOp:=.op ⟨some a,(.callv (.tmp b) [(.tmp c)]),none⟩
abbrev Bu(a b c d:Nat):SOp:=.op ⟨some a,(.idxS (.tmp c) (.tmp d)),some (b,false)⟩
abbrev Bv(a b c:Nat):SOp:=.op ⟨some a,(.len true (.tmp c)),some (b,false)⟩
abbrev Bw(a b c:Nat):SOp:=.op ⟨some a,(.bin .eql (.tmp c) (.av (.int .u8 32))),some (b,true)⟩
abbrev Bx(a b c d:Nat):SOp:=.op ⟨some a,(.bin .lss (.tmp c) (.tmp d)),some (b,true)⟩
abbrev By(a b c:Nat)(d:Int)(e:Nat):SOp:=.op ⟨some a,(.call b [(.tmp c),(.av (.int .i64 d)),(.tmp e)]),none⟩
abbrev Bz(a b:Nat):SOp:=.op ⟨some a,(.call b []),none⟩
abbrev B4(a b c d e:Nat):SOp:=.op ⟨some a,(.iaddr c (.tmp d) (.tmp e)),some (b,true)⟩
abbrev B5(a b c:Nat)(d:Int):SOp:=.op ⟨some a,(.bin .neq (.tmp c) (.av (.int .i64 d))),some (b,true)⟩
abbrev B6(a b:Nat)(c:Int):SOp:=.op ⟨some a,(.idxS (.tmp b) (.av (.int .i64 c))),none⟩
abbrev B7(a b c:Nat)(d:Int):SOp:=.op ⟨some a,(.bin .lss (.tmp c) (.av (.int .i64 d))),some (b,true)⟩
abbrev B8(a b:Nat):SOp:=.op ⟨some a,(.bin .eql (.tmp b) (.av (.str []))),none⟩
abbrev B9(a b:Nat):SOp:=.op ⟨some a,(.bin .eql (.tmp b) (.av (.int .u8 0))),none⟩
abbrev BA(a b c d:Nat):SOp:=.op ⟨some a,(.slS (.tmp b) (some (.tmp c)) (some (.tmp d))),none⟩
abbrev BC(a b c:Nat):SOp:=.op ⟨some a,(.app 1 2 32 [(.str []),(.str [])] (.tmp b) (.tmp c)),none⟩
abbrev BD(a b:Nat):SOp:=.op ⟨some a,(.bslice false 1 1 [(.sl [] 0 (some 0))] [(0,(1,(.tmp b)))]),none⟩
abbrev BE(a b c:Nat):SOp:=.op ⟨some a,(.app 1 1 24 [(.sl [] 0 (some 0))] (.tmp b) (.tmp c)),none⟩
abbrev BF(a b c:Nat):SOp:=.op ⟨some a,(.bin .neq (.tmp b) (.tmp c)),none⟩
abbrev BG(a b c d e:Nat):SOp:=.op ⟨some a,(.call c [(.tmp d),(.tmp e)]),some (b,true)⟩
abbrev BH(a b c d e:Nat):aj×Kd:=(⟨some a,(.load true b (.tmp c)),none⟩,(.read d e))
abbrev BI(a b:Nat):SOp:=.op ⟨some a,(.bslice false 2 1 [(.str []),(.sl [] 0 (some 0))] [(0,(2,(.tmp b)))]),none⟩
abbrev BJ(a:Nat):SOp:=.op ⟨some a,(.bslice false 1 1 [(.str [])] [(0,(1,(.av (.str [100,101,115,99,114,105,112,116,105,111,110]))))]),none⟩
abbrev BK(a b:Nat)(c:Int):SOp:=.op ⟨some a,(.callv (.tmp b) [(.av (.int .i64 c))]),none⟩
abbrev BL(a b c:Nat)(d:Int):SOp:=.op ⟨some a,(.bin .lss (.tmp c) (.av (.int .i64 d))),some (b,false)⟩
abbrev BM(a b c:Nat)(d:Int):SOp:=.op ⟨some a,(.bin .rem (.tmp c) (.av (.int .i64 d))),some (b,true)⟩
abbrev BN(a b:Nat):SOp:=.op ⟨some a,(.bin .sub (.tmp b) (.av (.int .u8 48))),none⟩
abbrev BO(a b c:Nat)(d:Int):SOp:=.op ⟨some a,(.bin .geq (.tmp c) (.av (.int .i64 d))),some (b,false)⟩
abbrev BP(a b c:Nat):SOp:=.op ⟨some a,(.slS (.tmp b) (some (.tmp c)) none),none⟩
abbrev BQ(a b c:Nat):SOp:=.op ⟨some a,(.len true (.tmp c)),some (b,true)⟩
abbrev BR(a b:Nat)(c:Int):SOp:=.op ⟨some a,(.bin .rem (.tmp b) (.av (.int .i64 c))),none⟩
abbrev BS(a b c:Nat)(d:Int):SOp:=.op ⟨some a,(.bin .sub (.tmp c) (.av (.int .i64 d))),some (b,true)⟩
abbrev BT(a:Nat):SOp:=.op ⟨some a,(.alloc [(.int .i64 0),(.str [])]),none⟩
abbrev BU(a b c:Nat)(d:Int):SOp:=.op ⟨some a,(.bin .neq (.tmp c) (.av (.int .i64 d))),some (b,false)⟩
abbrev BV(a b:Nat):SOp:=.op ⟨some a,(.eqk false .ptr (.tmp b) (.av .nilptr)),none⟩
abbrev BW(a b c:Nat):SOp:=.op ⟨some a,(.mget (.st [.str,.bool,.str]) false .nilmap (.tmp b) (.tmp c)),none⟩
abbrev BX(a b c:Nat):SOp:=.op ⟨some a,(.app 1 2 40 [(.str []),(.sl [] 0 (some 0))] (.tmp b) (.tmp c)),none⟩
abbrev BY(a:Nat):SOp:=.op ⟨some a,(.alloc [(.int .i64 0),(.sl [] 0 (some 0))]),none⟩
abbrev BZ(a b:Nat):SOp:=.op ⟨some a,(.bslice false 2 1 [(.int .i64 0),(.sl [] 0 (some 0))] [(0,(2,(.tmp b)))]),none⟩
abbrev Ca(a b c:Nat):SOp:=.op ⟨some a,(.app 1 2 32 [(.int .i64 0),(.sl [] 0 (some 0))] (.tmp b) (.tmp c)),none⟩
abbrev Cb(a b:Nat):SOp:=.op ⟨some a,(.bslice false 4 1 [(.str []),(.int .i64 0),(.bool false),(.bool false)] [(0,(4,(.tmp b)))]),none⟩
abbrev Cc(a b c:Nat):SOp:=.op ⟨some a,(.app 1 4 32 [(.str []),(.int .i64 0),(.bool false),(.bool false)] (.tmp b) (.tmp c)),none⟩
abbrev Cd(a:Nat):SOp:=.op ⟨some a,(.alloc [(.sl [] 0 (some 0)),(.sl [] 0 (some 0))]),none⟩
abbrev Ce(a b c d:Nat):SOp:=.op ⟨some a,(.callv (.tmp b) [(.tmp c),(.tmp d)]),none⟩
abbrev Cf(a b c:Nat)(d:Int):SOp:=.op ⟨some a,(.idxS (.tmp c) (.av (.int .i64 d))),some (b,false)⟩
abbrev Cg(a b c:Nat)(d:Int):SOp:=.op ⟨some a,(.callv (.tmp c) [(.av (.int .i64 d))]),some (b,false)⟩
abbrev Ch(a b c d:Nat):SOp:=.op ⟨some a,(.bin .eql (.tmp c) (.tmp d)),some (b,true)⟩
abbrev Ci(a b c:Nat)(d e:Int):SOp:=.op ⟨some a,(.slS (.tmp c) (some (.av (.int .i64 d))) (some (.av (.int .i64 e)))),some (b,false)⟩
abbrev Cj(a b:Nat):SOp:=.op ⟨some a,(.bin .neq (.tmp b) (.av (.str []))),none⟩
abbrev Ck(a b c:Nat)(d:Int):SOp:=.op ⟨some a,(.bin .add (.tmp c) (.av (.int .i64 d))),some (b,true)⟩
abbrev Cl(a b:Nat):SOp:=.op ⟨some a,(.bslice false 2 1 [(.str []),(.str [])] [(0,(2,(.tmp b)))]),none⟩
abbrev Cm(a b c:Nat)(d:Int):SOp:=.op ⟨some a,(.bin .sub (.tmp c) (.av (.int .i64 d))),some (b,false)⟩
abbrev Co(a b c:Nat):SOp:=.op ⟨some a,(.slV 2 (.tmp b) none (some (.tmp c)) none),none⟩
abbrev Cp(a b:Nat):SOp:=.op ⟨some a,(.bin .geq (.tmp b) (.av (.int .u8 65))),none⟩
abbrev Cq(a b c:Nat):SOp:=.op ⟨some a,(.bin .eql (.tmp c) (.av (.int .u8 32))),some (b,false)⟩
abbrev Cr(a:Nat):SOp:=.op ⟨some a,(.mv (.av (.int .u8 0))),none⟩
abbrev Cs(a b c:Nat)(d:Int):SOp:=.op ⟨some a,(.bin .gtr (.tmp c) (.av (.int .i64 d))),some (b,true)⟩
abbrev Ct(a b:Nat)(c:Int)(d:Nat):SOp:=.op ⟨some a,(.build [(.int .i64 0),(.str []),(.str []),(.sl [] 0 (some 0)),(.sl [] 0 (some 0))] [(0,(1,(.av (.int .i64 c)))),(1,(1,(.av (.str [97])))),(3,(1,(.tmp d)))]),some (b,false)⟩
abbrev Cu(a b c:Nat):SOp:=.op ⟨some a,(.app 1 1 8 [(.int .i64 0)] (.tmp b) (.tmp c)),none⟩
abbrev Cv(a b c:Nat):SOp:=.op ⟨some a,(.bin .eql (.tmp c) (.av (.str []))),some (b,true)⟩
abbrev LSO:=List SOp
abbrev Cw:List Bool:=[true,false]
abbrev Cx:List Bool:=[true,false,false]
abbrev Cy:List Bool:=[true,false,false,false]
abbrev Cz:List Bool:=[true,false,false,false,false]
abbrev C0:List Bool:=[true,false,false,false,false,false]
abbrev C2:List Bool:=[true,false,false,false,false,false,false]
abbrev C3:List Bool:=[true,true,false]
abbrev C4:List Bool:=[true,false,false,false,false,false,false,false]
abbrev C6:List Bool:=[true,true,false,false,false]
abbrev C7:List Bool:=[false,false]
abbrev CA:List Bool:=[false,false,false,false,false,false,false]
abbrev CB:List Bool:=[false,false,false,false,false]
abbrev CD:List Bool:=[false]
abbrev CE:List Bool:=[true,true,false,false,false,false,false,false]
abbrev CF:List Bool:=[true,true,true,false]
abbrev CG:List Bool:=[true,false,false,false,false,false,false,false,false,false,false,false]
abbrev CH:List Bool:=[true,true,false,false]
abbrev CI:List Bool:=[true,true,false,false,false,false,false,false,false]
abbrev CJ:List Bool:=[true,false,false,false,false,false,false,false,false]
abbrev CK:List Bool:=[true,false,false,false,false,false,false,false,false,false]
abbrev CL:List Bool:=[true,true,false,false,false,false,false]
abbrev CM:List Bool:=[false,false,false,false,false,false,false,false]
abbrev CN:List Bool:=[true,false,false,false,false,false,false,false,false,false,false]
abbrev CO:List Bool:=[false,false,false,false,false,false]
abbrev CP:List Bool:=[false,false,false,false]
abbrev CQ:List Bool:=[true,true,true,false,false,false]
abbrev CR:List Bool:=[true,true,true,false,false]
abbrev CT:List Bool:=[true,true,false,false,false,false]
abbrev CU:List Bool:=[false,false,false]
abbrev CV:List Bool:=[false,true,false,false,false,false,false]
abbrev CW:List Bool:=[true,true,true,false,false,false,false,false,false]
abbrev CX:List Bool:=[true,true,false,false,false,false,false,false,false,false]
abbrev CY:List Bool:=[true,true,false,false,false,false,false,false,false,false,false]
abbrev CZ:List Bool:=[true,true,true,false,false,false,false,false,false,false,false,false]
abbrev Da:List Bool:=[true,true,false,false,false,false,false,false,false,false,false,false]
abbrev Db:List Bool:=[false,true,false,false,false,false,false,false]
abbrev Dc:List Bool:=[false,true,false,false,false,false,false,false,false,false,false]
abbrev Dd:List Bool:=[false,false,false,false,false,false,false,false,false]
attribute [push_cast] Aa Ab Ac Ad Ae Af Ag Ah Ai Aj Ak Al Am An Ao Ap Aq Ar As Au Aw Ax Ay Az A0 A3 A4 A5 A6 A7 A8 A9 AA AB AC AD AE AF AH AI AJ AK AL AM AN AO AP AT AU AX AY AZ Ba Bb Bc Bd Be Bf Bg Bh Bi Bj Bk Bl Bm Bn Bo Bp Bq Br Bt Bu Bv Bw Bx By Bz B4 B5 B6 B7 B8 B9 BA BC BD BE BF BG BH BI BJ BK BL BM BN BO BP BQ BR BS BT BU BV BW BX BY BZ Ca Cb Cc Cd Ce Cf Cg Ch Ci Cj Ck Cl Cm Co Cp Cq Cr Cs Ct Cu Cv Cw Cx Cy Cz C0 C2 C3 C4 C6 C7 CA CB CD CE CF CG CH CI CJ CK CL CM CN CO CP CQ CR CT CU CV CW CX CY CZ Da Db Dc Dd
section
variable {P:Program}{w0:World}{S0:SB}{N:Nat}{own:Nat->Nat->Nat}{Q:Exit->Tm->List Blk->Prop}{T:Tm}{L:List Blk}
theorem Rel.none_of{E:Env}{w:World}(h:Rel w0 S0 E L w):∀i,L.length<=i->E.loc i=none/\E.tok i=none:=λi hi=>⟨h.fresh i hi,h.tkfresh i hi⟩
theorem St.cut{E0 E:Env}{a:Act}{w:World}{T':Tm}{L':List Blk}{B:Nat}(h0:E0.le E)(hB:∀i,B<=i->E0.loc i=none/\E0.tok i=none)(h:St w0 S0 N E T L a w)(hc:Cut B T' L' T L):∃E',E0.le E'/\St w0 S0 N E' T' L' a w:=by obtain⟨hs,X,rfl,hlen,hx⟩:=hc;rcases hx with rfl|⟨h1,h2⟩;exact⟨E,h0,by simpa using h.1,h.2.1.sub hs,h.2.2⟩;refine⟨E.res L'.length id,aa5 h0 hB hlen id (λ_ _=>rfl),h.1.cut h2,λt v hv=>?_,h.2.2⟩;have:=(h.2.1.sub hs) t v hv;refine VR.cut (E:=E) (E':=E.res L'.length id) (p:=λi=>decide (i<L'.length)) (λ_ _ _ x=>x) (λi c hi hc=>?_) (λi c hi hc=>?_) v _ (h1 _ (J8 hv)) this;rw[Env.res_loc (by simpa using hi)];exact hc;rw[Env.res_tok (by simpa using hi)];exact hc
def Nxt(B n:Nat)(I:Nat->Tm->List Blk->Prop)(T1:Tm)(L1:List Blk):Prop:=∃m T2 L2,m<n/\Cut B T2 L2 T1 L1/\I m T2 L2
def Mid(B:Nat)(R:Tm->List Blk->Prop)(T1:Tm)(L1:List Blk):Prop:=∃T2 L2,Cut B T2 L2 T1 L1/\R T2 L2
theorem ag{B n:Nat}{I:Nat->Tm->List Blk->Prop}{T1:Tm}{L1:List Blk}(m:Nat)(T2:Tm)(L2:List Blk)(h1:m<n)(h2:Cut B T2 L2 T1 L1)(h3:I m T2 L2):Nxt B n I T1 L1:=⟨m,T2,L2,h1,h2,h3⟩
theorem aoM{B:Nat}{T' T:Tm}{L:List Blk}(a:W3 T' T:=by repeat' first|exact aaM|refine Lf rfl rfl ?_|refine WC rfl rfl ?_|refine Lf rfl (congrArg (AV.int _) aoJ) ?_|refine Lf rfl (by first|(simp_all;done)|(simp_all;omega)|(simp_all;intros;omega)) ?_)(b:B<=L.length:=by simp):Cut B T' L T L:=aaR a b
theorem aoN{B:Nat}{T' T:Tm}{L:List Blk}(a:W3 T' T:=by repeat' first|exact aaM|refine Lf rfl rfl ?_|refine WC rfl rfl ?_)(b:B<=L.length:=by simp):Cut B T' L T L:=aaR a b
theorem aoO{B n:Nat}{I:Nat->Tm->List Blk->Prop}{T1:Tm}{L1:List Blk}{m:Nat}{T2:Tm}{L2:List Blk}(h1:m<n)(h2:Cut B T2 L2 T1 L1)(h3:I m T2 L2):Nxt B n I T1 L1:=⟨m,T2,L2,h1,h2,h3⟩
theorem iT{B:Nat}{R:Tm->List Blk->Prop}{T1:Tm}{L1:List Blk}(T2:Tm)(L2:List Blk)(h2:Cut B T2 L2 T1 L1)(h3:R T2 L2):Mid B R T1 L1:=⟨T2,L2,h2,h3⟩
theorem ah{x:b9}(I:Nat->Tm->List Blk->Prop){n0:Nat}{T0:Tm}{L0:List Blk}(hc0:Cut L.length T0 L0 T L)(h0:I n0 T0 L0)(round:∀n T' L',I n T' L'->AW P N own x (acY (Nxt L.length n I) Q) T' L'):AW P N own (.loop x) Q T L:=λc hc r hr w0 S0 E a w hst=>by
 classical
 obtain⟨c1,rfl,h1⟩:=agl hc;have hB:=hst.1.none_of
 let J:Act->World->Nat->Prop:=λa w n=>∃w1 S1 E' T' L',Bs w0 S0 w1 S1/\E.le E'/\I n T' L'/\St w1 S1 N E' T' L' a w
 have least:∀a w,∃m,(∃n,J a w n)->J a w m/\∀k,J a w k->m<=k:=λa w=>by by_cases h:∃n,J a w n;obtain⟨n,hn⟩:=h;obtain⟨m,h1,h2⟩:=YR (J a w) n hn;exact⟨m,λ_=>⟨h1,h2⟩⟩;exact⟨0,λh'=>absurd h' h⟩
 let μ:Act->World->Nat:=λa w=>Classical.choose (least a w)
 have hμ:∀a w,(∃n,J a w n)->J a w (μ a w)/\∀k,J a w k->μ a w<=k:=λa w=>Classical.choose_spec (least a w)
 obtain⟨E1,e1,e2⟩:=hst.cut (.refl E) hB hc0;refine wpIn_loop (λa w=>∃n,J a w n) μ ⟨n0,w0,S0,E1,_,_,.refl _ _,e1,h0,e2⟩ λa w hJ=>?_
 obtain⟨⟨w1,S1,E',T',L',b,g1,g2,g3⟩,_⟩:=hμ a w hJ;refine wpIn_mono (round _ T' L' g2 c1 h1 r (λe=>hr (by simp[b9.hasRF,e])) w1 S1 E' a w g3) λe a' w' ⟨w3,S3,E'',T'',L'',b2,k1,k2,k3⟩=>?_
 cases e;obtain⟨m,T2,L2,hm,hcut,hI⟩:=k2;obtain⟨E3,q1,q2⟩:=k3.cut (g1.trans k1) hB hcut;have hJ':J a' w' m:=⟨w3,S3,E3,T2,L2,b.trans b2,q1,hI,q2⟩;exact⟨⟨m,hJ'⟩,Nat.lt_of_le_of_lt ((hμ a' w' ⟨m,hJ'⟩).2 m hJ') hm⟩
 all_goals exact⟨w3,S3,E'',T'',L'',b.trans b2,g1.trans k1,k2,k3⟩
theorem ajb{lc:b9}{T':Tm}{L':List Blk}(hc:Cut L.length T' L' T L)(h:AW P N own lc Q T' L'):AW P N own lc Q T L:=λc hl r hr w0 S0 E a w hst=>by obtain⟨E1,e1,e2⟩:=hst.cut (.refl E) hst.1.none_of hc;exact wpIn_mono (h c hl r hr w0 S0 E1 a w e2) λe a' w' ⟨w1,S1,E',T1,L1,b,k1,k2,k3⟩=>⟨w1,S1,E',T1,L1,b,e1.trans k1,k2,k3⟩
theorem Lg{x y:b9}(R:Tm->List Blk->Prop)(h:AW P N own x (acY (Mid L.length R) Q) T L)(hq:∀T2 L2,R T2 L2->L.length<=L2.length->AW P N own y Q T2 L2):AW P N own (.seq x y) Q T L:=λc hc r hr w0 S0 E a w hst=>by
 obtain⟨c1,c2,rfl,h1,h2⟩:=acI hc;refine wpIn_seq (wpIn_mono (h c1 h1 r (λe=>hr (by simp[b9.hasRF,e])) w0 S0 E a w hst) λe a' w' ⟨w1,S1,E',T',L',b,g1,g2,g3⟩=>?_);cases e;obtain⟨T2,L2,k1,k2⟩:=g2;obtain⟨E3,q1,q2⟩:=g3.cut g1 hst.1.none_of k1;obtain⟨_,X,_,hlen,_⟩:=k1;exact wpIn_mono (hq T2 L2 k2 hlen c2 h2 r (λe=>hr (by simp[b9.hasRF,e])) w1 S1 E3 a' w' q2) λe a'' w'' ⟨w2,S2,E4,T4,L4,b2,k1,k2,k3⟩=>⟨w2,S2,E4,T4,L4,b.trans b2,q1.trans k1,k2,k3⟩
 all_goals exact⟨w1,S1,E',T',L',b,g1,g2,g3⟩
theorem TR.cons{E:Env}{a:Act}{t:Nat}{v:AV}(r:TR E T a)(hv:VR E v (a.tmps.getD t undef)):TR E ((t,v)::T) a:=λt' v' h=>by simp only[aq]at h;split at h;rename_i e;subst e;simp at h;subst h;exact hv;exact r t' v' h
theorem bF{lc:b9}(t sz:Nat){l:List AV}{n:Nat}(h1:aq T t=some (.sl l n (some n)))(h2:l.length=n*sz)(h:AW P N own lc Q ((t,.gsl l n L.length sz)::T) (L++[.spare n sz])):AW P N own lc Q T L:=λc hl r hr w0 S0 E a w hst=>by
 obtain⟨r1,r2⟩:=hst.1.addtok (n:=n) (sz:=sz) (lc:=none) Ts;have hv:=hst.2.1 t _ h1;have hT:=hst.2.1.mono r1;refine wpIn_mono (h c hl r hr w0 S0 _ a w ⟨r2,hT.cons ?_,hst.2.2⟩) λe a' w' ⟨w1,S1,E',T1,L1,b,k1,k2,k3⟩=>⟨w1,S1,E',T1,L1,b,r1.trans k1,k2,k3⟩
 have hv':=VR.mono r1 _ _ hv;generalize a.tmps.getD t undef=v at hv';simp only[VR]at hv'⊢;obtain⟨p,c',q1,q2,q3,q4⟩:=hv';exact⟨p,c',q1,q2,h2,q4,⟨n,sz,none⟩,aoK,alr _,λ_=>⟨rfl,λ_=>q3 n rfl,aoK⟩⟩
theorem aJ{x:Opd}{y z:b9}{p:Prop}[Decidable p](hx:evX T x=some (.bool (decide p)))(ht:p->AW P N own y Q T L)(hf:¬p->AW P N own z Q T L):AW P N own (.cond x y z) Q T L :=
 aL hx (λe=>ht (of_decide_eq_true e)) (λe=>hf (of_decide_eq_false e))
theorem aI{x:Opd}{y z:b9}{p:Prop}[Decidable p](hx:evX T x=some (.bool (!decide p)))(ht:¬p->AW P N own y Q T L)(hf:p->AW P N own z Q T L):AW P N own (.cond x y z) Q T L :=
 aL hx (λe=>ht (of_decide_eq_false (by simpa using e))) (λe=>hf (of_decide_eq_true (by simpa using e)))
end
section
variable {P:Program}{K:Tm->Prop}{L L1:List Blk}{Ls:List (List Blk)}{p:AV}{d:Option Nat}{op:LOp}{rest:List aj}{T:Tm}{t:Nat}{b:Bool}{al:Option Nat}{n:Nat}
def aho(L:List Blk)(k:AV->Prop):Option (Prop×AV×List Blk)->Prop
 |some (c,av,L')=>c/\L'=L/\k av
 |none=>False
theorem aeL{k:AV->Prop}{c:Prop}{av:AV}{L':List Blk}:aho L k (some (c,av,L'))=(c/\L'=L/\k av):=rfl
def ab5(L L1:List Blk)(k:AV->Prop):Option (Prop×AV×List Blk)->Option (Prop×AV×List Blk)->Prop
 |some (c,av,L'),some (c2,av2,L2)=>c/\L'=L/\c2/\av2=av/\L2=L1/\k av
 |_,_=>False
theorem aeK{k:AV->Prop}{c c2:Prop}{av av2:AV}{L' L2:List Blk}:ab5 L L1 k (some (c,av,L')) (some (c2,av2,L2))=(c/\L'=L/\c2/\av2=av/\L2=L1/\k av):=rfl
def aku(P:Program)(f:FuncId)(L:List Blk)(k:AV->Prop):Option (List AV)->Prop
 |some args=>∃v,ae P f args L (λav L'=>av=v/\L'=L)/\k v
 |none=>False
def ai9(P:Program)(f:FuncId)(L L1:List Blk)(k:AV->Prop):Option (List AV)->Prop
 |some args=>∃v,ae P f args L (λav L'=>av=v/\L'=L)/\ae P f args L1 (λav L'=>av=v/\L'=L1)/\k v
 |none=>False
def aaP(b:Bool)(y n:Prop):Option AV->Prop
 |some (.bool x)=>if x=b then y else n
 |some (.tup [])=>n
 |_=>False
theorem aeO{b x:Bool}{y n:Prop}:aaP b y n (some (.bool x))=if x=b then y else n:=rfl
theorem ahs{b:Bool}{y n:Prop}:aaP b y n (some (.tup []))=n:=rfl
def ajp(P:Program)(f:FuncId)(args:List AV)(L L1:List Blk)(k:AV->Prop):Prop:=∃v,ae P f args L (λav L'=>av=v/\L'=L)/\ae P f args L1 (λav L'=>av=v/\L'=L1)/\k v
theorem aU{f:FuncId}{args:List AV}{k:AV->Prop}{v:AV}(h:ae P f args L (λav L'=>av=v/\L'=L))(h1:ae P f args L1 (λav L'=>av=v/\L'=L1))(hk:k v):ajp P f args L L1 k:=⟨v,h,h1,hk⟩
theorem akt{f:FuncId}{k:AV->Prop}{args:List AV}:aku P f L k (some args)=ahy P f args L k:=rfl
theorem aks{f:FuncId}{k:AV->Prop}{args:List AV}:ai9 P f L L1 k (some args)=ajp P f args L L1 k:=rfl
theorem ahD{o:aj}{v:AV}(h:o.op.isCall=false):AQv P o T L v=(match ak T L o.op with|some (c,av,L')=>c/\av=v/\L'=L|none=>False):=by obtain⟨d,op,g⟩:=o;cases op<;>simp only[LOp.isCall,amC]at h<;>rfl
def W4(P:Program)(L:List Blk)(k:AV->Prop)(T:Tm)(op:LOp):Prop :=
 match op with
 |.call f xs=>aku P f L k (gC T xs)
 |.callv f xs=>∃v,AQv P ⟨none,.callv f xs,none⟩ T L v/\k v
 |lo=>aho L k (ak T L lo)
def ahl(P:Program)(L L1:List Blk)(k:AV->Prop)(T:Tm)(op:LOp):Prop :=
 match op with
 |.call f xs=>ai9 P f L L1 k (gC T xs)
 |.callv f xs=>∃v,(AQv P ⟨none,.callv f xs,none⟩ T L v/\AQv P ⟨none,.callv f xs,none⟩ T L1 v)/\k v
 |lo=>ab5 L L1 k (ak T L lo) (ak T L1 lo)
def AGK(P:Program)(K:Tm->List Blk->Prop)(Ls:List (List Blk))(H:List qj)(rest:List (aj×Kd))(d:Option Nat)(T:Tm)(av:AV):Prop:=AG P K rest Ls H (cM d av T)
def AGR(P:Program)(K:Tm->List Blk->Prop)(Ls:List (List Blk))(H:List qj)(rest:List (aj×Kd))(f:Nat)(o:aj)(T:Tm)(av:AV):Prop:=AG P K rest Ls (aby f o T av H) (cM o.dst av T)
def AGE(P:Program)(K:Tm->List Blk->Prop)(Ls:List (List Blk))(H:List qj)(rest:List (aj×Kd))(d:Option Nat)(T:Tm)(av:AV)(L2:List Blk):Prop:=F4 P L2 H/\AG P K rest (L2::Ls) (Pw H) (cM d av T)
def ahn(k:AV->List Blk->Prop):Option (Prop×AV×List Blk)->Prop
 |some (c,av,L2)=>c/\k av L2
 |none=>False
theorem aeJ{k:AV->List Blk->Prop}{c:Prop}{av:AV}{L2:List Blk}:ahn k (some (c,av,L2))=(c/\k av L2):=rfl
def IsV(v av:AV):Prop:=av=v
theorem ajV{o:aj}{T:Tm}{v:AV}{H:List qj}:aby 0 o T v H=H:=rfl
theorem ajU{f:Nat}{o:aj}{T:Tm}{v:AV}{H:List qj}:aby (f+1) o T v H=(f+1,o,T,v)::H:=rfl
theorem ag1:Pw []=[]:=rfl
theorem ag0{y:aj×Tm×AV}{H:List qj}:Pw ((1,y)::H)=Pw H:=rfl
theorem aka{y:aj×Tm×AV}{H:List qj}:Pw ((n+2,y)::H)=(n+1,y)::Pw H:=rfl
theorem Lh{k:AV->Prop}:(∃v,AQ P ⟨d,op,none⟩ T L v/\k v)=W4 P L k T op:=by
 by_cases h:op.isCall=false;have e:W4 P L k T op=aho L k (ak T L op):=by cases op<;>simp only[LOp.isCall,amC]at h<;>rfl
 rw[e];simp only[AQ,ahD (o:=⟨d,op,none⟩) h];rcases ak T L op with _|⟨c,av,L'⟩;simp[aho];simp only[aho,eq_iff_iff];exact⟨λ⟨v,⟨h1,h2,h3⟩,h4⟩=>⟨h1,h3,h2▸h4⟩,λ⟨h1,h2,h3⟩=>⟨av,⟨h1,rfl,h2⟩,h3⟩⟩;cases op<;>simp only[LOp.isCall,not_true_eq_false]at h;rename_i f xs;simp only[AQ,AQv,W4];rcases gC T xs with _|args;simp[aku];rfl;rfl
theorem ajc{k:AV->Prop}:(∃v,(AQ P ⟨d,op,none⟩ T L v/\AQ P ⟨d,op,none⟩ T L1 v)/\k v)=ahl P L L1 k T op:=by
 by_cases h:op.isCall=false;have e:ahl P L L1 k T op=ab5 L L1 k (ak T L op) (ak T L1 op):=by cases op<;>simp only[LOp.isCall,amC]at h<;>rfl
 rw[e];simp only[AQ,ahD (o:=⟨d,op,none⟩) h];rcases ak T L op with _|⟨c,av,L'⟩<;>rcases ak T L1 op with _|⟨c2,av2,L2⟩;simp[ab5];simp[ab5];simp[ab5];simp only[ab5,eq_iff_iff];exact⟨λ⟨v,⟨⟨h1,h2,h3⟩,h4,h5,h6⟩,h7⟩=>⟨h1,h3,h4,h5.trans h2.symm,h6,h2▸h7⟩,λ⟨h1,h2,h3,h4,h5,h6⟩=>⟨av,⟨⟨h1,rfl,h2⟩,h3,h4,h5⟩,h6⟩⟩;cases op<;>simp only[LOp.isCall,not_true_eq_false]at h;rename_i f xs;simp only[AQ,AQv,ahl];rcases gC T xs with _|args;simp[ai9];simp only[ai9,and_assoc];rfl
theorem acb{k:AV->Prop}{g:aj->AV->Prop}(hg:∀v,g ⟨d,op,some (t,b)⟩ v=match aq T t with|some (.bool x)=>if x=b then g ⟨d,op,none⟩ v else v=.tup []|some (.tup [])=>v=.tup []|_=>False):
  (∃v,g ⟨d,op,some (t,b)⟩ v/\k v)=aaP b (∃v,g ⟨d,op,none⟩ v/\k v) (k (.tup [])) (aq T t):=by
 simp only[hg];rcases aq T t with _|x;simp[aaP];cases x<;>simp only[aaP,false_and,exists_false];rename_i x;by_cases e:x=b;simp[e];simp[e];rename_i l;cases l with
 |nil=>simp
 |cons _ _=>simp
theorem akw{K:Tm->List Blk->Prop}{H:List qj}:AG P K [] (L::Ls) H T=K T L:=rfl
theorem aje{K:Tm->List Blk->Prop}{H:List qj}{r:List (aj×Kd)}:AG P K ((⟨d,op,none⟩,.pure)::r) (L::Ls) H T=W4 P L (AGK P K (L::Ls) H r d T) T op:=Lh
theorem ahI{K:Tm->List Blk->Prop}{H:List qj}{r:List (aj×Kd)}:AG P K ((⟨d,op,some (t,b)⟩,.pure)::r) (L::Ls) H T=aaP b (W4 P L (AGK P K (L::Ls) H r d T) T op) (AGK P K (L::Ls) H r d T (.tup [])) (aq T t):=by rw[<- Lh (d:=d)];exact acb (g:=λo v=>AQ P o T L v) λv=>rfl
theorem ahH{K:Tm->List Blk->Prop}{H:List qj}{r:List (aj×Kd)}{f:Nat}:AG P K ((⟨d,op,none⟩,.read 0 f)::r) (L::Ls) H T=W4 P L (AGR P K (L::Ls) H r f ⟨d,op,none⟩ T) T op:=by rw[<- Lh (d:=d)];simp only[AG,am8,amX,alM,forall_eq,AGR]
theorem aeR{K:Tm->List Blk->Prop}{H:List qj}{r:List (aj×Kd)}{f:Nat}:AG P K ((⟨d,op,some (t,b)⟩,.read 0 f)::r) (L::Ls) H T=aaP b (W4 P L (AGR P K (L::Ls) H r f ⟨d,op,some (t,b)⟩ T) T op) (AGR P K (L::Ls) H r f ⟨d,op,some (t,b)⟩ T (.tup [])) (aq T t):=by rw[<- Lh (d:=d)];simp only[AG,am8,amX,alM,forall_eq];exact acb (g:=λo v=>AQ P o T L v) (k:=AGR P K (L::Ls) H r f ⟨d,op,some (t,b)⟩ T) λv=>rfl
theorem ahG{K:Tm->List Blk->Prop}{H:List qj}{r:List (aj×Kd)}{f:Nat}:AG P K ((⟨d,op,none⟩,.read 1 f)::r) (L::L1::Ls) H T=ahl P L L1 (AGR P K (L::L1::Ls) H r f ⟨d,op,none⟩ T) T op:=by rw[<- ajc (d:=d)];simp only[AG,am8,amX,alu,am3,or_false,forall_eq_or_imp,forall_eq,AGR]
def akY(P:Program)(L:List Blk)(k:AV->List Blk->Prop)(T:Tm)(op:LOp):Prop :=
 match op with
 |.call f xs=>∃v L2,EQv P ⟨none,.call f xs,none⟩ T L v L2/\k v L2
 |.callv f xs=>∃v L2,EQv P ⟨none,.callv f xs,none⟩ T L v L2/\k v L2
 |lo=>ahn k (ak T L lo)
theorem akx{K:Tm->List Blk->Prop}{H:List qj}{r:List (aj×Kd)}:AG P K ((⟨d,op,none⟩,.eff)::r) (L::Ls) H T=akY P L (AGE P K (L::Ls) H r d T) T op:=by
 simp only[AG,EQ];have key:∀lo:LOp,lo.isCall=false->(∃v L2,EQv P ⟨d,lo,none⟩ T L v L2/\AGE P K (L::Ls) H r d T v L2)=ahn (AGE P K (L::Ls) H r d T) (ak T L lo):=λlo hlo=>by
  have e:∀v L2,EQv P ⟨d,lo,none⟩ T L v L2=(match ak T L lo with|some (c,av,L')=>c/\av=v/\L'=L2|none=>False):=λv L2=>by cases lo<;>simp only[LOp.isCall,amC]at hlo<;>rfl
  simp only[e];rcases ak T L lo with _|⟨c,av,L'⟩;simp[ahn];simp only[ahn,eq_iff_iff];exact⟨λ⟨v,L2,⟨h1,h2,h3⟩,h4⟩=>⟨h1,h2▸h3▸h4⟩,λ⟨h1,h2⟩=>⟨av,L',⟨h1,rfl,rfl⟩,h2⟩⟩
 have key2:(∃v L2,EQv P ⟨d,op,none⟩ T L v L2/\F4 P L2 H/\AG P K r (L2::L::Ls) (Pw H) (cM d v T))=(∃v L2,EQv P ⟨d,op,none⟩ T L v L2/\AGE P K (L::Ls) H r d T v L2):=rfl;rw[key2];cases op
 case call=>rfl
 case callv=>rfl
 all_goals exact key _ rfl
theorem aeM:F4 P L []=True:=rfl
theorem ab6{f:Nat}{v:AV}{H:List qj}:F4 P L ((f,⟨d,op,none⟩,T,v)::H)=(W4 P L (IsV v) T op/\F4 P L H):=by rw[<- Lh (d:=d)];simp[F4,IsV]
theorem aaN{f:Nat}{v:AV}{H:List qj}:F4 P L ((f,⟨d,op,some (t,b)⟩,T,v)::H)=(aaP b (W4 P L (IsV v) T op) (IsV v (.tup [])) (aq T t)/\F4 P L H):=by rw[<- Lh (d:=d),<- acb (g:=λo v=>AQ P o T L v) (k:=IsV v) (d:=d) (op:=op) (t:=t) (b:=b) (T:=T) λv=>rfl];simp[F4,IsV]
theorem aY{N:Nat}{own:Nat->Nat->Nat}{Q:Exit->Tm->List Blk->Prop}{qk:List (aj×Kd)}{ts:List aj}(h:AG P (oI P (Q .normal) ts) qk [L] [] T):AW P N own (.dregion qk ts) Q T L:=WJ h
end
abbrev cf(xs:List Int):List AV:=xs.map (AV.int .i64)
theorem xw(xs:List Int):AV.frzL (xs.map (AV.int .i64))=xs.map (AV.int .i64):=by rw[AV.frzL_eq,al0];rfl
theorem afO(xs:List Int):(xs.map (AV.int .i64)).all AV.one=true:=by rw[List.all_map];simp[AV.one]
theorem aju:IntKind.i64.wrap 0=0:=by decide
theorem ajt:IntKind.i64.wrap 1=1:=by decide
theorem ajs:IntKind.i64.wrap 2=2:=by decide
theorem ahM:IntKind.i64.wrap (-1)=-1:=by decide
structure Nx(p:Prop):Prop where
 o:p
structure NxI(c p:Prop):Prop where
 o:c->p
theorem bg{c:Prop}(h:c->p):NxI c p:=⟨h⟩
theorem bJ(h:p):Nx p:=⟨h⟩
section
variable {P:Program}{L:List Blk}{body:List SOp}{d:Nat}{x:Opd}{k:Tm->Prop}{T:Tm}{c:Prop}[Decidable c]{p q:Bool}
theorem bj(h:NxI (c) (GL P L body (IsX x q) T))(hk:Nx (k ((d,.bool (decide c&&q))::T))):GQ P L true body d x k T (decide c):=⟨q,λe=>h.o (of_decide_eq_true e),hk.o⟩
theorem aR(h:NxI (¬c) (GL P L body (IsX x q) T))(hk:Nx (k ((d,.bool (!decide c&&q))::T))):GQ P L true body d x k T (!decide c):=⟨q,λe=>h.o (by simpa using e),hk.o⟩
theorem bm(h:NxI (¬c) (GL P L body (IsX x q) T))(hk:Nx (k ((d,.bool (decide c ||q))::T))):GQ P L false body d x k T (decide c):=⟨q,λe=>h.o (of_decide_eq_false e),hk.o⟩
theorem aS(h:NxI (c) (GL P L body (IsX x q) T))(hk:Nx (k ((d,.bool (!decide c ||q))::T))):GQ P L false body d x k T (!decide c):=⟨q,λe=>h.o (by simpa using e),hk.o⟩
theorem bo(h:NxI (p=true) (GL P L body (IsX x q) T))(hk:Nx (k ((d,.bool (p&&q))::T))):GQ P L true body d x k T p:=⟨q,h.o,hk.o⟩
theorem aT(h:NxI (p=false) (GL P L body (IsX x q) T))(hk:Nx (k ((d,.bool (p ||q))::T))):GQ P L false body d x k T p:=⟨q,h.o,hk.o⟩
variable {a b:Prop}[Decidable a][Decidable b]
theorem akf:(decide a&&decide b)=decide (a/\b):=(aod a b).symm
theorem akd:(!decide a&&decide b)=decide (¬a/\b):=by simp[aod]
theorem ake:(decide a && !decide b)=decide (a/\¬b):=by simp[aod]
theorem akc:(!decide a && !decide b)=decide (¬a/\¬b):=by simp[aod]
theorem akD:(decide a ||decide b)=decide (a\/b):=(aoe a b).symm
theorem akB:(!decide a ||decide b)=decide (¬a\/b):=by simp[aoe]
theorem akC:(decide a || !decide b)=decide (a\/¬b):=by simp[aoe]
theorem akA:(!decide a || !decide b)=decide (¬a\/¬b):=by simp[aoe]
end
attribute [push_cast] ai4 evD deg alL akn ak4 ako ai7 ak3 ak2 akX akj akW aki akk acr ajg ajh aht ak5 ac1 ak1 GOp IsX akf akd ake akc akD akB akC akA aml anD amL Bool.and_false anr anY amY anI am0 anh
attribute [push_cast] aju ajt ajs ahM AGK AGR AGE IsV aeJ ajV ajU ag1 ag0 aka akw aje ahI ahH aeR ahG akx akY aeM ab6 aaN aeL aeK akt aks aeO ahs W4 ahl eq_self aca Yp ahE aeQ acd KL ac0 ahm ahx aeP AOp ak evX gC aq cM bin aiY aiX un eqA row ms AV.cells? bnd acY ab7 am Um Yp elems app Wt eA AV.frz AV.frzL xw afO amE Option.bind_none alL alX amj anB if_true if_false true_and and_true alA amg alJ al5 amk am7 rn oM xN ah6 ai2 al3 al2 alY amP amG Nat.mul_one Nat.one_mul alU Nat.mul_zero amy ana am0 anh decide_true decide_false forall_const not_true_eq_false not_false_eq_true ne_eq alG amC ans anZ am8 amX dF aof anW am6 List.all_nil AV.one amr anD aml false_implies implies_true decide_eq_true_eq decide_eq_false_iff_not Nat.sub_zero Int.toNat_zero Int.toNat_natCast al4 Bool.not_not Bool.not_eq_false
theorem Rel.frzB{w0:World}{S0:SB}{E:Env}{w:World}(h:Rel w0 S0 E L w){i:Nat}{c:List AV}(hL:L[i]?=some (.cells c)):Rel w0 S0 E (L.set i (.cells (AV.frzL c))) w:=by
 have hi:i<L.length:=(alq.1 hL).1;have fix:∀(j:Nat) (k:Blk),(L.set i (.cells (AV.frzL c)))[j]?=some k->k.live=true->∃k',L[j]?=some k'/\k'.live=true:=λj k hk hl=>by rw[alO]at hk;split at hk;rename_i e;subst e;exact⟨_,hL,rfl⟩;exact⟨k,hk,hl⟩
 have fixs:∀(j n sz:Nat),(L.set i (.cells (AV.frzL c)))[j]?=some (.spare n sz)->L[j]?=some (.spare n sz):=λj n sz hk=>by rw[alO]at hk;split at hk;cases hk;exact hk
 refine⟨h.mem,λj k hk=>?_,λi hi=>h.fresh i (by simpa using hi),λi k c hk hl hc=>?_,λi j k k' c c' hi li hj lj=>?_,
  λi hi=>h.tkfresh i (by simpa using hi),λi n sz t d hi=>h.tkown i n sz t d (fixs i n sz hi),λi n sz t d j k' c' hi ht hd hj hl=>?_,
  λi n sz t d i' n' sz' t' d' hi ht hd hi'=>h.tkinj i n sz t d i' n' sz' t' d' (fixs i n sz hi) ht hd (fixs i' n' sz' hi'),h.frame,h.size,h.os,h.tape,h.output,h.glob,h.gsz⟩
 rw[alO]at hk;split at hk;rename_i e;subst e;cases hk;obtain⟨cl,cs,ty,fr,g1,g2,g3,g4,g5,g6⟩:=h.blk _ _ hL;refine⟨cl,cs,ty,fr,g1,g2,g3,by rw[AV.frzL_eq];simpa using g4,λj a ha=>?_,g6⟩;rw[AV.frzL_eq,amc,alS]at ha;obtain⟨b,hb,rfl⟩:=ha;obtain⟨v,h1,h2⟩:=g5 j b hb;exact⟨v,h1,VR.frz _ _ h2⟩;exact h.blk j k hk;obtain⟨k',h1,h2⟩:=fix i k hk hl;exact h.own i k' c h1 h2 hc;obtain⟨k1,h1,h2⟩:=fix i k hi li;obtain⟨k2,h3,h4⟩:=fix j k' hj lj;exact h.inj i j k1 k2 c c' h1 h2 h3 h4;obtain⟨k1,h1,h2⟩:=fix j k' hj hl;exact h.tkloc i n sz t d j k1 c' (fixs i n sz hi) ht hd h1 h2
theorem eY{f:FuncId}{args:List AV}{K:AV->List Blk->Prop}(h:ae P f (AV.frzL args) L K):ae P f args L K:=λw0 S0 E w vs hR hv =>
 h w0 S0 E w vs hR (VRL.frz _ _ hv)
end Go.Proofs.YtcmfcpjnhephaaaGreatDoor.Av
