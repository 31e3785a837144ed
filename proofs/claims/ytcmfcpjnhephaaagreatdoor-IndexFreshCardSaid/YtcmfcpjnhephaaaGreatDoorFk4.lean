/- Joined texts of the walk, made small by a program. -/
import Derived.Test.YtcmfcpjnhephaaaGreatDoorFk3
import Derived.Scope
import Derived.Test.YtcmfcpjnhephaaaGreatDoorProg
set_option linter.unusedSimpArgs false
set_option linter.unusedVariables false
namespace Go.Proofs.YtcmfcpjnhephaaaGreatDoor.Av
open Go
def EQv (P:Program) (o:ai) (T:Tm) (L:List Blk) (v:AV) (L2:List Blk):Prop :=
 match o.op with
 | .call f xs=>match eW T xs with
   | some args=>af P f args L fun av L'=>av=v/\L'=L2
   | none=>False
 | .callv f xs=>match evX T f,eW T xs with
   | some (.func g caps),some args=>af P g (args++caps) L fun av L'=>av=v/\L'=L2
   | _,_=>False
 | lo=>match ah T L lo with
   | some (c,av,L')=>c/\av=v/\L'=L2
   | none=>False
def EQ (P:Program) (o:ai) (T:Tm) (L:List Blk) (v:AV) (L2:List Blk):Prop :=
 match o.guard with
 | none=>EQv P o T L v L2
 | some (t,b)=>match ao T t with
   | some (.bool x)=>if x=b then EQv P o T L v L2 else v=.tup []/\L2=L
   | some (.tup [])=>v=.tup []/\L2=L
   | _=>False
theorem EQv.congr {P:Program} {o:ai} {T T':Tm} {L L2:List Blk} {v:AV} (h1:∀ t∈o.op.tmps,ao T t=ao T' t) (hv:EQv P o T L v L2):EQv P o T' L v L2:=by
 unfold EQv at hv ⊢;split at hv
 ·rename_i f xs e
  rw [e] at h1;rw [<- iR (l:=xs) h1];exact hv
 ·rename_i f xs e
  rw [e] at h1;simp only [LOp.tmps,ZD] at h1;rw [<- iR (l:=xs) (fun t ht=>h1 t (.inr ht)),<- az (x:=f) (fun t ht=>h1 t (.inl ht))];exact hv
 ·rw [<- IH h1];exact hv
theorem EQ.congr {P:Program} {o:ai} {T T':Tm} {L L2:List Blk} {v:AV} (h:∀ t∈o.reads,ao T t=ao T' t) (hq:EQ P o T L v L2):EQ P o T' L v L2:=by
 have h1:∀ t∈o.op.tmps,ao T t=ao T' t:=fun t ht=>h t (by simp [ai.reads,ht])
 unfold EQ at hq ⊢;split at hq
 ·exact hq.congr h1
 ·rename_i t b hg
  rw [<- h t (by simp [ai.reads,hg])];split at hq
  ·split at hq
   ·rename_i e;rw [if_pos e];exact hq.congr h1
   ·rename_i e;rw [if_neg e];exact hq
  ·exact hq
  ·exact hq.elim
theorem EQv.aop {P:Program} {o:ai} {T:Tm} {L L2:List Blk} {v:AV} (hq:EQv P o T L v L2):AOp P o (fun T' L'=>T'=cg o.dst v T/\L'=L2) T L:=by
 unfold EQv at hq;unfold AOp;split at hq
 ·rename_i f xs e
  simp only [e];split at hq
  ·rename_i args ha
   rw [ha];exact af.mono hq fun av L' ⟨h1,h2⟩=>⟨by rw [h1],h2⟩
  ·exact hq.elim
 ·rename_i f xs e
  simp only [e];split at hq
  ·rename_i g caps args hf ha
   rw [hf,ha];exact af.mono hq fun av L' ⟨h1,h2⟩=>⟨by rw [h1],h2⟩
  ·exact hq.elim
 ·rename_i lo h1 h2
  split at hq
  ·rename_i c av L' he
   have hres:Res (fun T' L'=>T'=cg o.dst v T/\L'=L2) o.dst T (ah T L o.op):=by
    rw [he];obtain ⟨hc,rfl,rfl⟩:=hq;exact ⟨hc,rfl,rfl⟩
   obtain ⟨d,lop,g⟩:=o;cases lop<;>first|exact hres|(simp [ah] at he)
  ·exact hq.elim
theorem EQ.aops {P:Program} {o:ai} {T:Tm} {L L2:List Blk} {v:AV} (hq:EQ P o T L v L2):iV P (fun T' L'=>T'=cg o.dst v T/\L'=L2) [o] T L:=by
 unfold EQ at hq;simp only [iV];split at hq
 ·rename_i hg
  simp only [hg];exact hq.aop
 ·rename_i t b hg
  simp only [hg];split at hq
  ·rename_i x hx
   rw [hx,De];split at hq
   ·rename_i e;rw [if_pos e];exact hq.aop
   ·rename_i e;rw [if_neg e];exact ⟨by rw [hq.1],hq.2.symm⟩
  ·rename_i hx
   rw [hx,RZ];exact ⟨by rw [hq.1],hq.2.symm⟩
  ·exact hq.elim
def done (es:List Nat) (listed:Array Bool):Nat:=es.countP fun e=>listed.getD e false
theorem Ko:∀ (es:List Nat) (f:Nat->Bool) (m:Nat),(∀ (j e:Nat),es[j]?=some e->f e=decide (j<m))->m<=es.length->es.countP f=m
 | [],f,m,_,hm=>by simp at hm;simp [hm]
 | e::es,f,0,h,_=>by
   refine acu.2 fun x hx=>?_
   obtain ⟨j,hj,rfl⟩:=aa1.1 hx;have:=h j _ (ZR hj);simp [this]
 | e::es,f,m+1,h,hm=>by
   rw [List.countP_cons_of_pos (by have:=h 0 e rfl;simpa using this)];rw [Ko es f m (fun j x hx=>by have:=h (j+1) x (by simpa using hx);rw [this];congr 1;simp) (by simpa using hm)]
theorem Ka:∀ (es:List Nat) (f:Nat->Bool),(∀ (j j' e e':Nat),es[j]?=some e->es[j']?=some e'->j<j'->f e'=true->f e=true)->∀ (j e:Nat),es[j]?=some e->f e=decide (j<es.countP f)
 | [],f,_,j,e,h=>by simp at h
 | x::es,f,hp,j,e,h=>by
   have ih:=Ka es f fun a b y z h1 h2 h3=>hp (a+1) (b+1) y z (by simpa using h1) (by simpa using h2) (by omega)
   by_cases hx:f x=true
   ·rw [List.countP_cons_of_pos hx];cases j with
    | zero=>simp at h;subst h;simp [hx]
    | succ j=>rw [ih j e (by simpa using h)];congr 1;simp
   ·have all:∀ y∈es,f y=false:=fun y hy=>by
     obtain ⟨k,hk,rfl⟩:=aa1.1 hy;rcases hf:f es[k] with _|_
     ·rfl
     ·exact absurd (hp 0 (k+1) x es[k] rfl (by simp) (by omega) hf) hx
    rw [List.countP_cons_of_neg hx,acu.2 (fun y hy=>by simp [all y hy])];simp only [Nat.not_lt_zero,decide_false];cases j with
    | zero=>simp at h;subst h;simpa using hx
    | succ j=>exact all e (aad (by simpa using h))
section
variable {P:Program} {r:Option Nat} {w0:World} {S0:SB} {N:Nat} {own:Nat->Nat} {ops:Array Oper} {L:List Blk}
theorem Rb {los:List ai} {n:Nat} (hlow:bT P N own ops (List.range ops.size)=some los) (hok:CM ops los n=true) {qs ts:List ai} (hsplit:los=qs++ts) (hn:qs.length=n) {es:List Nat} {Ms:Nat->List Blk} (hes:∀ e∈es,e<qs.length)
  (hch:∀ (j j' e e':Nat),es[j]?=some e->es[j']?=some e'->j<j'->((kW ops.toList []).getD e' 0).testBit e=true)
  {K:Tm->List Blk->Prop} {T:Tm} {Q:Exit->Act->World->Prop} {E0:Env} {tr:List AV} (htr:tr.length=qs.length)
  (hq:∀ (i:Nat) (o:ai) (v:AV),qs[i]?=some o->tr[i]?=some v->(∃ m,es[m]?=some i/\EQ P o (TL T qs tr 0 fun j=>decide (j<i)) (Ms m) v (Ms (m+1))) \/
   (i ∉ es/\∀ m,m<=es.length->(∀ (j e:Nat),es[j]?=some e->j<m->((kW ops.toList []).getD e 0).testBit i=false)->(∀ (j e:Nat),es[j]?=some e->m<=j->((kW ops.toList []).getD i 0).testBit e=false)->AQ P o (TL T qs tr 0 fun j=>decide (j<i)) (Ms m) v))
  (hK:iV P K ts (TL T qs tr 0 fun _=>true) (Ms es.length))
  (hQ:∀ E' T' L' a' w',E0.le E'->K T' L'->St w0 S0 N E' T' L' a' w'->Q .normal a' w') :
  ∀ (fuel:Nat) (listed:Array Bool) (a:Act) (w:World) (E:Env),listed.size=ops.size->listed.toList.count false=fuel->JI ops listed->E0.le E ->
   (∀ i,qs.length<=i->listed.getD i false=false)->St w0 S0 N E (TL T qs tr 0 fun j=>listed.getD j false) (Ms (done es listed)) a w->wpAnyIn (dW r) 0 P .any ops Q fuel listed a w:=by
 simp only [CM,ZE] at hok;generalize htbl:kW ops.toList []=tbl at hok hch hq;obtain ⟨⟨⟨⟨hdist,htied⟩,hahead⟩,hfix⟩,hchain⟩:=hok;have hget:=rq hlow;have hlen:los.length=ops.size:=by simpa using hget.1
 have hlo:∀ i,i<ops.size->∃ lo,los[i]?=some lo/\iY P N own ops i=some lo:=fun i hi=>hget.2 i i (by simp [hi])
 have hD:P9 qs:=by
  have:=LZ hdist;rw [hsplit] at this;have sub:∀ (qs ts:List ai),P9 (qs++ts)->P9 qs:=by
   intro qs
   induction qs with
   | nil=>intro _ _;trivial
   | cons q qs ih=>intro ts h;exact ⟨fun p hp=>h.1 p (by simp [hp]),ih ts h.2⟩
  exact sub _ _ this
 have hqlen:qs.length+ts.length=ops.size:=by rw [<- hlen,hsplit];simp
 have allListed:∀ listed:Array Bool,listed.size=ops.size->Region.ready .any ops listed=[]->∀ i,i<ops.size->listed.getD i false=true:=by
  intro listed hsz hr i
  induction i using Nat.strongRecOn with
  | _ i ih =>
    intro hi;rcases hb:listed.getD i false with _|_
    ·exfalso;have:i∈Region.ready .any ops listed:=by
      refine mem_ready.2 ⟨?_,ops[i],aac hi,fun e he hbd=>?_⟩
      ·have hi':i<listed.size:=by omega
       simp [aar,hi'] at hb ⊢;exact hb
      ·have:=ZJ.1 hahead (ops[i],i) (by
        rw [abG];simp [hi])
       have:=ZJ.1 this e (by simpa using he);simp only [hbd,abh,aa2,decide_eq_true_eq] at this;exact ih e.on this (by omega)
     rw [hr] at this;cases this
    ·rfl
 have getD_eq:∀ (listed:Array Bool) (i:Nat),listed.size=ops.size->i<ops.size->listed.getD i true=listed.getD i false:=fun listed i h1 h2=>by
  have:i<listed.size:=by omega
  simp [aar,this]
 have finish:∀ (listed:Array Bool) (a:Act) (w:World) (E:Env) (fuel:Nat),listed.size=ops.size->listed.toList.count false=fuel->JI ops listed->E0.le E->(∀ i,qs.length<=i->listed.getD i false=false)->St w0 S0 N E (TL T qs tr 0 fun j=>listed.getD j false) (Ms (done es listed)) a w ->
   (∀ i,i<qs.length->listed.getD i false=true)->wpAnyIn (dW r) 0 P .any ops Q fuel listed a w:=by
  intro listed a w E fuel hsz hcnt hcl hE hnot hst hall;have hTL:TL T qs tr 0 (fun j=>listed.getD j false)=TL T qs tr 0 fun _=>true:=MC fun j hj=>by
   simp only [aaN];exact hall j hj
  have hL:Ms (done es listed)=Ms es.length:=by
   congr 1
   exact List.countP_eq_length.2 fun e he=>hall e (hes e he)
  rw [hTL,hL] at hst;have hdrop:los.drop qs.length=ts:=by rw [hsplit];simp
  have hfuel:fuel=ts.length:=by
   rw [<- hcnt,<- Nat.add_left_cancel_iff (n:=qs.length),hqlen,<- hsz];have e:listed.toList=List.replicate qs.length true++List.replicate (listed.size - qs.length) false:=by
    apply aaZ;intro i;rcases ZT i qs.length with h1|h1
    ·have:=hall i h1;have hlt:i<listed.size:=by omega
     rw [ZM (by simpa using h1)];simp [aar,hlt] at this;simp [hlt,h1,this]
    ·rw [Z5 (by simpa using h1)];have:=hnot i h1;rcases ZT i listed.size with h2|h2
     ·simp [aar,h2] at this;simp only [List.length_replicate];rw [List.getElem?_replicate];rw [if_pos (by omega)];simp [h2,this]
     ·rw [aaM (by simpa using h2),aaM (by simp;omega)]
   rw [e];simp [List.count_append,List.count_replicate];omega
  rw [hfuel];exact Qj hlow hahead hfix hchain hQ ts qs.length listed _ _ a w E (by omega) hqlen hdrop hsz (fun i hi=>by
   rcases ZT i qs.length with h1|h1
   ·rw [hall i h1];simpa using h1
   ·rw [hnot i h1];simpa using h1) hcl hE hst hK
 intro fuel
 induction fuel with
 | zero =>
   intro listed a w E hsz hcnt hcl hE hnot hst;have hr:Region.ready .any ops listed=[]:=by
    refine act.2 fun i hi=>?_
    obtain ⟨h1,o,ho,_⟩:=mem_ready.1 hi;have hi':i<ops.size:=(aaE.1 ho).1;have:false∈listed.toList:=by
     have hlt:i<listed.size:=by omega
     simp [aar,hlt] at h1;rw [<- h1];simp
    rw [List.count_eq_zero] at hcnt;exact hcnt this
   exact finish listed a w E 0 hsz hcnt hcl hE hnot hst fun i hi=>allListed listed hsz hr i (by omega)
 | succ fuel ih =>
   intro listed a w E hsz hcnt hcl hE hnot hst;by_cases hall:∀ i,i<qs.length->listed.getD i false=true
   ·exact finish listed a w E _ hsz hcnt hcl hE hnot hst hall
   refine ⟨fun hr=>absurd (fun i hi=>allListed listed hsz hr i (by omega)) hall,fun i hi=>?_⟩;obtain ⟨hun,o,ho,hedges⟩:=mem_ready.1 hi;have hi':i<ops.size:=(aaE.1 ho).1;have hun':listed.getD i false=false:=by rw [<- getD_eq listed i hsz hi'];exact hun
   obtain ⟨lo,hlo1,hlo2⟩:=hlo i hi';have hready:∀ o',ops[i]?=some o'->∀ e∈o'.after,Region.binds .any e=true->listed.getD e.on false=true:=fun o' ho'=>by
    rw [ho] at ho';cases ho';exact hedges
   have hset:∀ k,(listed.setIfInBounds i true).getD k false=if k=i then true else listed.getD k false:=fun k=>by
    by_cases e:k=i
    ·subst e;have:k<listed.size:=by omega
     simp [aar,this]
    ·rw [if_neg e];exact getD_set_ne false (Ne.symm e)
   have hcnt':(listed.setIfInBounds i true).toList.count false=fuel:=by
    have hlt:i<listed.size:=by omega
    have:=NQ listed.toList i (by
     simp [aar,hlt] at hun';simp [hlt,hun'])
    rw [Array.toList_setIfInBounds];omega
   have hcl':JI ops (listed.setIfInBounds i true):=fun k o' hk ho' e he hb=>by
    rw [hset] at hk ⊢;by_cases e1:e.on=i
    ·rw [if_pos e1]
    ·rw [if_neg e1];by_cases e2:k=i
     ·subst e2;exact hready o' ho' e he hb
     ·rw [if_neg e2] at hk;exact hcl k o' hk ho' e he hb
   rcases ZT i qs.length with hiq|hiq
   ·
    have hqi:qs[i]?=some lo:=by
     rw [hsplit,ZM hiq] at hlo1;exact hlo1
    have hti:i<tr.length:=by omega
    have agree:∀ t∈lo.reads,ao (TL T qs tr 0 fun j=>decide (j<i)) t=ao (TL T qs tr 0 fun j=>listed.getD j false) t:=by
     intro t ht;by_cases hw:∃ (j:Nat) (p:ai),qs[j]?=some p/\p.dst=some t
     ·obtain ⟨j,p,hp,hd⟩:=hw;have hjq:j<qs.length:=(Zz.1 hp).1;rw [OQ hD htr hp hd,OQ hD htr hp hd];have hlj:los[j]?=some p:=by rw [hsplit,ZM hjq];exact hp
      have:=ZJ.1 htied (lo,i) (by rw [abG];simpa using hlo1);have:=ZJ.1 this t ht;have:=ZJ.1 this (p,j) (by rw [abG];simpa using hlj);simp only [hd,beq_self_eq_true,abh,aa2,aaa,aax] at this;rcases this with h1|h1
      ·have e1:=OK hahead hfix _ _ (by omega) h1;have e2:=dT hahead hfix hcl i j hi' hready h1;simp only [decide_eq_true_eq,if_pos e1,if_pos e2]
      ·have e1:=OK hahead hfix _ _ (by omega) h1;have e2:listed.getD j false=false:=by
        rcases hb:listed.getD j false with _|_
        ·rfl
        ·have:=dT hahead hfix hcl j i (by omega) (fun o' ho'=>hcl j o' hb ho') h1;rw [hun'] at this;cases this
       simp only [decide_eq_true_eq,if_neg (show ¬ j<i by omega),e2,ZP,if_false]
     ·have hno:∀ (j:Nat) (p:ai),qs[j]?=some p->p.dst≠some t:=fun j p hp hd=>hw ⟨j,p,hp,hd⟩
      rw [OR hno,OR hno]
    have hTnew:∀ (t:Nat) (v:AV),ao (TL T qs tr 0 fun j=>(listed.setIfInBounds i true).getD j false) t=some v->ao (cg lo.dst tr[i] (TL T qs tr 0 fun j=>listed.getD j false)) t=some v:=by
     intro t v hv;by_cases hw:∃ (j:Nat) (p:ai),qs[j]?=some p/\p.dst=some t
     ·obtain ⟨j,p,hp,hd⟩:=hw;rw [OQ hD htr hp hd] at hv;by_cases e:j=i
      ·subst e;rw [hqi] at hp;cases hp;rw [hd,Iv];rw [if_pos (by rw [hset,if_pos rfl]),ZR hti] at hv;exact hv
      ·have hne:lo.dst≠some t:=fun e'=>e (Dg hD hp hqi hd e')
       rw [ru hne,OQ hD htr hp hd];simp only [hset,if_neg e] at hv;exact hv
     ·have hno:∀ (j:Nat) (p:ai),qs[j]?=some p->p.dst≠some t:=fun j p hp hd=>hw ⟨j,p,hp,hd⟩
      rw [OR hno] at hv;rw [ru (hno i lo hqi),OR hno];exact hv
    have hnot':∀ k,qs.length<=k->(listed.setIfInBounds i true).getD k false=false:=fun k hk=>by
     rw [hset,if_neg (by omega)];exact hnot k hk
    have hpre:∀ j e,es[j]?=some e->listed.getD e false=decide (j<done es listed):=Ka es _ fun j j' e e' h1 h2 h3 h4=>by
     have hlt:e'<ops.size:=by have:=hes e' (aad h2);omega
     exact dT hahead hfix hcl e' e hlt (fun o' ho'=>hcl e' o' h4 ho') (hch j j' e e' h1 h2 h3)
    have hdl:done es listed<=es.length:=List.countP_le_length;rcases hq i lo tr[i] hqi (ZR hti) with ⟨m,g1,g2⟩|⟨g1,g2⟩
    ·have hm:done es listed=m:=by
      have h1:=hpre m i g1;rw [hun'] at h1;have h2:¬ m<done es listed:=by simpa using h1.symm
      rcases ZT (done es listed) m with h3|h3
      ·obtain ⟨e,he⟩:∃ e,es[done es listed]?=some e:=⟨_,ZR (by have:=(Zz.1 g1).1;omega)⟩;have h4:=hpre _ e he;rw [dT hahead hfix hcl i e hi' hready (hch _ _ e i he g1 h3)] at h4;simp at h4
      ·omega
     have hm':done es (listed.setIfInBounds i true)=m+1:=by
      refine Ko es _ (m+1) (fun j e he=>?_) (by have:=(Zz.1 g1).1;omega);rw [hset];by_cases e1:e=i
      ·subst e1;rw [if_pos rfl];rcases Nat.lt_trichotomy j m with h3|h3|h3
       ·simp;omega
       ·simp;omega
       ·have:=OK hahead hfix e e hi' (hch m j e e g1 he h3);omega
      ·rw [if_neg e1,hpre j e he,hm];have:j≠m:=fun e2=>by subst e2;rw [g1] at he;cases he;exact e1 rfl
       congr 1;simp only [eq_iff_iff];omega
     rw [hm] at hst;refine Mz hlo2 hst (EQ.aops (EQ.congr agree g2)) fun E' T' L' a' w' hle ⟨e1,e2⟩ hst'=>ih _ a' w' E' (by simpa using hsz) hcnt' hcl' (hE.trans hle) hnot' ?_
     subst e1;subst e2;rw [hm'];exact hst'.weak hTnew rfl fun _ _ e=>.inr e
    ·have hL:done es (listed.setIfInBounds i true)=done es listed:=by
      unfold done;refine List.countP_congr fun e he=>?_
      rw [hset,if_neg (fun e1:e=i=>g1 (e1 ▸ he))]
     have hAQ:=g2 (done es listed) hdl (fun j e he hj=>by
      rcases hb:(tbl.getD e 0).testBit i with _|_
      ·rfl
      ·have h1:=hpre j e he;rw [decide_eq_true hj] at h1;have hlt:e<ops.size:=by have:=hes e (aad he);omega
       have:=dT hahead hfix hcl e i hlt (fun o' ho'=>hcl e o' h1 ho') hb;rw [hun'] at this;cases this) (fun j e he hj=>by
      rcases hb:(tbl.getD i 0).testBit e with _|_
      ·rfl
      ·have h1:=hpre j e he;rw [dT hahead hfix hcl i e hi' hready hb] at h1;have:=of_decide_eq_true h1.symm;omega)
     refine V0 hlo2 hst (hAQ.congr agree) fun E' a' w' hle hst'=>ih _ a' w' E' (by simpa using hsz) hcnt' hcl' (hE.trans hle) hnot' ?_
     rw [hL];exact hst'.weak hTnew rfl fun _ _ e=>.inr e
   ·
    refine absurd (fun j hj=>?_) hall;have h1:=ZJ.1 hchain i (by simpa using hi');simp only [aaa,decide_eq_true_eq] at h1;rcases h1 with h2|h2
    ·omega
    ·have h3:=ZJ.1 h2 j (by simp;omega);exact dT hahead hfix hcl i j hi' hready h3
end
inductive Kd where
 | pure
 | read (n f:Nat)
 | eff
 deriving Inhabited,DecidableEq
abbrev kQ:=Nat×ai×Tm×AV
def vU (P:Program) (L:List Blk):List kQ->Prop
 | []=>True
 | (_,o,T,v)::h=>AQ P o T L v/\vU P L h
def GD:List kQ->List kQ
 | []=>[]
 | (0,_)::h=>GD h
 | (1,_)::h=>GD h
 | (n+2,y)::h=>(n+1,y)::GD h
def QK (f:Nat) (o:ai) (T:Tm) (v:AV) (H:List kQ):List kQ :=
 match f with
 | 0=>H
 | f+1=>(f+1,o,T,v)::H
def AG (P:Program) (K:Tm->List Blk->Prop):List (ai×Kd)->List (List Blk)->List kQ->Tm->Prop
 | [],L::_,_,T=>K T L
 | (o,.pure)::r,L::Ls,H,T=>∃ v,AQ P o T L v/\AG P K r (L::Ls) H (cg o.dst v T)
 | (o,.read n f)::r,L::Ls,H,T=>∃ v,(∀ L'∈(L::Ls).take (n+1),AQ P o T L' v)/\AG P K r (L::Ls) (QK f o T v H) (cg o.dst v T)
 | (o,.eff)::r,L::Ls,H,T=>∃ v L2,EQ P o T L v L2/\vU P L2 H/\AG P K r (L2::L::Ls) (GD H) (cg o.dst v T)
 | _,[],_,_=>False
def iO:List (ai×Kd)->Nat
 | []=>0
 | (_,.eff)::r=>iO r+1
 | _::r=>iO r
def mem (Ns:List (List Blk)) (m:Nat):List Blk:=Ns.reverse.getD m []
theorem rn {X Ls:List (List Blk)} {m:Nat} (h:m<Ls.length):mem (X++Ls) m=Ls.getD (Ls.length - 1 - m) []:=by
 simp only [mem,List.reverse_append,Z2];rw [ZM (by simpa using h),List.getElem?_reverse h]
theorem N0 {P:Program} {L:List Blk}:∀ {H:List kQ},vU P L H->∀ y∈H,AQ P y.2.1 y.2.2.1 L y.2.2.2
 | [],_,y,hy=>by cases hy
 | (f,o,T,v)::h,hr,y,hy=>by
   rcases ZF.1 hy with rfl|hy
   ·exact hr.1
   ·exact N0 hr.2 y hy
theorem II:∀ {H:List kQ} {y:kQ},y∈H->1<y.1->(y.1 - 1,y.2)∈GD H
 | [],y,hy,_=>by cases hy
 | (0,z)::h,y,hy,h1=>by
   rcases ZF.1 hy with rfl|hy
   ·simp at h1
   ·show (y.1 - 1,y.2)∈GD h
    exact II hy h1
 | (1,z)::h,y,hy,h1=>by
   rcases ZF.1 hy with rfl|hy
   ·simp at h1
   ·show (y.1 - 1,y.2)∈GD h
    exact II hy h1
 | (n+2,z)::h,y,hy,h1=>by
   rcases ZF.1 hy with rfl|hy
   ·simp [GD]
   ·exact aa7 _ (II hy h1)
def RX (P:Program) (o:ai) (T:Tm) (Ns:List (List Blk)) (v:AV) (c:Nat):Kd->Prop
 | .pure=>AQ P o T (mem Ns c) v
 | .read n f=>∀ m,c - n<=m->m<=c+f->m<Ns.length->AQ P o T (mem Ns m) v
 | .eff=>EQ P o T (mem Ns c) v (mem Ns (c+1))
theorem Wo {P:Program} {K:Tm->List Blk->Prop}:∀ (qk:List (ai×Kd)) (Ls:List (List Blk)) (H:List kQ) (T:Tm) (k:Nat),AG P K qk Ls H T ->
  ∃ (tr:List AV) (X:List (List Blk)),tr.length=qk.length/\X.length=iO qk /\
   (∀ y∈H,∀ m,Ls.length<=m->m<Ls.length+y.1->m<(X++Ls).length->AQ P y.2.1 y.2.2.1 (mem (X++Ls) m) y.2.2.2) /\
   (∀ i o kd v,qk[i]?=some (o,kd)->tr[i]?=some v->RX P o (TL T (qk.map (·.1)) tr k fun j=>decide (j<k+i)) (X++Ls) v (Ls.length - 1+iO (qk.take i)) kd) /\
   K (TL T (qk.map (·.1)) tr k fun _=>true) (mem (X++Ls) ((X++Ls).length - 1)):=by
 intro qk
 induction qk with
 | nil =>
   intro Ls H T k h;cases Ls with
   | nil=>exact h.elim
   | cons L Ls =>
     refine ⟨[],[],rfl,rfl,fun y _ m h1 _ h3=>?_,fun i o kd v hi=>by simp at hi,?_⟩
     ·simp only [aab] at h3;omega
     ·rw [aab,<- aab (L::Ls),rn (by simp)];have h':K T L:=h;simpa [TL] using h'
 | cons q qk ih =>
   intro Ls H T k h;cases Ls with
   | nil=>rcases q with ⟨o,_|_|_⟩<;>exact h.elim
   | cons L Ls =>
     obtain ⟨o,kd⟩:=q;have tl0:∀ (v:AV) (tr:List AV),TL T (((o,kd)::qk).map (·.1)) (v::tr) k (fun j=>decide (j<k+0))=T:=fun v tr=>by
      have e:TL T (((o,kd)::qk).map (·.1)) (v::tr) k (fun j=>decide (j<k+0))=TL T (((o,kd)::qk).map (·.1)) (v::tr) k (fun _=>false):=MC fun j _=>by simp
      rw [e];exact P2 _ _ _ _
     have tls:∀ (v:AV) (tr:List AV) (i:Nat),TL T (((o,kd)::qk).map (·.1)) (v::tr) k (fun j=>decide (j<k+(i+1)))=TL (cg o.dst v T) (qk.map (·.1)) tr (k+1) (fun j=>decide (j<k+1+i)):=fun v tr i=>by
      simp only [ZK,TL];rw [if_pos (by simp)];exact MC fun j _=>by congr 1;simp;omega
     have tlt:∀ (v:AV) (tr:List AV),TL T (((o,kd)::qk).map (·.1)) (v::tr) k (fun _=>true)=TL (cg o.dst v T) (qk.map (·.1)) tr (k+1) (fun _=>true):=fun v tr=>by
      simp only [ZK,TL,if_true]
     cases kd with
     | pure =>
       obtain ⟨v,h1,h2⟩:=h;obtain ⟨tr,X,g1,g2,g3,g4,g5⟩:=ih _ _ _ (k+1) h2;refine ⟨v::tr,X,by simp [g1],g2,g3,fun i p kd u hi hu=>?_,by rw [tlt];exact g5⟩;cases i with
       | zero =>
         simp only [aao,ZB,ZL] at hi hu;obtain ⟨rfl,rfl⟩:=hi;subst hu;rw [tl0];simp only [aaX,iO,aaP,RX];rw [rn (by simp)];simpa using h1
       | succ i =>
         rw [tls];exact g4 i p kd u (by simpa using hi) (by simpa using hu)
     | read n f =>
       obtain ⟨v,h1,h2⟩:=h;obtain ⟨tr,X,g1,g2,g3,g4,g5⟩:=ih _ _ _ (k+1) h2;have hk:∀ y∈H,y∈QK f o T v H:=fun y hy=>by
        unfold QK;split
        ·exact hy
        ·exact aa7 _ hy
       refine ⟨v::tr,X,by simp [g1],g2,fun y hy=>g3 y (hk y hy),fun i p kd u hi hu=>?_,by rw [tlt];exact g5⟩;cases i with
       | zero =>
         simp only [aao,ZB,ZL] at hi hu;obtain ⟨rfl,rfl⟩:=hi;subst hu;rw [tl0];simp only [aaX,iO,aaP,RX];intro m m1 m2 m3;rcases ZT m (L::Ls).length with m4|m4
         ·rw [rn m4];refine h1 _ ?_;have m5:(L::Ls).length - 1 - m<(L::Ls).length:=by omega
          rw [Z2,ZR m5,aaA];rw [List.mem_take_iff_getElem];refine ⟨(L::Ls).length - 1 - m,?_,rfl⟩;simp only [ZN] at m1 m4 m5 ⊢;omega
         ·cases f with
          | zero=>simp only [ZN] at m2 m4;omega
          | succ f=>exact g3 (f+1,o,T,v) (by simp [QK]) m m4 (by simp only [ZN] at m2 m4 ⊢;omega) m3
       | succ i =>
         rw [tls];exact g4 i p kd u (by simpa using hi) (by simpa using hu)
     | eff =>
       obtain ⟨v,L2,h1,hr,h2⟩:=h;obtain ⟨tr,X,g1,g2,g3,g4,g5⟩:=ih _ _ _ (k+1) h2;have e:(X++[L2])++(L::Ls)=X++(L2::L::Ls):=by simp
       refine ⟨v::tr,X++[L2],by simp [g1],by simp [iO,g2],fun y hy m m1 m2 m3=>?_,fun i p kd u hi hu=>?_,by rw [tlt,e];exact g5⟩
       ·rw [e] at m3 ⊢;rcases Nat.eq_or_lt_of_le m1 with m4|m4
        ·subst m4;rw [rn (by simp)];have:=N0 hr y hy;simpa using this
        ·exact g3 _ (II hy (by omega)) m (by simp only [ZN] at m4 ⊢;omega) (by simp only [ZN] at m2 ⊢;omega) m3
       rw [e];cases i with
       | zero =>
         simp only [aao,ZB,ZL] at hi hu;obtain ⟨rfl,rfl⟩:=hi;subst hu;rw [tl0];simp only [aaX,iO,aaP,RX];rw [rn (by simp only [ZN];omega),rn (by simp only [ZN];omega)];simpa using h1
       | succ i =>
         rw [tls];have:=g4 i p kd u (by simpa using hi) (by simpa using hu);have e2:(L2::L::Ls).length - 1+iO (qk.take i)=(L::Ls).length - 1+iO (((o,Kd.eff)::qk).take (i+1)):=by
          simp only [ZN,aa9,iO];omega
         rw [e2] at this;exact this
def LOp.pureB:LOp->Bool
 | .mv _ | .pick .. | .build .. | .bin .. | .un .. | .faddr .. | .extract .. | .mkfn .. | .conv .. | .sconv .. | .eqk .. | .eq2 ..=>true
 | _=>false
theorem WV {P:Program} {o:ai} {T:Tm} {L L':List Blk} {v:AV} (hp:o.op.pureB=true) (h:AQ P o T L v):AQ P o T L' v:=by
 have key:∀ {c:Prop} {av:AV} {L2:List Blk},ah T L o.op=some (c,av,L2)->ah T L' o.op=some (c,av,L'):=fun {c av L2} he=>by
  have e:ah T L' o.op=(ah T L o.op).map fun x=>(x.1,x.2.1,L'):=by
   obtain ⟨d,op,g⟩:=o;cases op<;>simp only [LOp.pureB,ZP] at hp<;>simp only [ah]<;>(repeat' split)<;>simp [Option.map_map,abw]
  rw [e,he];rfl
 have hv:AQv P o T L v->AQv P o T L' v:=fun hv=>by
  unfold AQv at hv ⊢;obtain ⟨d,op,g⟩:=o;cases op<;>simp only [LOp.pureB,ZP] at hp<;>simp only at hv ⊢<;>(
   split at hv
   ·rename_i c av L2 he
    rw [key he];exact ⟨hv.1,hv.2.1,rfl⟩
   ·exact hv.elim)
 unfold AQ at h ⊢;split at h
 ·exact hv h
 ·split at h
  ·split at h
   ·rename_i e;rw [if_pos e];exact hv h
   ·rename_i e;rw [if_neg e];exact h
  ·exact h
  ·exact h.elim
def cX:List (ai×Kd)->Nat->List Nat
 | [],_=>[]
 | (_,.eff)::r,k=>k::cX r (k+1)
 | _::r,k=>cX r (k+1)
theorem iZ:∀ (qk:List (ai×Kd)) (k:Nat),(cX qk k).length=iO qk
 | [],_=>rfl
 | (_,.pure)::r,k=>iZ r (k+1)
 | (_,.read _ _)::r,k=>iZ r (k+1)
 | (_,.eff)::r,k=>by simp [cX,iO,iZ r (k+1)]
theorem LX:∀ (qk:List (ai×Kd)) (k i:Nat) (o:ai),qk[i]?=some (o,.eff)->(cX qk k)[iO (qk.take i)]?=some (k+i)
 | [],_,i,o,h=>by simp at h
 | (p,kd)::r,k,0,o,h=>by
   simp only [aao,ZB,ZL] at h;obtain ⟨rfl,rfl⟩:=h;simp [cX,iO]
 | (p,kd)::r,k,i+1,o,h=>by
   have ih:=LX r (k+1) i o (by simpa using h);rw [show k+1+i=k+(i+1) by omega] at ih;cases kd<;>simpa [cX,iO] using ih
theorem LW:∀ (qk:List (ai×Kd)) (k e:Nat),e∈cX qk k->∃ i o,e=k+i/\qk[i]?=some (o,.eff)
 | [],_,e,h=>by simp [cX] at h
 | (p,kd)::r,k,e,h=>by
   have go:e∈cX r (k+1)->∃ i o,e=k+i/\((p,kd)::r)[i]?=some (o,.eff):=fun h'=>by
    obtain ⟨i,o,rfl,h2⟩:=LW r (k+1) e h';exact ⟨i+1,o,by omega,by simpa using h2⟩
   cases kd with
   | pure=>exact go h
   | read _ _=>exact go h
   | eff =>
     rcases ZF.1 h with rfl|h
     ·exact ⟨0,p,rfl,rfl⟩
     ·exact go h
def Ja (tbl:List Nat) (qk:List (ai×Kd)):Bool :=
 let es:=cX qk 0
 ((List.range es.length).all fun j'=>(List.range j').all fun j=>(tbl.getD (es.getD j' 0) 0).testBit (es.getD j 0)) &&
 qk.zipIdx.all fun ((o,kd),i)=>match kd with
  | .pure=>o.op.pureB
  | .eff=>true
  | .read n f=>let c:=iO (qk.take i)
    (List.range es.length).all fun j=>(!decide (j<c - n) || (tbl.getD i 0).testBit (es.getD j 0)) && (!decide (c+f<=j) || (tbl.getD (es.getD j 0) 0).testBit i)
section
variable {P:Program} {r:Option Nat} {w0:World} {S0:SB} {N:Nat} {own:Nat->Nat} {ops:Array Oper} {L:List Blk}
theorem PZ {los:List ai} {n:Nat} (hlow:bT P N own ops (List.range ops.size)=some los) (hok:CM ops los n=true) {qk:List (ai×Kd)} {ts:List ai} (hsplit:los=qk.map (·.1)++ts) (hn:qk.length=n)
  (hk:Ja (kW ops.toList []) qk=true) {K:Tm->List Blk->Prop} {T:Tm} {Q:Exit->Act->World->Prop} {E0:Env} (h:AG P (iV P K ts) qk [L] [] T)
  (hQ:∀ E' T' L' a' w',E0.le E'->K T' L'->St w0 S0 N E' T' L' a' w'->Q .normal a' w') (a:Act) (w:World) (E:Env) (hE:E0.le E) (hst:St w0 S0 N E T L a w) :
  wpAnyIn (dW r) 0 P .any ops Q ops.size (Array.replicate ops.size false) a w:=by
 obtain ⟨tr,X,g1,g2,-,g4,g5⟩:=Wo qk [L] [] T 0 h;have rep0:∀ i,(Array.replicate ops.size false).getD i false=false:=fun i=>by
  rw [aar,Array.getElem?_replicate];split<;>rfl
 simp only [Ja,ZE] at hk;obtain ⟨hk1,hk2⟩:=hk;have hesl:=iZ qk 0;have hlt:∀ e∈cX qk 0,∃ o,qk[e]?=some (o,.eff):=fun e he=>by
  obtain ⟨i,o,rfl,h2⟩:=LW qk 0 e he;exact ⟨o,by simpa using h2⟩
 have hlen:(X++[L]).length=iO qk+1:=by simp [g2]
 refine Rb (T:=T) (K:=K) (qs:=qk.map (·.1)) (ts:=ts) (tr:=tr) (es:=cX qk 0) (Ms:=mem (X++[L])) hlow hok hsplit (by simpa using hn) (fun e he=>?_) (fun j j' e e' h1 h2 h3=>?_) (by simpa using g1) (fun i o v ho hv=>?_) ?_ hQ ops.size _ a w E (by simp) (by simp [List.count_replicate]) (fun i o hi=>by rw [rep0] at hi;cases hi) hE (fun i _=>rep0 i) ?_
 ·obtain ⟨o,ho⟩:=hlt e he;simpa using (Zz.1 ho).1
 ·have l2:j'<(cX qk 0).length:=(Zz.1 h2).1;have:=ZJ.1 (ZJ.1 hk1 j' (by simpa using l2)) j (by simpa using h3);have q1:(cX qk 0).getD j 0=e:=by rw [Z2,h1];rfl
  have q2:(cX qk 0).getD j' 0=e':=by rw [Z2,h2];rfl
  rw [q1,q2] at this;exact this
 ·rw [aag,ZZ] at ho;obtain ⟨⟨o',kd⟩,ho,rfl⟩:=ho;have hs:=g4 i o' kd v ho hv;simp only [acv,aaY,aaN] at hs;have hkk:=ZJ.1 hk2 ((o',kd),i) (by rw [abG];simpa using ho);have notin:kd ≠ .eff->i ∉ cX qk 0:=fun hne he=>by
   obtain ⟨o2,h2⟩:=hlt i he;rw [ho] at h2;cases h2;exact hne rfl
  cases kd with
  | eff =>
    refine .inl ⟨iO (qk.take i),?_,hs⟩;simpa using LX qk 0 i o' ho
  | pure=>exact .inr ⟨notin (by simp),fun m _ _ _=>WV (by simpa using hkk) hs⟩
  | read n f =>
    refine .inr ⟨notin (by simp),fun m hm p1 p2=>?_⟩;simp only at hkk;have chk:=fun j (hj:j<(cX qk 0).length)=>ZJ.1 hkk j (by simpa using hj)
    have cle:iO (qk.take i)<=(cX qk 0).length:=by
     have:∀ (l:List (ai×Kd)) (i:Nat),iO (l.take i)<=iO l:=by
      intro l
      induction l with
      | nil=>intro i;simp
      | cons q l ih =>
        intro i;cases i with
        | zero=>simp [iO]
        | succ i=>obtain ⟨o,_|_|_⟩:=q<;>simp only [aa9,iO]<;>have:=ih i<;>omega
     rw [hesl];exact this qk i
    refine hs m ?_ ?_ (by rw [hlen];omega)
    ·rcases ZT m (iO (qk.take i) - n) with hlt2|hge
     ·have hme:m<(cX qk 0).length:=by omega
      have:=chk m hme;simp only [ZE,aaa,Z8,decide_eq_false_iff_not] at this;have e1:=p2 m _ (ZR hme) (ZA _);rcases this.1 with c|c
      ·exact absurd hlt2 c
      ·rw [Z2 (l:=cX qk 0),ZR hme] at c;simp only [aaA] at c;rw [e1] at c;cases c
     ·exact hge
    ·rcases ZT (iO (qk.take i)+f) m with hlt2|hge
     ·have hme:iO (qk.take i)+f<(cX qk 0).length:=by omega
      have:=chk _ hme;simp only [ZE,aaa,Z8,decide_eq_false_iff_not] at this;have e1:=p1 _ _ (ZR hme) hlt2;rcases this.2 with c|c
      ·exact absurd (ZA _) c
      ·rw [Z2 (l:=cX qk 0),ZR hme] at c;simp only [aaA] at c;rw [e1] at c;cases c
     ·exact hge
 ·rw [hlen] at g5;rw [hesl];simpa using g5
 ·have e:TL T (qk.map (·.1)) tr 0 (fun j=>(Array.replicate ops.size false).getD j false)=T:=by
   refine Eq.trans (MC (g:=fun _=>false) fun j _=>rep0 _) (P2 _ tr T 0)
  have e2:done (cX qk 0) (Array.replicate ops.size false)=0:=acu.2 fun x _=>by rw [rep0];simp
  rw [e,e2,rn (by simp)];simpa using hst
end
inductive SOp where
 | op (o:ai)
 | grp (g:Option (Nat×Bool)) (t:Nat) (b:Bool) (body:List SOp) (d:Nat) (x:Opd)
 deriving Inhabited
def dl (g:Option (Nat×Bool)) (t:Nat) (b:Bool) (d:Nat) (x:Opd):ai :=
 ⟨some d,.pick (.tmp t) (if b then x else .av (.bool true)) (if b then .av (.bool false) else x),g⟩
mutual
def SOp.flat:SOp->List ai
 | .op o=>[o]
 | .grp g t b body d x=>SOp.flatL body++[dl g t b d x]
def SOp.flatL:List SOp->List ai
 | []=>[]
 | s::r=>SOp.flat s++SOp.flatL r
end
def bx (l:List ai):List Nat:=l.filterMap (·.dst)
def gds:List SOp->List Nat
 | []=>[]
 | .op _::r=>gds r
 | .grp _ _ _ body _ _::r=>bx (SOp.flatL body)++gds r
def cn:SOp->List Nat
 | .op o=>o.dst.toList
 | .grp _ _ _ _ d _=>[d]
mutual
def okO (g:Nat×Bool) (seen:List Nat):SOp->Bool
 | .op o=>decide (o.guard=some g)
 | .grp g' t b body d x=>decide (g'=some g) && seen.contains t && !(bx (SOp.flatL body)).contains t && !(bx (SOp.flatL body)).contains g.1 && okB (t,b) [] body
def okB (g:Nat×Bool) (seen:List Nat):List SOp->Bool
 | []=>true
 | s::r=>okO g seen s && (cn s).all (fun d => !(gds r).contains d && d != g.1) && okB g (cn s++seen) r
end
def okS:List SOp->Bool
 | []=>true
 | .op o::r=>o.dst.toList.all (fun d => !(gds r).contains d) && okS r
 | .grp g t b body d x::r=>decide (g=none) && !(bx (SOp.flatL body)).contains t && okB (t,b) [] body && !(gds r).contains d && okS r
def mrg (b p q:Bool):Bool:=if b then p && q else p || q
def Wh (P:Program) (f:FuncId) (args:List AV) (L:List Blk) (k:AV->Prop):Prop:=∃ v,af P f args L (fun av L'=>av=v/\L'=L)/\k v
theorem aL {P:Program} {f:FuncId} {args:List AV} {L:List Blk} {k:AV->Prop} {v:AV} (h:af P f args L (fun av L'=>av=v/\L'=L)) (hk:k v):Wh P f args L k:=⟨v,h,hk⟩
def IsB:Option AV->Bool->Prop:=fun o q=>o=some (.bool q)
theorem bj {q:Bool}:IsB (some (.bool q)) q:=rfl
def IsX (x:Opd) (q:Bool) (T:Tm):Prop:=IsB (evX T x) q
def We (k:Tm->Prop) (d:Option Nat) (T:Tm) (v:AV):Prop:=k (cg d v T)
def Zj (P:Program) (f:FuncId) (L:List Blk) (k:AV->Prop):Option (List AV)->Prop
 | some args=>Wh P f args L k
 | none=>False
def R4 (P:Program) (L:List Blk) (k:AV->Prop):Option AV->Option (List AV)->Prop
 | some (.func g caps),some args=>Wh P g (args++caps) L k
 | _,_=>False
def Zf (L:List Blk) (k:AV->Prop):Option (Prop×AV×List Blk)->Prop
 | some (c,av,L')=>c/\L'=L/\k av
 | none=>False
def GOp (P:Program) (L:List Blk) (o:ai) (k:Tm->Prop) (T:Tm):Prop :=
 match o.op with
 | .call f xs=>Zj P f L (We k o.dst T) (eW T xs)
 | .callv f xs=>R4 P L (We k o.dst T) (evX T f) (eW T xs)
 | lo=>Zf L (We k o.dst T) (ah T L lo)
mutual
def GL (P:Program) (L:List Blk):List SOp->(Tm->Prop)->Tm->Prop
 | [],k,T=>k T
 | s::r,k,T=>GO P L s (GL P L r k) T
def GO (P:Program) (L:List Blk):SOp->(Tm->Prop)->Tm->Prop
 | .op o,k,T=>GOp P L o k T
 | .grp _ t b body d x,k,T=>match ao T t with
   | some (.bool p)=>∃ q,(p=b->GL P L body (IsX x q) T)/\k ((d,.bool (mrg b p q))::T)
   | _=>False
end
def GQ (P:Program) (L:List Blk) (b:Bool) (body:List SOp) (d:Nat) (x:Opd) (k:Tm->Prop) (T:Tm) (p:Bool):Prop :=
 ∃ q,(p=b->GL P L body (IsX x q) T)/\k ((d,.bool (mrg b p q))::T)
def GG (P:Program) (L:List Blk) (b:Bool) (body:List SOp) (d:Nat) (x:Opd) (k:Tm->Prop) (T:Tm):Option AV->Prop
 | some (.bool p)=>GQ P L b body d x k T p
 | _=>False
theorem YK {P:Program} {L:List Blk} {k:Tm->Prop} {T:Tm}:GL P L [] k T=k T:=by rw [GL]
theorem Zi {P:Program} {L:List Blk} {o:ai} {r:List SOp} {k:Tm->Prop} {T:Tm}:GL P L (.op o::r) k T=GOp P L o (GL P L r k) T:=by rw [GL,GO]
theorem YL {P:Program} {L:List Blk} {g:Option (Nat×Bool)} {t d:Nat} {b:Bool} {body r:List SOp} {x:Opd} {k:Tm->Prop} {T:Tm}:GL P L (.grp g t b body d x::r) k T=GG P L b body d x (GL P L r k) T (ao T t):=by
 rw [GL,GO];rfl
theorem Xu {P:Program} {L:List Blk} {d:Nat} {b p:Bool} {body:List SOp} {x:Opd} {k:Tm->Prop} {T:Tm}:GG P L b body d x k T (some (.bool p))=GQ P L b body d x k T p:=rfl
theorem Zh {P:Program} {L:List Blk} {d:Nat} {body:List SOp} {x:Opd} {k:Tm->Prop} {T:Tm}:GQ P L true body d x k T false=k ((d,.bool false)::T):=by simp [GQ,mrg]
theorem Zg {P:Program} {L:List Blk} {d:Nat} {body:List SOp} {x:Opd} {k:Tm->Prop} {T:Tm}:GQ P L false body d x k T true=k ((d,.bool true)::T):=by simp [GQ,mrg]
def SL (P:Program):List SOp->(Tm->List Blk->Prop)->Tm->List Blk->Prop
 | [],K,T,L=>K T L
 | .op o::r,K,T,L=>match o.guard with
   | none=>AOp P o (SL P r K) T L
   | some (t,b)=>Grd P o (SL P r K) b T L (ao T t)
 | .grp _ t b body d x::r,K,T,L=>GG P L b body d x (fun T'=>SL P r K T' L) T (ao T t)
def SK (P:Program) (r:List SOp) (K:Tm->List Blk->Prop) (L:List Blk) (T:Tm):Prop:=SL P r K T L
theorem Zb {P:Program} {r:List SOp} {K:Tm->List Blk->Prop} {L:List Blk} {T:Tm}:SK P r K L T=SL P r K T L:=rfl
theorem YF {P:Program} {K:Tm->List Blk->Prop} {L:List Blk} {T:Tm}:SL P [] K T L=K T L:=rfl
theorem Za {P:Program} {d:Option Nat} {op:LOp} {r:List SOp} {K:Tm->List Blk->Prop} {L:List Blk} {T:Tm}:SL P (.op ⟨d,op,none⟩::r) K T L=AOp P ⟨d,op,none⟩ (SL P r K) T L:=rfl
theorem YE {P:Program} {d:Option Nat} {op:LOp} {t:Nat} {b:Bool} {r:List SOp} {K:Tm->List Blk->Prop} {L:List Blk} {T:Tm}:SL P (.op ⟨d,op,some (t,b)⟩::r) K T L=Grd P ⟨d,op,some (t,b)⟩ (SL P r K) b T L (ao T t):=rfl
theorem YG {P:Program} {g:Option (Nat×Bool)} {t d:Nat} {b:Bool} {body r:List SOp} {x:Opd} {K:Tm->List Blk->Prop} {L:List Blk} {T:Tm}:SL P (.grp g t b body d x::r) K T L=GG P L b body d x (SK P r K L) T (ao T t):=rfl
def sel:List Bool->Tm->Tm
 | [],T=>T
 | true::m,x::T=>x::sel m T
 | false::m,_::T=>sel m T
 | _::_,[]=>[]
theorem Rv {T:Tm}:sel [] T=T:=by cases T<;>rfl
theorem XC {m:List Bool} {x:Nat×AV} {T:Tm}:sel (true::m) (x::T)=x::sel m T:=rfl
theorem XD {m:List Bool} {x:Nat×AV} {T:Tm}:sel (false::m) (x::T)=sel m T:=rfl
section
variable {P:Program} {ro:Option Nat} {w0:World} {S0:SB} {N:Nat}
def Fr (ds:List Nat) (T:Tm):Prop:=∀ d∈ds,ao T d=none
theorem kz {d:Option Nat} {v:AV} {T:Tm} {t:Nat} (h:d≠some t):ao (cg d v T) t=ao T t:=by
 cases d with
 | none=>rfl
 | some d=>simp only [cg,ao];rw [if_neg (fun e=>h (by rw [e]))]
theorem eI {own:Nat->Nat} {ops:Array Oper}:∀ {l m:List ai} {is:List Nat},bT P N own ops is=some (l++m)->∃ js ks,is=js++ks/\bT P N own ops js=some l/\bT P N own ops ks=some m
 | [],m,is,h=>⟨[],is,rfl,rfl,h⟩
 | o::l,m,is,h=>by
   cases is with
   | nil=>simp [bT] at h
   | cons i is =>
     simp only [bT] at h;split at h<;>try cases h
     rename_i o' m' h1 h2
     obtain ⟨js,ks,rfl,h3,h4⟩:=eI (l:=l) (m:=m) h2;refine ⟨i::js,ks,rfl,?_,h4⟩;simp only [bT,h1,h3]
theorem iQ {own:Nat->Nat} {ops:Array Oper} {o:ai} {is:List Nat} (h:bT P N own ops is=some [o]):∃ i,is=[i]/\iY P N own ops i=some o:=by
 cases is with
 | nil=>simp [bT] at h
 | cons i is =>
   simp only [bT] at h;split at h<;>try cases h
   rename_i o' m' h1 h2
   cases is with
   | nil=>exact ⟨i,rfl,h1⟩
   | cons j is =>
     simp only [bT] at h2;split at h2<;>cases h2
theorem KW {own:Nat->Nat} {ops:Array Oper} {K:Tm->List Blk->Prop} {Q:Exit->Act->World->Prop} {i:Nat} {lo:ai} {rest:List Nat} (hl:iY P N own ops i=some lo)
  {T:Tm} {L:List Blk} {E:Env} {a:Act} {w:World} (hst:St w0 S0 N E T L a w) (hg:lo.guard=none\/∃ t b,lo.guard=some (t,b)/\ao T t=some (.bool b))
  (h:AOp P lo K T L) (hK:∀ E' T' L' a' w',E.le E'->K T' L'->St w0 S0 N E' T' L' a' w'->wpOpsIn (dW ro) 0 P ops Q rest a' w'):wpOpsIn (dW ro) 0 P ops Q (i::rest) a w:=by
 obtain ⟨o,ho,hop,hdst,hd,hg'⟩:=eP hl;obtain ⟨ld,lop,lg⟩:=lo;simp only at hop hdst hg' hg;subst hdst;simp only [wpOpsIn,ho];have hw:Region.wanted o (yielded ops a.tmps)=true:=by
  rcases hg' with ⟨g1,g2⟩|⟨j,b,t,g1,g2,g3,g4⟩
  ·simp [Region.wanted,g1]
  ·subst g4;rcases hg with hg|⟨t',b',e,hx⟩
   ·cases hg
   ·cases e;have hy:=fN (E:=E) (T:=T) (a:=a) (ops:=ops) hst.2.1 g2 (by rw [hst.2.2.1];exact g3);simp [Region.wanted,g1,hy.1 b hx]
 rw [if_pos hw];exact Dz hop hd hst h hK
theorem Lx {own:Nat->Nat} {ops:Array Oper} {Q:Exit->Act->World->Prop} {i:Nat} {lo:ai} {rest:List Nat} (hl:iY P N own ops i=some lo)
  {T:Tm} {L:List Blk} {E:Env} {a:Act} {w:World} (hst:St w0 S0 N E T L a w) {t:Nat} {b:Bool} (hg:lo.guard=some (t,b)) (hx:ao T t=some (.bool (!b))\/ao T t=some (.tup []))
  (hK:∀ a',St w0 S0 N E (cg lo.dst (.tup []) T) L a' w->wpOpsIn (dW ro) 0 P ops Q rest a' w):wpOpsIn (dW ro) 0 P ops Q (i::rest) a w:=by
 obtain ⟨o,ho,hop,hdst,hd,hg'⟩:=eP hl;obtain ⟨ld,lop,lg⟩:=lo;simp only at hop hdst hg' hg hK;subst hdst;simp only [wpOpsIn,ho];have hw:Region.wanted o (yielded ops a.tmps)=false:=by
  rcases hg' with ⟨g1,g2⟩|⟨j,b',t',g1,g2,g3,g4⟩
  ·rw [g2] at hg;cases hg
  ·rw [g4] at hg;cases hg;have hy:=fN (E:=E) (T:=T) (a:=a) (ops:=ops) hst.2.1 g2 (by rw [hst.2.2.1];exact g3);rcases hx with hx|hx
   ·simp [Region.wanted,g1,hy.1 _ hx]
   ·simp [Region.wanted,g1,hy.2 hx]
 rw [if_neg (by simp [hw])];exact ⟨fun _ _=>trivial,hK _ (G6 hst hd)⟩
def Ext (ds:List Nat) (T T':Tm):Prop:=∀ t v,t ∉ ds->ao T t=some v->ao T' t=some v
mutual
theorem XV {own:Nat->Nat} {ops:Array Oper} {Q:Exit->Act->World->Prop} {L:List Blk} {E:Env} {w:World} (s:SOp) {g:Nat×Bool} {seen:List Nat} {is rest:List Nat} {T:Tm} {a:Act} (hok:okO g seen s=true) (hl:bT P N own ops is=some s.flat)
  (hst:St w0 S0 N E T L a w) (hx:ao T g.1=some (.bool (!g.2))\/ao T g.1=some (.tup [])) (hseen:∀ d∈seen,ao T d=some (.tup []))
  (hK:∀ T' a',Ext (bx s.flat) T T'->(∀ d,ao T d=some (.tup [])->ao T' d=some (.tup []))->(∀ d∈cn s,ao T' d=some (.tup []))->St w0 S0 N E T' L a' w->wpOpsIn (dW ro) 0 P ops Q rest a' w):wpOpsIn (dW ro) 0 P ops Q (is++rest) a w:=by
 have tup:∀ (d':Option Nat) (T:Tm) (d:Nat),ao T d=some (.tup [])->ao (cg d' (.tup []) T) d=some (.tup []):=fun d' T d h=>by
  cases d' with
  | none=>exact h
  | some d' =>
    simp only [cg,ao];split
    ·rfl
    ·exact h
 cases s with
 | op o =>
   simp only [SOp.flat] at hl hK;obtain ⟨i,rfl,h1⟩:=iQ hl;simp only [okO,decide_eq_true_eq] at hok;refine Lx h1 hst (t:=g.1) (b:=g.2) hok hx fun a' ha'=>hK _ a' (fun t v ht hv=>?_) (tup _ _) (fun d hd=>?_) ha'
   ·rw [kz (fun e=>ht (by simp [bx,e]))];exact hv
   ·simp only [cn,aca] at hd;rw [hd];simp [cg,ao]
 | grp g' t b body d x =>
   simp only [okO,ZE,decide_eq_true_eq,aax,Z8,aam,decide_eq_false_iff_not] at hok;obtain ⟨⟨⟨⟨hg',ht⟩,htb⟩,hgb⟩,hb⟩:=hok;simp only [SOp.flat] at hl hK;obtain ⟨js,ks,rfl,h1,h2⟩:=eI hl;obtain ⟨i,rfl,h3⟩:=iQ h2;rw [ZO];refine KT body hb h1 hst (.inr (hseen t (by simpa using ht))) (by simp) fun T' a' hext htup hst'=>?_
   refine Lx h3 hst' (t:=g.1) (b:=g.2) (by simp [dl,hg']) ?_ fun a'' hst''=>hK _ a'' (fun t v ht hv=>?_) (fun d hd=>tup _ _ _ (htup d hd)) (fun d hd=>?_) hst''
   ·exact hx.imp (fun h=>hext _ _ hgb h) (fun h=>htup _ h)
   ·rw [kz (fun e=>ht (by simp only [dl] at e;simp [bx,dl,e]))];exact hext t v (fun hm=>ht (by simp only [bx,aa3,ZD];exact .inl hm)) hv
   ·simp only [cn,ZS] at hd;subst hd;simp [dl,cg,ao]
theorem KT {own:Nat->Nat} {ops:Array Oper} {Q:Exit->Act->World->Prop} {L:List Blk} {E:Env} {w:World} (l:List SOp) {g:Nat×Bool} {seen:List Nat} {is rest:List Nat} {T:Tm} {a:Act} (hok:okB g seen l=true) (hl:bT P N own ops is=some (SOp.flatL l))
  (hst:St w0 S0 N E T L a w) (hx:ao T g.1=some (.bool (!g.2))\/ao T g.1=some (.tup [])) (hseen:∀ d∈seen,ao T d=some (.tup []))
  (hK:∀ T' a',Ext (bx (SOp.flatL l)) T T'->(∀ d,ao T d=some (.tup [])->ao T' d=some (.tup []))->St w0 S0 N E T' L a' w->wpOpsIn (dW ro) 0 P ops Q rest a' w):wpOpsIn (dW ro) 0 P ops Q (is++rest) a w:=by
 cases l with
 | nil =>
   simp only [SOp.flatL] at hl hK;have:is=[]:=by
    cases is with
    | nil=>rfl
    | cons i is =>
      simp only [bT] at hl;split at hl<;>cases hl
   subst this;exact hK T a (fun _ _ _ h=>h) (fun _ h=>h) hst
 | cons s r =>
   simp only [okB,ZE,ZJ,Z8,bne_iff_ne] at hok;obtain ⟨⟨h1,h2⟩,h3⟩:=hok;simp only [SOp.flatL] at hl hK;obtain ⟨js,ks,rfl,h4,h5⟩:=eI hl;rw [ZO];refine XV s h1 h4 hst hx hseen fun T' a' e1 e2 e3 hst'=>?_
   have hx':ao T' g.1=some (.bool (!g.2))\/ao T' g.1=some (.tup []):=by
    by_cases hm:g.1∈bx s.flat
    ·cases s with
     | op o =>
       simp only [bx,SOp.flat,List.filterMap_cons,List.filterMap_nil] at hm;cases hd:o.dst with
       | none=>simp [hd] at hm
       | some d =>
         simp [hd] at hm;exact absurd hm.symm (h2 d (by simp [cn,hd])).2
     | grp g' t b body d x =>
       simp only [okO,ZE,Z8,aam,decide_eq_false_iff_not] at h1;simp only [bx,SOp.flat,aa3,ZD] at hm;rcases hm with hm|hm
       ·exact absurd hm h1.1.2
       ·simp [dl] at hm;exact absurd hm.symm (h2 d (by simp [cn])).2
    ·exact hx.imp (e1 _ _ hm) (e2 _)
   refine KT r h3 h5 hst' hx' (fun d hd=>?_) fun T'' a'' f1 f2 hst''=>hK T'' a'' (fun t v ht hv=>?_) (fun d hd=>f2 d (e2 d hd)) hst''
   ·rcases ZD.1 hd with hd|hd
    ·exact e3 d hd
    ·exact e2 d (hseen d hd)
   ·simp only [bx,aa3,ZD,not_or] at ht;exact f1 t v ht.2 (e1 t v ht.1 hv)
end
theorem Fr.put {ds:List Nat} {T:Tm} {d:Option Nat} {v:AV} (h:Fr ds T) (hd:∀ k,d=some k->k ∉ ds):Fr ds (cg d v T):=fun k hk=>by
 rw [kz (fun e=>hd k e hk)];exact h k hk
mutual
theorem VC (s:SOp):∀ d∈gds [s],d∈bx s.flat:=by
 cases s with
 | op o=>simp [gds]
 | grp g t b body d x =>
   intro u hu;simp only [gds,aah] at hu;simp only [SOp.flat,bx,aa3,ZD];exact .inl hu
end
theorem IC (s:SOp) (r:List SOp):gds (s::r)=gds [s]++gds r:=by cases s<;>simp [gds]
theorem IB:∀ (l:List SOp),∀ d∈gds l,d∈bx (SOp.flatL l)
 | [],d,h=>by simp [gds] at h
 | s::r,d,h=>by
   rw [IC,ZD] at h;simp only [SOp.flatL,bx,aa3,ZD];exact h.imp (VC s d) (IB r d)
theorem Ph (s:SOp):∀ d∈cn s,d∈bx s.flat:=by
 cases s with
 | op o =>
   intro d hd;simp only [cn,aca] at hd;simp [SOp.flat,bx,hd]
 | grp g t b body d x =>
   intro u hu;simp only [cn,ZS] at hu;subst hu;simp [SOp.flat,bx,dl]
mutual
theorem Yp {own:Nat->Nat} {ops:Array Oper} {Q:Exit->Act->World->Prop} {L:List Blk} (s:SOp) {g:Nat×Bool} {seen:List Nat} {is rest:List Nat} {T:Tm} {a:Act} {E:Env} {w:World} {k:Tm->Prop} (hok:okO g seen s=true) (hl:bT P N own ops is=some s.flat)
  (hst:St w0 S0 N E T L a w) (hx:ao T g.1=some (.bool g.2)) (hfr:∀ d∈gds [s],ao T d=none) (h:GO P L s k T)
  (hK:∀ E' T' a' w',E.le E'->k T'->Ext (cn s) T T'->(∀ d,d ∉ cn s->ao T d=none->ao T' d=none)->St w0 S0 N E' T' L a' w'->wpOpsIn (dW ro) 0 P ops Q rest a' w'):wpOpsIn (dW ro) 0 P ops Q (is++rest) a w:=by
 cases s with
 | op o =>
   simp only [SOp.flat] at hl;obtain ⟨i,rfl,h1⟩:=iQ hl;simp only [okO,decide_eq_true_eq] at hok;simp only [GO] at h;have ext:∀ v,Ext (cn (.op o)) T (cg o.dst v T):=fun v t x ht hv=>by
    rw [kz (fun e=>ht (by simp [cn,e]))];exact hv
   have fre:∀ v d,d ∉ cn (.op o)->ao T d=none->ao (cg o.dst v T) d=none:=fun v d hd hn=>by
    rw [kz (fun e=>hd (by simp [cn,e]))];exact hn
   have hA:AOp P o (fun T' L'=>L'=L/\∃ v,T'=cg o.dst v T/\k T') T L:=by
    obtain ⟨d,op,gd⟩:=o;have call:∀ {f:FuncId} {args:List AV},Wh P f args L (We k d T)->af P f args L (Kon (fun T' L'=>L'=L/\∃ v,T'=cg d v T/\k T') d T):=fun {f args} ⟨v,h1,h2⟩ =>
     h1.mono fun av L' ⟨e1,e2⟩=>by subst e1;subst e2;exact ⟨rfl,av,rfl,h2⟩
    simp only [GOp] at h;simp only [AOp];cases op
    case call f xs =>
     simp only at h ⊢;cases he:eW T xs with
     | none=>rw [he] at h;exact h.elim
     | some args=>rw [he] at h;exact call h
    case callv f xs =>
     simp only at h ⊢;cases hf:evX T f with
     | none=>rw [hf] at h;exact h.elim
     | some u =>
       rw [hf] at h;cases he:eW T xs with
       | none=>rw [he] at h;cases u<;>exact h.elim
       | some args =>
         rw [he] at h;cases u<;>simp only [R4] at h
         exact call h
    all_goals
     simp only at h ⊢;generalize ah T L _=r at h ⊢;cases r with
     | none=>exact h.elim
     | some r =>
       obtain ⟨c,av,L'⟩:=r;exact ⟨h.1,h.2.1,av,rfl,h.2.2⟩
   refine KW h1 hst (.inr ⟨g.1,g.2,hok,hx⟩) hA fun E' T' L' a' w' hle ⟨e1,v,e2,hk⟩ hst'=>?_
   subst e1;subst e2;exact hK E' _ a' w' hle hk (ext v) (fre v) hst'
 | grp g' t b body d x =>
   simp only [okO,ZE,decide_eq_true_eq,Z8,aam,decide_eq_false_iff_not] at hok;obtain ⟨⟨⟨⟨hg',ht⟩,htb⟩,hgb⟩,hb⟩:=hok;simp only [SOp.flat] at hl;obtain ⟨js,ks,rfl,h1,h2⟩:=eI hl;obtain ⟨i,rfl,h3⟩:=iQ h2;rw [ZO];simp only [GO] at h;have hfr':Fr (bx (SOp.flatL body)) T:=fun d' hd'=>hfr d' (by simp [gds,hd'])
   have fin:∀ {E':Env} {T':Tm} {a':Act} {w':World} (p q:Bool),E.le E'->St w0 S0 N E' T' L a' w'->Ext (bx (SOp.flatL body)) T T'->ao T t=some (.bool p)->(p=b->evX T' x=some (.bool q))->k ((d,.bool (mrg b p q))::T)->wpOpsIn (dW ro) 0 P ops Q ([i]++rest) a' w':=fun {E' T' a' w'} p q hle hst' hext hp hq hk=>by
    have hv:ah T' L (.pick (.tmp t) (if b then x else .av (.bool true)) (if b then .av (.bool false) else x))=some (True,.bool (mrg b p q),L):=by
     have ht':ao T' t=some (.bool p):=hext _ _ htb hp;cases b<;>cases p<;>simp [ah,evX,ht',mrg]<;>exact hq rfl
    refine KW h3 hst' (.inr ⟨g.1,g.2,by simp [dl,hg'],hext _ _ hgb hx⟩) (K:=fun T'' L''=>T''=(d,.bool (mrg b p q))::T'/\L''=L) ?_ fun E'' T'' L'' a'' w'' hle' ⟨e1,e2⟩ hst''=>?_
    ·simp only [dl,AOp,hv,Res,cg,and_self]
    ·subst e1;subst e2;refine hK E'' ((d,.bool (mrg b p q))::T) a'' w'' (hle.trans hle') hk (fun u v hu hv=>?_) (fun u hu hn=>?_) ⟨hst''.1,hst''.2.1.weak fun u v hu=>?_,hst''.2.2⟩
     ·simp only [cn,ZS] at hu;simp only [ao];rw [if_neg (Ne.symm hu)];exact hv
     ·simp only [cn,ZS] at hu;simp only [ao];rw [if_neg (Ne.symm hu)];exact hn
     ·simp only [ao] at hu ⊢;split
      ·rename_i e;rw [if_pos e] at hu;exact hu
      ·rename_i e
       rw [if_neg e] at hu;refine hext u v (fun hm=>?_) hu;rw [hfr' u hm] at hu;cases hu
   rcases hp:ao T t with _|u
   ·rw [hp] at h;exact h.elim
   rw [hp] at h;cases u<;>try exact h.elim
   rename_i p
   obtain ⟨q,hq,hk⟩:=h;by_cases e:p=b
   ·subst e;refine OD body hb h1 hst hp (fun d hd=>hfr' d (IB body d hd)) (hq rfl) fun E' T' a' w' hle hx' hext hst'=>fin p q hle hst' hext hp (fun _=>hx') hk
   ·have:p = !b:=by cases p<;>cases b<;>simp_all
    refine KT body hb h1 hst (.inl (by rw [hp,this])) (by simp) fun T' a' hext _ hst'=>fin p q (.refl E) hst' hext hp (fun e'=>absurd e' e) hk
theorem OD {own:Nat->Nat} {ops:Array Oper} {Q:Exit->Act->World->Prop} {L:List Blk} (l:List SOp) {g:Nat×Bool} {seen:List Nat} {is rest:List Nat} {T:Tm} {a:Act} {E:Env} {w:World} {k:Tm->Prop} (hok:okB g seen l=true) (hl:bT P N own ops is=some (SOp.flatL l))
  (hst:St w0 S0 N E T L a w) (hx:ao T g.1=some (.bool g.2)) (hfr:Fr (gds l) T) (h:GL P L l k T)
  (hK:∀ E' T' a' w',E.le E'->k T'->Ext (bx (SOp.flatL l)) T T'->St w0 S0 N E' T' L a' w'->wpOpsIn (dW ro) 0 P ops Q rest a' w'):wpOpsIn (dW ro) 0 P ops Q (is++rest) a w:=by
 cases l with
 | nil =>
   simp only [SOp.flatL] at hl;have:is=[]:=by
    cases is with
    | nil=>rfl
    | cons i is =>
      simp only [bT] at hl;split at hl<;>cases hl
   subst this;rw [GL] at h;exact hK E T a w (.refl E) h (fun _ _ _ h=>h) hst
 | cons s r =>
   simp only [okB,ZE,ZJ,Z8,bne_iff_ne,aam,decide_eq_false_iff_not] at hok;obtain ⟨⟨h1,h2⟩,h3⟩:=hok;simp only [SOp.flatL] at hl;obtain ⟨js,ks,rfl,h4,h5⟩:=eI hl;rw [ZO];rw [GL] at h;rw [IC] at hfr;refine Yp s h1 h4 hst hx (fun d hd=>hfr d (aa4 _ hd)) h fun E' T' a' w' hle hk' e1 e2 hst'=>?_
   refine OD r h3 h5 hst' (e1 _ _ (fun hm=>(h2 _ hm).2 rfl) hx) (fun d hd=>e2 d (fun hm=>(h2 d hm).1 hd) (hfr d (abx _ hd))) hk' fun E'' T'' a'' w'' hle' hk'' f1 hst''=>hK E'' T'' a'' w'' (hle.trans hle') hk'' (fun t v ht hv=>?_) hst''
   simp only [SOp.flatL,bx,aa3,ZD,not_or] at ht;exact f1 t v ht.2 (e1 t v (fun hm=>ht.1 (Ph s t hm)) hv)
end
theorem XA {o:ai} {K:Tm->List Blk->Prop} {T:Tm} {L:List Blk} (h:AOp P o K T L):AOp P o (fun T' L'=>K T' L'/\∃ v,T'=cg o.dst v T) T L:=by
 obtain ⟨d,op,gd⟩:=o;have call:∀ {f:FuncId} {args:List AV},af P f args L (Kon K d T)->af P f args L (Kon (fun T' L'=>K T' L'/\∃ v,T'=cg d v T) d T):=fun {f args} h=>h.mono fun av L' h=>⟨h,av,rfl⟩
 simp only [AOp] at h ⊢;cases op
 case call f xs =>
  simp only at h ⊢;cases he:eW T xs with
  | none=>rw [he] at h;exact h.elim
  | some args=>rw [he] at h;exact call h
 case callv f xs =>
  simp only at h ⊢;cases hf:evX T f with
  | none=>rw [hf] at h;cases he:eW T xs<;>rw [he] at h<;>exact h.elim
  | some u =>
    rw [hf] at h;cases he:eW T xs with
    | none=>rw [he] at h;cases u<;>exact h.elim
    | some args =>
      rw [he] at h;cases u<;>simp only [Wf] at h
      case yld i=>exact Wk.mono h fun av L' h=>⟨h,av,rfl⟩
      exact call h
 all_goals
  simp only at h ⊢;generalize ah T L _=r at h ⊢;cases r with
  | none=>exact h.elim
  | some r=>exact ⟨h.1,h.2,r.2.1,rfl⟩
theorem wi {own:Nat->Nat} {ops:Array Oper} {Q:Exit->Act->World->Prop} {K:Tm->List Blk->Prop}:∀ (l:List SOp) {is:List Nat} {T:Tm} {L:List Blk} {a:Act} {E:Env} {w:World},okS l=true->bT P N own ops is=some (SOp.flatL l) ->
  St w0 S0 N E T L a w->Fr (gds l) T->SL P l K T L->(∀ E' T' L' a' w',E.le E'->K T' L'->St w0 S0 N E' T' L' a' w'->Q .normal a' w')->wpOpsIn (dW ro) 0 P ops Q is a w
 | [],is,T,L,a,E,w,hok,hl,hst,hfr,h,hK=>by
   simp only [SOp.flatL] at hl;have:is=[]:=by
    cases is with
    | nil=>rfl
    | cons i is =>
      simp only [bT] at hl;split at hl<;>cases hl
   subst this;exact hK E T L a w (.refl E) h hst
 | .op o::r,is,T,L,a,E,w,hok,hl,hst,hfr,h,hK=>by
   simp only [okS,ZE,ZJ,aca,Z8,aam,decide_eq_false_iff_not] at hok;simp only [SOp.flatL,SOp.flat,acb] at hl;obtain ⟨js,ks,rfl,h1,h2⟩:=eI (l:=[o]) hl;obtain ⟨i,rfl,h3⟩:=iQ h1;have hfr':∀ v,Fr (gds r) (cg o.dst v T):=fun v=>Fr.put (ds:=gds r) hfr fun k hk=>hok.1 k hk
   have run:(o.guard=none\/∃ t b,o.guard=some (t,b)/\ao T t=some (.bool b))->AOp P o (SL P r K) T L->wpOpsIn (dW ro) 0 P ops Q ([i]++ks) a w:=fun hg h =>
    KW h3 hst hg (XA h) fun E' T' L' a' w' hle ⟨hs,v,e⟩ hst'=>by
     subst e;exact wi r hok.2 h2 hst' (hfr' v) hs fun E'' T'' L'' a'' w'' hle'=>hK E'' T'' L'' a'' w'' (hle.trans hle')
   have skip:∀ t b,o.guard=some (t,b)->(ao T t=some (.bool (!b))\/ao T t=some (.tup []))->SL P r K (cg o.dst (.tup []) T) L->wpOpsIn (dW ro) 0 P ops Q ([i]++ks) a w:=fun t b hg hx h =>
    Lx h3 hst hg hx fun a' hst'=>wi r hok.2 h2 hst' (hfr' _) h hK
   rw [SL] at h;rcases hg:o.guard with _|⟨t,b⟩
   ·rw [hg] at h;exact run (.inl hg) h
   ·rw [hg] at h;simp only at h;rcases hx:ao T t with _|u
    ·rw [hx] at h;exact h.elim
    rw [hx] at h;cases u<;>try exact h.elim
    ·rename_i x
     rw [De] at h;by_cases e:x=b
     ·rw [if_pos e] at h;exact run (.inr ⟨t,b,hg,by rw [hx,e]⟩) h
     ·rw [if_neg e] at h;have:x = !b:=by cases x<;>cases b<;>simp_all
      exact skip t b hg (.inl (by rw [hx,this])) h
    ·rename_i l
     cases l with
     | cons _ _=>exact h.elim
     | nil=>exact skip t b hg (.inr hx) h
 | .grp g t b body d x::r,is,T,L,a,E,w,hok,hl,hst,hfr,h,hK=>by
   simp only [okS,ZE,decide_eq_true_eq,Z8,aam,decide_eq_false_iff_not] at hok;obtain ⟨⟨⟨⟨hg,htb⟩,hb⟩,hd⟩,hr⟩:=hok;simp only [SOp.flatL,SOp.flat,ZO] at hl;obtain ⟨js,ks',rfl,h1,h2⟩:=eI hl;obtain ⟨is',ks,rfl,h2',h4⟩:=eI h2;obtain ⟨i,rfl,h3⟩:=iQ h2';rw [SL] at h;have hfr1:Fr (bx (SOp.flatL body)) T:=fun d' hd'=>hfr d' (by simp [gds,hd'])
   have hfr2:Fr (gds r) T:=fun d' hd'=>hfr d' (by simp [gds,hd'])
   have fin:∀ {E':Env} {T':Tm} {a':Act} {w':World} (p q:Bool),E.le E'->St w0 S0 N E' T' L a' w'->Ext (bx (SOp.flatL body)) T T'->ao T t=some (.bool p)->(p=b->evX T' x=some (.bool q))->SL P r K ((d,.bool (mrg b p q))::T) L->wpOpsIn (dW ro) 0 P ops Q ([i]++ks) a' w':=fun {E' T' a' w'} p q hle hst' hext hp hq hk=>by
    have hv:ah T' L (.pick (.tmp t) (if b then x else .av (.bool true)) (if b then .av (.bool false) else x))=some (True,.bool (mrg b p q),L):=by
     have ht':ao T' t=some (.bool p):=hext _ _ htb hp;cases b<;>cases p<;>simp [ah,evX,ht',mrg]<;>exact hq rfl
    refine KW h3 hst' (.inl (by simp [dl,hg])) (K:=fun T'' L''=>T''=(d,.bool (mrg b p q))::T'/\L''=L) ?_ fun E'' T'' L'' a'' w'' hle' ⟨e1,e2⟩ hst''=>?_
    ·simp only [dl,AOp,hv,Res,cg,and_self]
    ·subst e1;subst e2;refine wi r hr h4 (T:=(d,.bool (mrg b p q))::T) ⟨hst''.1,hst''.2.1.weak fun u v hu=>?_,hst''.2.2⟩ (Fr.put (d:=some d) hfr2 fun k hk=>by cases hk;exact hd) hk fun E3 T3 L3 a3 w3 hle3=>hK E3 T3 L3 a3 w3 ((hle.trans hle').trans hle3)
     simp only [ao] at hu ⊢;split
     ·rename_i e;rw [if_pos e] at hu;exact hu
     ·rename_i e
      rw [if_neg e] at hu;refine hext u v (fun hm=>?_) hu;rw [hfr1 u hm] at hu;cases hu
   rcases hp:ao T t with _|u
   ·rw [hp] at h;exact h.elim
   rw [hp] at h;cases u<;>try exact h.elim
   rename_i p
   obtain ⟨q,hq,hk⟩:=h;by_cases e:p=b
   ·subst e;exact OD body hb h1 hst hp (fun d hd=>hfr1 d (IB body d hd)) (hq rfl) fun E' T' a' w' hle hx' hext hst'=>fin p q hle hst' hext hp (fun _=>hx') hk
   ·have:p = !b:=by cases p<;>cases b<;>simp_all
    exact KT body hb h1 hst (.inl (by rw [hp,this])) (by simp) fun T' a' hext _ hst'=>fin p q (.refl E) hst' hext hp (fun e'=>absurd e' e) hk
end
theorem Xj {p b:Bool} (h:¬ p=b):p = !b:=by cases p<;>cases b<;>simp_all
mutual
def Og (g:Option (Nat×Bool)) (seen D:List Nat):SOp->Bool
 | .op o=>decide (o.guard=g) && o.reads.all (fun t => !D.contains t)
 | .grp g' t b body d x=>decide (g'=g) && (g.isNone || seen.contains t) && !D.contains t && !(bx (SOp.flatL body)).contains t && (match g with|some g1 => !(bx (SOp.flatL body)).contains g1.1|none=>true) &&
  x.tmps.all (fun t => !(D++gds body).contains t) && okG (some (t,b)) [] D body
def okG (g:Option (Nat×Bool)) (seen D:List Nat):List SOp->Bool
 | []=>true
 | s::r=>Og g seen D s && (cn s).all (fun d => !(D++gds [s]).contains d && !(gds r).contains d && (match g with|some g1=>d != g1.1|none=>true)) && okG g (cn s++seen) (D++gds [s]) r
end
section
variable {P:Program} {L:List Blk} {K:Tm->List Blk->Prop}
def AR (P:Program) (K:Tm->List Blk->Prop) (l:List ai) (L:List Blk) (T:Tm):Prop:=AG P K (l.map fun o=>(o,.read 0 0)) [L] [] T
theorem YR {T:Tm} (h:K T L):AR P K [] L T:=h
theorem K3 {o:ai} {r:List ai} {T:Tm} {v:AV} (h1:AQ P o T L v) (h2:AR P K r L (cg o.dst v T)):AR P K (o::r) L T:=by
 refine ⟨v,fun L' hL'=>?_,h2⟩;simp at hL';subst hL';exact h1
def Agr (D:List Nat) (T T1:Tm):Prop:=∀ t,t ∉ D->ao T1 t=ao T t
theorem Agr.put {D:List Nat} {T T1:Tm} (h:Agr D T T1) (d:Option Nat) (v:AV):Agr D (cg d v T) (cg d v T1):=fun t ht=>by
 cases d with
 | none=>exact h t ht
 | some d=>simp only [cg,ao];split;rfl;exact h t ht
theorem Pr {d:Option Nat} {T:Tm} {t:Nat} (h:ao T t=some (.tup [])):ao (cg d (.tup []) T) t=some (.tup []):=by
 cases d with
 | none=>exact h
 | some d=>simp only [cg,ao];split;rfl;exact h
mutual
theorem Xo (s:SOp) {g:Nat×Bool} {seen D:List Nat} {rest:List ai} {T:Tm} (hok:Og (some g) seen D s=true) (hx:ao T g.1=some (.bool (!g.2))\/ao T g.1=some (.tup [])) (hseen:∀ d∈seen,ao T d=some (.tup []))
  (hK:∀ T',(∀ t,t ∉ bx s.flat->ao T' t=ao T t)->(∀ d,ao T d=some (.tup [])->ao T' d=some (.tup []))->(∀ d∈cn s,ao T' d=some (.tup []))->AR P K rest L T'):AR P K (s.flat++rest) L T:=by
 have skip:∀ (o:ai) (T:Tm),o.guard=some g->(ao T g.1=some (.bool (!g.2))\/ao T g.1=some (.tup []))->AQ P o T L (.tup []):=fun o T hg hx=>by
  obtain ⟨t,b⟩:=g;simp only [AQ,hg];rcases hx with hx|hx<;>simp only at hx<;>rw [hx]<;>simp
 cases s with
 | op o =>
   simp only [Og,ZE,decide_eq_true_eq] at hok;refine K3 (skip o T hok.1 hx) (hK _ (fun t ht=>kz fun e=>ht (by simp [SOp.flat,bx,e])) (fun d hd=>Pr hd) fun d hd=>?_);simp only [cn,aca] at hd;rw [hd];simp [cg,ao]
 | grp g' t b body d x =>
   simp only [Og,ZE,decide_eq_true_eq,Option.isNone_some,aa2,Z8,aam,decide_eq_false_iff_not] at hok;obtain ⟨⟨⟨⟨⟨⟨hg',ht⟩,_⟩,htb⟩,hgb⟩,_⟩,hb⟩:=hok;simp only [SOp.flat,ZO];refine Mx body hb (.inr (hseen t (by simpa using ht))) (by simp) fun T' h1 h2=>?_
   refine K3 (o:=dl g' t b d x) (v:=.tup []) (skip _ T' (by simp [dl,hg']) (by rw [h1 _ hgb];exact hx)) (hK _ (fun u hu=>?_) (fun u hu=>Pr (h2 u hu)) fun u hu=>?_)
   ·rw [kz (fun e=>hu (by simp only [dl] at e;simp [SOp.flat,bx,dl,e]))];exact h1 u fun hm=>hu (by simp only [SOp.flat,bx,aa3,ZD];exact .inl hm)
   ·simp only [cn,ZS] at hu;subst hu;simp [dl,cg,ao]
theorem Mx (l:List SOp) {g:Nat×Bool} {seen D:List Nat} {rest:List ai} {T:Tm} (hok:okG (some g) seen D l=true) (hx:ao T g.1=some (.bool (!g.2))\/ao T g.1=some (.tup [])) (hseen:∀ d∈seen,ao T d=some (.tup []))
  (hK:∀ T',(∀ t,t ∉ bx (SOp.flatL l)->ao T' t=ao T t)->(∀ d,ao T d=some (.tup [])->ao T' d=some (.tup []))->AR P K rest L T'):AR P K (SOp.flatL l++rest) L T:=by
 cases l with
 | nil=>exact hK T (fun _ _=>rfl) (fun _ h=>h)
 | cons s r =>
   simp only [okG,ZE,ZJ,Z8,bne_iff_ne] at hok;obtain ⟨⟨h1,h2⟩,h3⟩:=hok;simp only [SOp.flatL,ZO];refine Xo s h1 hx hseen fun T' e1 e2 e3=>?_
   have hx':ao T' g.1=some (.bool (!g.2))\/ao T' g.1=some (.tup []):=by
    by_cases hm:g.1∈bx s.flat
    ·cases s with
     | op o =>
       simp only [bx,SOp.flat,List.filterMap_cons,List.filterMap_nil] at hm;cases hd:o.dst with
       | none=>simp [hd] at hm
       | some d =>
         simp [hd] at hm;exact absurd hm.symm (h2 d (by simp [cn,hd])).2
     | grp g' t b body d x =>
       simp only [Og,ZE,Z8,aam,decide_eq_false_iff_not] at h1;simp only [bx,SOp.flat,aa3,ZD] at hm;rcases hm with hm|hm
       ·exact absurd hm h1.1.1.2
       ·simp [dl] at hm;exact absurd hm.symm (h2 d (by simp [cn])).2
    ·exact hx.imp (fun h=>by rw [e1 _ hm];exact h) (e2 _)
   refine Mx r h3 hx' (fun d hd=>?_) fun T'' f1 f2=>hK T'' (fun t ht=>?_) (fun d hd=>f2 d (e2 d hd))
   ·rcases ZD.1 hd with hd|hd
    ·exact e3 d hd
    ·exact e2 d (hseen d hd)
   ·simp only [SOp.flatL,bx,aa3,ZD,not_or] at ht;rw [f1 t ht.2,e1 t ht.1]
end
def Iu (l:List SOp):List Nat:=l.flatMap cn
theorem Nu:∀ (l:List SOp),∀ d∈Iu l,d∈bx (SOp.flatL l)
 | [],d,h=>by simp [Iu] at h
 | s::r,d,h=>by
   simp only [Iu,aaO,ZD] at h;simp only [SOp.flatL,bx,aa3,ZD];exact h.imp (Ph s d) (Nu r d)
theorem YJ {o:ai} {k:Tm->Prop} {T:Tm} (h:GOp P L o k T):∃ v,AQv P o T L v/\k (cg o.dst v T):=by
 obtain ⟨d,op,gd⟩:=o;simp only [GOp] at h;unfold AQv;cases op
 case call f xs =>
  simp only at h ⊢;cases he:eW T xs with
  | none=>rw [he] at h;exact h.elim
  | some args=>rw [he] at h;obtain ⟨v,h1,h2⟩:=h;exact ⟨v,h1,h2⟩
 case callv f xs =>
  simp only at h ⊢;cases hf:evX T f with
  | none=>rw [hf] at h;exact h.elim
  | some u =>
    rw [hf] at h;cases he:eW T xs with
    | none=>rw [he] at h;cases u<;>exact h.elim
    | some args =>
      rw [he] at h;cases u<;>simp only [R4] at h
      obtain ⟨v,h1,h2⟩:=h;exact ⟨v,h1,h2⟩
 all_goals
  simp only at h ⊢;generalize ah T L _=r at h ⊢;cases r with
  | none=>exact h.elim
  | some r =>
    obtain ⟨c,av,L'⟩:=r;exact ⟨av,⟨h.1,rfl,h.2.1⟩,h.2.2⟩
mutual
theorem Yv (s:SOp) {g:Option (Nat×Bool)} {seen D:List Nat} {rest:List ai} {T T1:Tm} {k:Tm->Prop} (hok:Og g seen D s=true) (hx:∀ g1,g=some g1->g1.1 ∉ D/\ao T g1.1=some (.bool g1.2)) (hfr:∀ d∈gds [s],ao T d=none) (ha:Agr D T T1) (h:GO P L s k T)
  (hK:∀ T' T1',k T'->Agr (D++gds [s]) T' T1'->(∀ t,t ∉ cn s->ao T' t=ao T t)->AR P K rest L T1'):AR P K (s.flat++rest) L T1:=by
 cases s with
 | op o =>
   simp only [Og,ZE,decide_eq_true_eq,ZJ,Z8,aam,decide_eq_false_iff_not] at hok;simp only [GO] at h;obtain ⟨v,h1,h2⟩:=YJ h;have hq:AQ P o T L v:=by
    unfold AQ;rw [hok.1];cases g with
    | none=>exact h1
    | some g1 =>
      obtain ⟨t,b⟩:=g1;have:=(hx _ rfl).2;simp only at this ⊢;rw [this];simp [h1]
   refine K3 (hq.congr fun t ht=>(ha t (hok.2 t ht)).symm) (hK _ _ h2 (fun t ht=>?_) fun t ht=>kz fun e=>ht (by simp [cn,e]));exact (ha.put _ _) t fun hm=>ht (aa4 _ hm)
 | grp g' t b body d x =>
   simp only [Og,ZE,decide_eq_true_eq,ZJ,Z8,aam,decide_eq_false_iff_not] at hok;obtain ⟨⟨⟨⟨⟨⟨hg',_⟩,htD⟩,htb⟩,hgb⟩,hxD⟩,hb⟩:=hok;simp only [GO] at h;have hfr':∀ u∈bx (SOp.flatL body),ao T u=none:=fun u hu=>hfr u (by simp [gds,hu])
   have hgd:gds [SOp.grp g' t b body d x]=bx (SOp.flatL body):=by simp [gds]
   rw [hgd] at hK;simp only [SOp.flat,ZO];have fin:∀ {T1b:Tm} (p q:Bool),ao T t=some (.bool p)->(∀ u,u ∉ D->u ∉ bx (SOp.flatL body)->ao T1b u=ao T u)->(p=b->evX T1b x=some (.bool q))->k ((d,.bool (mrg b p q))::T)->AR P K ([dl g' t b d x]++rest) L T1b:=fun {T1b} p q hp hT hq hk=>by
    have hv:ah T1b L (.pick (.tmp t) (if b then x else .av (.bool true)) (if b then .av (.bool false) else x))=some (True,.bool (mrg b p q),L):=by
     have ht':ao T1b t=some (.bool p):=by rw [hT t htD htb];exact hp
     cases b<;>cases p<;>simp [ah,evX,ht',mrg]<;>exact hq rfl
    have hqv:AQv P (dl g' t b d x) T1b L (.bool (mrg b p q)):=by
     simp only [AQv,dl,hv,and_self]
    have hq:AQ P (dl g' t b d x) T1b L (.bool (mrg b p q)):=by
     unfold AQ;cases g with
     | none=>simp only [dl,hg'];exact hqv
     | some g1 =>
       obtain ⟨t1,b1⟩:=g1;have h1:=hx _ rfl;simp only [dl,hg'];rw [show ao T1b t1=some (.bool b1) by rw [hT t1 h1.1 (by simpa using hgb)];exact h1.2];simp;exact hqv
    refine K3 hq (hK ((d,.bool (mrg b p q))::T) _ hk (fun u hu=>?_) fun u hu=>?_)
    ·simp only [ZD,not_or] at hu;simp only [dl,cg,ao];split
     ·rfl
     ·exact hT u hu.1 hu.2
    ·simp only [cn,ZS] at hu;simp only [ao];rw [if_neg (Ne.symm hu)]
   rcases hp:ao T t with _|u
   ·rw [hp] at h;exact h.elim
   rw [hp] at h;cases u<;>try exact h.elim
   rename_i p
   obtain ⟨q,hq,hk⟩:=h;by_cases e:p=b
   ·subst e;refine OP body hb (fun g1 e=>by cases e;exact ⟨htD,hp⟩) (fun u hu=>hfr' u (IB body u hu)) ha (hq rfl) fun Tb T1b hxb hab hTb=>fin p q hp (fun u h1 h2=>?_) (fun _=>?_) hk
    ·rw [hab u (by simp only [ZD,not_or];exact ⟨h1,fun hm=>h2 (IB body u hm)⟩)];exact hTb u fun hm=>h2 (Nu body u hm)
    ·have hxb':evX Tb x=some (.bool q):=hxb;rw [<- hxb'];cases x with
     | av a=>rfl
     | tmp t'=>exact hab t' (by have:=hxD t' (by simp [Opd.tmps]);simpa using this)
   ·have:p = !b:=Xj e;refine Mx body hb (.inl (by show ao T1 t=_;rw [ha t htD,hp,this])) (by simp) fun T1b h1 _=>fin p q hp (fun u h2 h3=>?_) (fun e'=>absurd e' e) hk
    rw [h1 u h3,ha u h2]
theorem OP (l:List SOp) {g:Option (Nat×Bool)} {seen D:List Nat} {rest:List ai} {T T1:Tm} {k:Tm->Prop} (hok:okG g seen D l=true) (hx:∀ g1,g=some g1->g1.1 ∉ D/\ao T g1.1=some (.bool g1.2)) (hfr:∀ d∈gds l,ao T d=none) (ha:Agr D T T1) (h:GL P L l k T)
  (hK:∀ T' T1',k T'->Agr (D++gds l) T' T1'->(∀ t,t ∉ Iu l->ao T' t=ao T t)->AR P K rest L T1'):AR P K (SOp.flatL l++rest) L T1:=by
 cases l with
 | nil =>
   rw [GL] at h;exact hK T T1 h (by simpa [gds] using ha) (fun _ _=>rfl)
 | cons s r =>
   simp only [okG,ZE,ZJ,Z8,aam,decide_eq_false_iff_not] at hok;obtain ⟨⟨h1,h2'⟩,h3⟩:=hok;have h2:∀ d∈cn s,d ∉ gds r:=fun d hd=>(h2' d hd).1.2
   simp only [SOp.flatL,ZO];rw [GL] at h;rw [IC] at hfr hK;refine Yv s h1 hx (fun d hd=>hfr d (aa4 _ hd)) ha h fun T' T1' hk e1 e2=>?_
   refine OP r h3 (fun g1 hg=>?_) (fun d hd=>?_) e1 hk fun T'' T1'' hk' f1 f2=>hK T'' T1'' hk' (by rwa [ZO] at f1) fun t ht=>?_
   ·subst hg;have hne:g1.1 ∉ cn s:=fun hm=>by
     have:=(h2' _ hm).2;simp at this
    have hng:g1.1 ∉ gds [s]:=fun hm=>by
     cases s with
     | op o=>simp [gds] at hm
     | grp g' t b body d x =>
       simp only [Og,ZE,Z8,aam,decide_eq_false_iff_not] at h1;simp only [gds,aah] at hm;exact h1.1.1.2 hm
    have h4:=hx g1 rfl;exact ⟨by simp only [ZD,not_or];exact ⟨h4.1,hng⟩,by rw [e2 _ hne];exact h4.2⟩
   ·rw [e2 d (fun hm=>h2 d hm hd)];exact hfr d (abx _ hd)
   ·simp only [Iu,aaO,ZD,not_or] at ht;rw [f2 t ht.2,e2 t ht.1]
end
theorem Pi:∀ (l:List SOp) {g:Option (Nat×Bool)} {seen D:List Nat},okG g seen D l=true->∀ t∈Iu l,t ∉ D++gds l
 | [],_,_,_,_,t,h=>by simp [Iu] at h
 | s::r,g,seen,D,hok,t,h=>by
   simp only [okG,ZE,ZJ,Z8,aam,decide_eq_false_iff_not] at hok;obtain ⟨⟨h1,h2⟩,h3⟩:=hok;rw [IC];simp only [Iu,aaO,ZD] at h;rcases h with h|h
   ·have:=(h2 t h).1;simp only [ZD,not_or] at this ⊢;exact ⟨this.1.1,this.1.2,this.2⟩
   ·have:=Pi r h3 t h;simp only [ZD,not_or] at this ⊢;exact ⟨this.1.1,this.1.2,this.2⟩
theorem TH {l:List SOp} {T:Tm} {k:Tm->Prop} (hok:okG none [] [] l=true) (hfr:Fr (gds l) T) (h:GL P L l k T):AR P (fun T1 L'=>L'=L/\∃ T',k T'/\∀ t v,ao T' t=some v->ao T1 t=some v) (SOp.flatL l) L T:=by
 have:=OP (K:=fun T1 L'=>L'=L/\∃ T',k T'/\∀ t v,ao T' t=some v->ao T1 t=some v) (rest:=[]) l hok (fun _ e=>by cases e) hfr (T1:=T) (fun _ _=>rfl) h fun T' T1' hk e1 e2=>YR ⟨rfl,T',hk,fun t v hv=>?_⟩
 ·simpa using this
 ·by_cases hm:t∈gds l
  ·by_cases ho:t∈Iu l
   ·exact absurd (by simpa using hm) (Pi l hok t ho)
   ·rw [e2 t ho,hfr t hm] at hv;cases hv
  ·rw [e1 t (by simpa using hm)];exact hv
end
section
variable {P:Program} {r:Option Nat} {w0:World} {S0:SB} {N:Nat}
inductive bV where
 | skip
 | sreg (sops:List SOp) (mask:List Bool)
 | sdreg (sops:List SOp) (kds:List Kd) (mask:List Bool)
 | dregM (qk:List (ai×Kd)) (ts:List ai) (mask:List Bool)
 | region (ops:List ai)
 | dregion (qk:List (ai×Kd)) (ts:List ai)
 | seq (a b:bV)
 | cond (c:Opd) (a b:bV)
 | block (id:Nat) (c:bV)
 | loop (c:bV)
 | exit (id:Nat)
 | ret
 | rangeF (g:Opd) (ps:List Nat) (x y:bV)
 | scope (c:bV)
 | label
 deriving Inhabited
def bV.raw:bV->bV
 | .sreg s _=>.region (SOp.flatL s)
 | .dregM qk ts _=>.dregion qk ts
 | .sdreg s kds _=>.dregion ((SOp.flatL s).zip kds) ((SOp.flatL s).drop kds.length)
 | .seq a b=>.seq a.raw b.raw
 | .cond c a b=>.cond c a.raw b.raw
 | .block id c=>.block id c.raw
 | .loop c=>.loop c.raw
 | .rangeF g ps x y=>.rangeF g ps x.raw y.raw
 | .scope c=>.scope c.raw
 | c=>c
def bV.hasRF:bV->Bool
 | .seq a b=>a.hasRF || b.hasRF
 | .cond _ a b=>a.hasRF || b.hasRF
 | .block _ c=>c.hasRF
 | .loop c=>c.hasRF
 | .scope c=>c.hasRF
 | .rangeF ..=>true
 | _=>false
def LOp.effB:LOp->Bool
 | .alloc _ | .box _ | .s2bO _ | .s2bG _ | .rangeS _ | .nextS _ | .store .. | .mkslice .. | .app .. | .appz .. | .copy .. | .clear .. | .mkmap | .mset .. | .mdel .. | .mrange _ | .mnext _=>true
 | .bslice own ..=>own
 | _=>false
def Y5 (own:Nat->Nat) (i:Nat) (o:ai):Bool:=o.op.effB || own i == 3
def Yh (eff:Nat->ai->Bool) (tbl:List Nat) (es:List Nat) (i:Nat) (o:ai):Kd :=
 if o.op.pureB=true then .pure else if eff i o=true then .eff
 else .read (es.filter fun e=>decide (e<i) && !(tbl.getD i 0).testBit e).length (es.filter fun e=>decide (i<e) && !(tbl.getD e 0).testBit i).length
def Oq (eff:Nat->ai->Bool) (tbl:List Nat) (qs:List ai):List (ai×Kd) :=
 let es:=(qs.zipIdx.filter fun p=>eff p.2 p.1).map (·.2)
 qs.zipIdx.map fun p=>(p.1,Yh eff tbl es p.2 p.1)
theorem Pt (eff:Nat->ai->Bool) (tbl:List Nat) (qs:List ai):(Oq eff tbl qs).map (·.1)=qs:=by
 simp [Oq,Z4,abw]
def bc (P:Program) (N:Nat) (own:Nat->Nat->Nat):Code->Option bV
 | .skip=>some .skip
 | .region id ops false=>(bT P N (own id) ops (List.range ops.size)).map .region
 | .region id ops true=>(bT P N (own id) ops (List.range ops.size)).bind fun los =>
   let n:=NU (kW ops.toList []) 0 los.length
   let qk:=Oq (Y5 (own id)) (kW ops.toList []) (los.take n)
   if (CM ops los n && decide (n<=los.length) && P.follows .mixedOrders && Ja (kW ops.toList []) qk)=true then some (.dregion qk (los.drop n)) else none
 | .seq a b=>match bc P N own a,bc P N own b with
   | some x,some y=>some (.seq x y)
   | _,_=>none
 | .cond c a b=>match bB c,bc P N own a,bc P N own b with
   | some c,some x,some y=>some (.cond c x y)
   | _,_,_=>none
 | .block id c=>(bc P N own c).map (.block id)
 | .loop c=>(bc P N own c).map .loop
 | .exit id=>some (.exit id)
 | .ret=>some .ret
 | .scope c=>(bc P N own c).map .scope
 | .label _=>some .label
 | .rangeFunc g ps x y=>match bB g,bc P N own x,bc P N own y with
   | some g,some x,some y=>if (!x.hasRF && !y.hasRF && ps.all fun p=>decide (p<N))=true then some (.rangeF g ps.toList x y) else none
   | _,_,_=>none
 | _=>none
structure Bs (w0:World) (S0:SB) (w1:World) (S1:SB):Prop where
 size:w0.heap.size<=w1.heap.size
 fr:∀ k,k<w0.heap.size->¬ S0 k->¬ S1 k/\w1.heap[k]?=w0.heap[k]?
 sub:∀ k,S1 k->S0 k\/w0.heap.size<=k
 os:w1.os=w0.os
 tape:w1.tape=w0.tape
 output:w1.output=w0.output
 low:S1.B=S0.B
theorem Bs.refl (w0:World) (S0:SB):Bs w0 S0 w0 S0:=⟨ZA _,fun _ _ h=>⟨h,rfl⟩,fun _ h=>.inl h,rfl,rfl,rfl,rfl⟩
theorem Bs.trans {w0 w1 w2:World} {S0 S1 S2:SB} (h:Bs w0 S0 w1 S1) (k:Bs w1 S1 w2 S2):Bs w0 S0 w2 S2 :=
 ⟨Z0 h.size k.size,fun i hi hs=>by
  obtain ⟨h1,h2⟩:=h.fr i hi hs;obtain ⟨h3,h4⟩:=k.fr i (aaV hi h.size) h1;exact ⟨h3,h4.trans h2⟩,fun i hi=>by
  rcases k.sub i hi with h1|h1
  ·exact h.sub i h1
  ·exact .inr (Z0 h.size h1),k.os.trans h.os,k.tape.trans h.tape,k.output.trans h.output,k.low.trans h.low⟩
theorem Bs.rel {w0 w1 w:World} {S0 S1:SB} (h:Bs w0 S0 w1 S1) {E:Env} {L:List Blk} (hR:Rel w1 S1 E L w):Rel w0 S0 E L w :=
 ⟨hR.mem,hR.blk,hR.fresh,fun i k c h1 h2 h3=>⟨(hR.own i k c h1 h2 h3).1,by
  rcases (hR.own i k c h1 h2 h3).2 with h4|h4
  ·exact h.sub _ h4
  ·exact .inr (Z0 h.size h4)⟩,hR.inj,hR.tkfresh,fun i n sz t k h1 h2 h3=>⟨(hR.tkown i n sz t k h1 h2 h3).1,by
  rcases (hR.tkown i n sz t k h1 h2 h3).2 with h4|h4
  ·exact h.sub _ h4
  ·exact .inr (Z0 h.size h4)⟩,hR.tkloc,hR.tkinj,fun k hk hs=>by
  obtain ⟨h1,h2⟩:=h.fr k hk hs;exact (hR.frame k (aaV hk h.size) h1).trans h2,Z0 h.size hR.size,hR.os.trans h.os,hR.tape.trans h.tape,hR.output.trans h.output,hR.glob,hR.gsz⟩
theorem Rel.ownSub {w0 w:World} {S0:SB} {E:Env} {L:List Blk} (hR:Rel w0 S0 E L w) (k:Nat) (hk:OT E L k):S0 k\/w0.heap.size<=k:=by
 rcases hk with ⟨i,b,c,h1,h2,h3,rfl⟩|⟨i,n,sz,t,c,h1,h2,h3,rfl⟩
 ·exact (hR.own i b c h1 h2 h3).2
 ·exact (hR.tkown i n sz t c h1 h2 h3).2
theorem Rel.bs {w0 w:World} {S0:SB} {E:Env} {L:List Blk} (hR:Rel w0 S0 E L w):Bs w0 S0 w ⟨OT E L,S0.B⟩ :=
 ⟨hR.size,fun k hk hs=>⟨fun ho=>by
  rcases hR.ownSub k ho with h1|h1
  ·exact hs h1
  ·omega,hR.frame k hk hs⟩,hR.ownSub,hR.os,hR.tape,hR.output,rfl⟩
theorem Rg.bs {w0 w1:World} {S0 S1:SB} {ds:List Deferred} (h:Rg w0 S0 ds) (b:Bs w0 S0 w1 S1):Rg w1 S1 ds:=⟨by rw [b.low];exact Z0 h.1 b.size,h.2.1,fun d hd=>by
 obtain ⟨D,h1,h0,h2,h3,h4⟩:=h.2.2 d hd;obtain ⟨h5,h6⟩:=b.fr D h2 h3;exact ⟨D,h1,by rw [b.low];exact h0,aaV h2 b.size,h5,h6.trans h4⟩⟩
def AW (P:Program) (N:Nat) (own:Nat->Nat->Nat) (lc:bV) (Q:Exit->Tm->List Blk->Prop) (T:Tm) (L:List Blk):Prop :=
 ∀ c,bc P N own c=some lc.raw->∀ (r:Option Nat),(lc.hasRF=true->r=none)->∀ (w0:World) (S0:SB) (E:Env) (a:Act) (w:World),St w0 S0 N E T L a w ->
  c.wpIn (dW r) 0 P (fun e a' w'=>∃ w1 S1 E' T' L',Bs w0 S0 w1 S1/\E.le E'/\Q e T' L'/\St w1 S1 N E' T' L' a' w') a w
variable {own:Nat->Nat->Nat} {Q:Exit->Tm->List Blk->Prop} {T:Tm} {L:List Blk}
theorem AW.mono {lc:bV} {Q':Exit->Tm->List Blk->Prop} (h:AW P N own lc Q T L) (hq:∀ e T L,Q e T L->Q' e T L):AW P N own lc Q' T L:=fun c hc r hr w0 S0 E a w hst =>
 wpIn_mono (h c hc r hr w0 S0 E a w hst) fun e a' w' ⟨w1,S1,E',T',L',b,h1,h2,h3⟩=>⟨w1,S1,E',T',L',b,h1,hq _ _ _ h2,h3⟩
theorem AW.weakT {lc:bV} {T':Tm} (h:AW P N own lc Q T' L) (hT:∀ t v,ao T' t=some v->ao T t=some v):AW P N own lc Q T L:=fun c hc r hr w0 S0 E a w hst =>
 h c hc r hr w0 S0 E a w (hst.weak hT rfl fun _ _ e=>.inr e)
theorem my {c:Code} {x:bV} (hc:bc P N own c=some x):match x with
  | .skip=>c=.skip
  | .exit id=>c=.exit id
  | .ret=>c=.ret
  | .label=>∃ l,c=.label l
  | .seq x y=>∃ c1 c2,c=.seq c1 c2/\bc P N own c1=some x/\bc P N own c2=some y
  | .cond o x y=>∃ c0 c1 c2,c=.cond c0 c1 c2/\bB c0=some o/\bc P N own c1=some x/\bc P N own c2=some y
  | .block id x=>∃ c1,c=.block id c1/\bc P N own c1=some x
  | .loop x=>∃ c1,c=.loop c1/\bc P N own c1=some x
  | .scope x=>∃ c1,c=.scope c1/\bc P N own c1=some x
  | .region ops=>∃ id os,c=.region id os false/\bT P N (own id) os (List.range os.size)=some ops
  | .dregion qk ts=>∃ id os los n,c=.region id os true/\bT P N (own id) os (List.range os.size)=some los/\CM os los n=true/\n<=los.length/\P.follows .mixedOrders=true/\qk.map (·.1)=los.take n/\ts=los.drop n/\Ja (kW os.toList []) qk=true
  | _=>True:=by
 cases c with
 | skip=>cases hc;rfl
 | ret=>cases hc;rfl
 | exit id=>cases hc;rfl
 | label l=>cases hc;exact ⟨_,rfl⟩
 | goto l=>cases hc
 | refuse s=>cases hc
 | block id c=>simp only [bc,ZZ] at hc;obtain ⟨_,h1,rfl⟩:=hc;exact ⟨_,rfl,h1⟩
 | loop c=>simp only [bc,ZZ] at hc;obtain ⟨_,h1,rfl⟩:=hc;exact ⟨_,rfl,h1⟩
 | scope c=>simp only [bc,ZZ] at hc;obtain ⟨_,h1,rfl⟩:=hc;exact ⟨_,rfl,h1⟩
 | seq a b => simp only [bc] at hc; split at hc <;> try (cases hc; done)
              rename_i h1 h2;cases hc;exact ⟨_,_,rfl,h1,h2⟩
 | cond k a b => simp only [bc] at hc; split at hc <;> try (cases hc; done)
                 rename_i h1 h2 h3;cases hc;exact ⟨_,_,_,rfl,h1,h2,h3⟩
 | rangeFunc f ps a b =>
   simp only [bc] at hc
   repeat' split at hc
   all_goals cases hc
   trivial
 | region id ops draw =>
   cases draw
   ·simp only [bc,ZZ] at hc;obtain ⟨_,h1,rfl⟩:=hc;exact ⟨_,_,rfl,h1⟩
   ·simp only [bc,abF] at hc;obtain ⟨los,h1,hc⟩:=hc;split at hc
    ·rename_i hb
     simp only [ZE,decide_eq_true_eq] at hb;cases hc;exact ⟨_,_,los,_,rfl,h1,hb.1.1.1,hb.1.1.2,hb.1.2,Pt _ _ _,rfl,hb.2⟩
    ·cases hc
theorem Ve {c:Code} (hc:bc P N own c=some .skip):c=.skip:=my hc
theorem Vg {c:Code} {id:Nat} (hc:bc P N own c=some (.exit id)):c=.exit id:=my hc
theorem W6 {c:Code} (hc:bc P N own c=some .ret):c=.ret:=my hc
theorem RG {c:Code} {x y:bV} (hc:bc P N own c=some (.seq x y)):∃ c1 c2,c=.seq c1 c2/\bc P N own c1=some x/\bc P N own c2=some y:=my hc
theorem Px {c:Code} {o:Opd} {x y:bV} (hc:bc P N own c=some (.cond o x y)):∃ c0 c1 c2,c=.cond c0 c1 c2/\bB c0=some o/\bc P N own c1=some x/\bc P N own c2=some y:=my hc
theorem SY {c:Code} {id:Nat} {x:bV} (hc:bc P N own c=some (.block id x)):∃ c1,c=.block id c1/\bc P N own c1=some x:=my hc
theorem Vf {c:Code} {x:bV} (hc:bc P N own c=some (.loop x)):∃ c1,c=.loop c1/\bc P N own c1=some x:=my hc
theorem Gz {c:Code} {ops:List ai} (hc:bc P N own c=some (.region ops)):∃ id os,c=.region id os false/\bT P N (own id) os (List.range os.size)=some ops:=my hc
theorem Kj {c:Code} {qk:List (ai×Kd)} {ts:List ai} (hc:bc P N own c=some (.dregion qk ts)):∃ id os los n,c=.region id os true/\bT P N (own id) os (List.range os.size)=some los/\CM os los n=true/\n<=los.length/\P.follows .mixedOrders=true/\qk.map (·.1)=los.take n/\ts=los.drop n/\Ja (kW os.toList []) qk=true:=my hc
theorem fz {b:Frame} {a:Act} {k:List Item} {cs:List Frame} {w:World} {c:Code}:step P (lone (b.atR a (.code (.scope c)::k)) cs w)=.next (lone (b.atR a (.code c :: .inScope c::k)) cs w) :=
 step_lone_go (by simp [stepG,stepG.exec,Frame.atR])
theorem MK {b:Frame} {a:Act} {k:List Item} {cs:List Frame} {w:World} {c:Code}:step P (lone (b.atR a (.inScope c::k)) cs w)=.next (lone (b.atR a k) cs w) :=
 step_lone_go (by simp [stepG,stepG.exec,Frame.atR])
theorem Qd {F:Fence} {n:Nat} {a:Act} {w:World} {Q:Exit->Act->World->Prop} {c:Code} (h:c.wpIn F n P (Exit.noGoto Q) a w):(Code.scope c).wpIn F n P Q a w:=by
 intro b k cs hro hb hr;have h0:(lone (b.atR a (.code (.scope c)::k)) cs w).fenced P F:=fenced_calm hb hr rfl;obtain ⟨e,a₁,w₁,hq,harr⟩:=h b (.inScope c::k) cs hro hb hr;cases e with
 | normal=>exact ⟨.normal,a₁,w₁,hq,.head h0 fz (StepsIn.trans harr (.one (fenced_calm hb hr rfl) MK))⟩
 | exit id =>
   have hx:exitTo id (.inScope c::k)=exitTo id k:=by simp [exitTo]
   exact ⟨.exit id,a₁,w₁,hq,fun k' hk=>.head h0 fz (harr.1 k' (by rw [hx];exact hk)),
    fun hr' hk=>let ⟨k₁,h1,h2⟩:=harr.2 hr' (by rw [hx];exact hk);⟨k₁,h1,.head h0 fz h2⟩⟩
 | goto l=>exact hq.elim
 | ret=>exact ⟨_,a₁,w₁,hq,.of_steps (.one h0 fz) harr⟩
 | panic ch=>exact ⟨_,a₁,w₁,hq,.of_steps (.one h0 fz) harr⟩
 | outgrown=>exact ⟨_,a₁,w₁,hq,.of_steps (.one h0 fz) harr⟩
theorem aQ (h:Q .normal T L):AW P N own .skip Q T L:=fun c hc r hr w0 S0 E a w hst=>by
 obtain rfl:=Ve hc;exact wpIn_skip ⟨w0,S0,E,T,L,.refl _ _,.refl E,h,hst⟩
theorem aV {id:Nat} (h:Q (.exit id) T L):AW P N own (.exit id) Q T L:=fun c hc r hr w0 S0 E a w hst=>by
 obtain rfl:=Vg hc;exact wpIn_exit ⟨w0,S0,E,T,L,.refl _ _,.refl E,h,hst⟩
theorem bq (h:Q .ret T L):AW P N own .ret Q T L:=fun c hc r hr w0 S0 E a w hst=>by
 obtain rfl:=W6 hc;exact wpIn_ret ⟨w0,S0,E,T,L,.refl _ _,.refl E,h,hst⟩
def RY (K:Tm->List Blk->Prop) (Q:Exit->Tm->List Blk->Prop):Exit->Tm->List Blk->Prop
 | .normal,T,L=>K T L
 | e,T,L=>Q e T L
theorem bb {x y:bV} (h:AW P N own x (RY (AW P N own y Q) Q) T L):AW P N own (.seq x y) Q T L:=fun c hc r hr w0 S0 E a w hst=>by
 obtain ⟨c1,c2,rfl,h1,h2⟩:=RG hc;refine wpIn_seq (wpIn_mono (h c1 h1 r (fun e=>hr (by simp [bV.hasRF,e])) w0 S0 E a w hst) fun e a' w' ⟨w1,S1,E',T',L',b,g1,g2,g3⟩=>?_);cases e
 case normal=>exact wpIn_mono (g2 c2 h2 r (fun e=>hr (by simp [bV.hasRF,e])) w1 S1 E' a' w' g3) fun e a'' w'' ⟨w2,S2,E'',T'',L'',b2,k1,k2,k3⟩=>⟨w2,S2,E'',T'',L'',b.trans b2,g1.trans k1,k2,k3⟩
 all_goals exact ⟨w1,S1,E',T',L',b,g1,g2,g3⟩
theorem aM {x:Opd} {y z:bV} {b:Bool} (hx:evX T x=some (.bool b)) (ht:b=true->AW P N own y Q T L) (hf:b=false->AW P N own z Q T L):AW P N own (.cond x y z) Q T L:=fun c hc r hr w0 S0 E a w hst=>by
 obtain ⟨c0,c1,c2,rfl,h1,h2,h3⟩:=Px hc;have:=ag h1 hx hst.2.1;simp only [VR] at this;exact wpIn_cond_split this (fun e=>ht e c1 h2 r (fun e=>hr (by simp [bV.hasRF,e])) w0 S0 E a w hst) (fun e=>hf e c2 h3 r (fun e=>hr (by simp [bV.hasRF,e])) w0 S0 E a w hst)
def Rf (id:Nat) (Q:Exit->Tm->List Blk->Prop):Exit->Tm->List Blk->Prop
 | .exit id',T,L=>if id'=id then Q .normal T L else Q (.exit id') T L
 | e,T,L=>Q e T L
theorem an {x:Opd} {y z:bV} (hx:evX T x=some .anyb) (ht:AW P N own y Q T L) (hf:AW P N own z Q T L):AW P N own (.cond x y z) Q T L:=fun c hc r hr w0 S0 E a w hst=>by
 obtain ⟨c0,c1,c2,rfl,h0,h1,h2⟩:=Px hc;have hv:=ag h0 hx hst.2.1;simp only [VR] at hv;obtain ⟨b,hv⟩:=hv;exact wpIn_cond_split hv (fun _=>ht c1 h1 r (fun e=>hr (by simp [bV.hasRF,e])) w0 S0 E a w hst) (fun _=>hf c2 h2 r (fun e=>hr (by simp [bV.hasRF,e])) w0 S0 E a w hst)
theorem aG {id:Nat} {x:bV} (h:AW P N own x (Rf id Q) T L):AW P N own (.block id x) Q T L:=fun c hc r hr w0 S0 E a w hst=>by
 obtain ⟨c1,rfl,h1⟩:=SY hc;refine wpIn_block (wpIn_mono (h c1 h1 r (fun e=>hr (by simp [bV.hasRF,e])) w0 S0 E a w hst) fun e a' w' ⟨w1,S1,E',T',L',b,g1,g2,g3⟩=>?_);cases e
 case exit i =>
  simp only [Rf] at g2;simp only [Exit.inBlock];split at g2
  ·rename_i e;rw [if_pos e];exact ⟨w1,S1,E',T',L',b,g1,g2,g3⟩
  ·rename_i e;rw [if_neg e];exact ⟨w1,S1,E',T',L',b,g1,g2,g3⟩
 all_goals exact ⟨w1,S1,E',T',L',b,g1,g2,g3⟩
def OS (Q:Exit->Tm->List Blk->Prop):Exit->Tm->List Blk->Prop
 | .goto _,_,_=>False
 | e,T,L=>Q e T L
theorem Wa:OS Q .normal T L=Q .normal T L:=rfl
theorem Wb {i:Nat}:OS Q (.exit i) T L=Q (.exit i) T L:=rfl
theorem V9:OS Q .ret T L=Q .ret T L:=rfl
attribute [push_cast] Wa Wb V9
theorem aB {x:bV} (h:AW P N own x (OS Q) T L):AW P N own (.scope x) Q T L:=fun c hc r hr w0 S0 E a w hst=>by
 obtain ⟨c1,rfl,h1⟩:=my hc;refine Qd (wpIn_mono (h c1 h1 r (fun e=>hr (by simp [bV.hasRF,e])) w0 S0 E a w hst) fun e a' w' ⟨w1,S1,E',T',L',b,g1,g2,g3⟩=>?_);cases e
 case goto l=>exact g2.elim
 all_goals exact ⟨w1,S1,E',T',L',b,g1,g2,g3⟩
theorem aC (h:Q .normal T L):AW P N own .label Q T L:=fun c hc r hr w0 S0 E a w hst=>by
 obtain ⟨l,rfl⟩:=my hc;exact wpIn_label ⟨w0,S0,E,T,L,.refl _ _,.refl E,h,hst⟩
theorem OG (p:Nat->Prop):∀ n,p n->∃ m,p m/\∀ k,p k->m<=k:=by
 intro n
 induction n using Nat.strongRecOn with
 | _ n ih =>
   intro hn;by_cases h:∃ k,k<n/\p k
   ·obtain ⟨k,h1,h2⟩:=h;exact ih k h1 h2
   ·refine ⟨n,hn,fun k hk=>?_⟩;rcases ZT k n with h1|h1
    ·exact absurd ⟨k,h1,hk⟩ h
    ·exact h1
theorem St.draw {E:Env} {a:Act} {w:World} {T:Tm} {L:List Blk} (h:St w0 S0 N E T L a w) (n:Nat):St w0 S0 N E T L a { w with drawn:=n }:=⟨h.1.draw n,h.2⟩
theorem MJ {qk:List (ai×Kd)} {ts:List ai} (h:AG P (iV P (Q .normal) ts) qk [L] [] T):AW P N own (.dregion qk ts) Q T L:=fun c hc r hr w0 S0 E a w hst=>by
 obtain ⟨id,os,los,n,rfl,h1,h2,h3,h4,h5,rfl,h6⟩:=Kj hc;refine wpIn_region_any h4 ?_;have hn:qk.length=n:=by
  have:=congrArg List.length h5;simp at this;omega
 exact PZ (w0:=w0) (S0:=S0) (L:=L) (T:=T) (Q:=fun e a' w'=>∃ w1 S1 E' T' L',Bs w0 S0 w1 S1/\E.le E'/\Q e T' L'/\St w1 S1 N E' T' L' a' w') (K:=Q .normal) (E0:=E) h1 h2 (by rw [h5,aby]) hn h6 h (fun E' T' L' a' w' e1 e2 e3=>⟨w0,S0,E',T',L',.refl _ _,e1,e2,e3⟩) a _ E (.refl E) (hst.draw _)
def X3 (mask:List Bool) (T:Tm):Bool:=(mask.zip T).all fun p=>p.1 || (ao (sel mask T) p.2.1).isNone
theorem K9:∀ {mask:List Bool} {T:Tm} {t:Nat} {v:AV},(∀ p∈mask.zip T,p.1=true\/p.2.1≠t)->ao (sel mask T) t=some v->ao T t=some v
 | [],T,t,v,_,h=>by rwa [Rv] at h
 | true::m,[],t,v,_,h=>by simp [sel,ao] at h
 | false::m,[],t,v,_,h=>by simp [sel,ao] at h
 | true::m,x::T,t,v,hm,h=>by
   obtain ⟨k,u⟩:=x;rw [XC] at h;simp only [ao] at h ⊢;split
   ·rename_i e;rw [if_pos e] at h;exact h
   ·rename_i e;rw [if_neg e] at h
    exact K9 (fun p hp=>hm p (by simp only [List.zip_cons_cons,ZF];exact .inr hp)) h
 | false::m,x::T,t,v,hm,h=>by
   obtain ⟨k,u⟩:=x;rw [XD] at h;have hk:k≠t:=by
    rcases hm (false,(k,u)) (by simp) with h|h
    ·cases h
    ·exact h
   simp only [ao];rw [if_neg hk];exact K9 (fun p hp=>hm p (by simp only [List.zip_cons_cons,ZF];exact .inr hp)) h
theorem Dn {mask:List Bool} {T:Tm} {t:Nat} {v:AV} (hb:X3 mask T=true) (h:ao (sel mask T) t=some v):ao T t=some v :=
 K9 (fun p hp=>by
  have:=ZJ.1 hb p hp;rcases Bool.or_eq_true_iff.1 this with h1|h1
  ·exact .inl h1
  ·refine .inr fun e=>?_
   rw [e,h] at h1;cases h1) h
def ME (mask:List Bool) (K:Tm->List Blk->Prop) (T:Tm) (L:List Blk):Prop:=X3 mask T=true/\K (sel mask T) L
theorem aP {mask:List Bool} {K:Tm->List Blk->Prop} {T:Tm} {L:List Blk} (h1:X3 mask T=true) (h2:K (sel mask T) L):ME mask K T L:=⟨h1,h2⟩
def frB (ds:List Nat) (T:Tm):Bool:=ds.all fun d=>(ao T d).isNone
theorem aU {sops:List SOp} {mask:List Bool} (hf:(okS sops && frB (gds sops) T)=true) (h:SL P sops (ME mask (Q .normal)) T L):AW P N own (.sreg sops mask) Q T L:=fun c hc r hr w0 S0 E a w hst=>by
 obtain ⟨id,os,rfl,h1⟩:=Gz hc;rw [ZE] at hf;refine wpIn_region (wi sops hf.1 h1 hst (fun d hd=>?_) h fun E' T' L' a' w' h2 h3 h4=>⟨w0,S0,E',sel mask T',L',.refl _ _,h2,h3.2,h4.weak (fun t v hv=>Dn h3.1 hv) rfl fun _ _ e=>.inr e⟩);have:=ZJ.1 hf.2 d hd;simpa using this
def YD (mask:List Bool) (K:Tm->List Blk->Prop) (L:List Blk) (T:Tm):Prop:=ME mask K T L
theorem Xs {mask:List Bool} {K:Tm->List Blk->Prop} {T:Tm} {L:List Blk}:YD mask K L T=ME mask K T L:=rfl
theorem aA {sops:List SOp} {kds:List Kd} {mask:List Bool} (hf:(okG none [] [] sops && frB (gds sops) T && decide (kds.length<=(SOp.flatL sops).length))=true) (h:GL P L sops (YD mask (Q .normal) L) T):AW P N own (.sdreg sops kds mask) Q T L:=fun c hc r hr w0 S0 E a w hst=>by
 obtain ⟨id,os,los,n,rfl,h1,h2,h3,h4,h5,h6,_⟩:=Kj hc;simp only [ZE,decide_eq_true_eq] at hf;obtain ⟨⟨f1,f2⟩,f3⟩:=hf;have hlos:los=SOp.flatL sops:=by
  have e1:((SOp.flatL sops).zip kds).map (·.1)=(SOp.flatL sops).take kds.length:=by
   have key:∀ (l:List ai) (m:List Kd),(l.zip m).map (·.1)=l.take m.length:=by
    intro l
    induction l with
    | nil=>intro m;simp
    | cons o l ih=>intro m;cases m<;>simp [ih]
   exact key _ _
  rw [e1] at h5;rw [<- aby n los,<- h5,<- h6,aby]
 have hlen:los.length=os.size:=by simpa using (rq h1).1
 refine wpIn_region_any h4 ?_;have hdraw:CM os los los.length=true:=by
  simp only [CM,ZE] at h2 ⊢;refine ⟨h2.1,?_⟩;simp only [Q8,ZJ,List.mem_range,aaa,decide_eq_true_eq];exact fun i hi=>.inl (by omega)
 have har:=TH (P:=P) (L:=L) f1 (T:=T) (fun d hd=>by
  have:=ZJ.1 f2 d hd;simpa using this) h
 refine PZ (w0:=w0) (S0:=S0) (L:=L) (T:=T) (Q:=fun e a' w'=>∃ w1 S1 E' T' L',Bs w0 S0 w1 S1/\E.le E'/\Q e T' L'/\St w1 S1 N E' T' L' a' w') (E0:=E) (qk:=los.map fun o=>(o,.read 0 0)) (ts:=[]) h1 hdraw (by simp [Z4,abw]) (by simp) ?_ (K:=fun T1 L'=>L'=L/\∃ T',YD mask (Q .normal) L T'/\∀ t v,ao T' t=some v->ao T1 t=some v)
  ?_ (fun E' T' L' a' w' e1 ⟨e2,T2,e3,e4⟩ e5=>?_) a _ E (.refl E) (hst.draw _)
 ·have hno:∀ (l:List ai) (k:Nat),cX (l.map fun o=>(o,Kd.read 0 0)) k=[]:=by
   intro l
   induction l with
   | nil=>intro k;rfl
   | cons o l ih=>intro k;simp only [ZK,cX];exact ih _
  simp only [Ja,hno,aav,List.range_zero,List.all_nil,aaw,ZJ];intro p hp;obtain ⟨⟨o,kd⟩,i⟩:=p;have:kd=Kd.read 0 0:=by
   have:=List.fst_mem_of_mem_zipIdx hp;simp only [ZC] at this;obtain ⟨o',_,e⟩:=this;cases e;rfl
  subst this;rfl
 ·rw [hlos];exact har
 ·subst e2;exact ⟨w0,S0,E',sel mask T2,_,.refl _ _,e1,e3.2,e5.weak (fun t v hv=>e4 t v (Dn e3.1 hv)) rfl fun _ _ e=>.inr e⟩
theorem aD {qk:List (ai×Kd)} {ts:List ai} {mask:List Bool} (h:AG P (iV P (ME mask (Q .normal)) ts) qk [L] [] T):AW P N own (.dregM qk ts mask) Q T L:=fun c hc r hr w0 S0 E a w hst=>by
 have:=MJ (N:=N) (own:=own) (Q:=fun e T' L'=>e=.normal/\ME mask (Q .normal) T' L') (L:=L) (T:=T) (qk:=qk) (ts:=ts) (P:=P) ?_ c hc r hr w0 S0 E a w hst
 ·refine wpIn_mono this fun e a' w' ⟨w1,S1,E',T',L',b,g1,⟨g2,g3⟩,g4⟩=>?_
  subst g2;exact ⟨w1,S1,E',sel mask T',L',b,g1,g3.2,g4.weak (fun t v hv=>Dn g3.1 hv) rfl fun _ _ e=>.inr e⟩
 ·have e:(fun T' L'=>Exit.normal=Exit.normal/\ME mask (Q .normal) T' L')=ME mask (Q .normal):=by
   funext T' L';simp
  rw [e];exact h
theorem ay {ops:List ai} (h:iV P (Q .normal) ops T L):AW P N own (.region ops) Q T L:=fun c hc r hr w0 S0 E a w hst=>by
 obtain ⟨id,os,rfl,h1⟩:=Gz hc;exact wpIn_region (GW _ _ h1 hst h fun E' T' L' a' w' h2 h3 h4=>⟨w0,S0,E',T',L',.refl _ _,h2,h3,h4⟩)
end
inductive P5 where
 | tmp (t:Nat)
 | cell (agg:Bool) (sz t:Nat)
 deriving Inhabited
structure br where
 ntmps:Nat
 code:bV
 res:List P5
 deriving Inhabited
def br.raw (f:br):br:=⟨f.ntmps,f.code.raw,f.res⟩
def Gu (P:Program):List ResultVar->Option (List P5)
 | []=>some []
 | .tmp t::l=>(Gu P l).map (.tmp t::·)
 | .cell a t::l=>match eV P t,cm P t,Gu P l with
   | some g,some s,some m=>some (.cell g s a::m)
   | _,_,_=>none
def bt (P:Program) (own:Nat->Nat->Nat) (f:FuncId):Option br :=
 match P.funcs[f]? with
 | none=>none
 | some fn=>if (fn.name == "runtime.NumGoroutine")=true then none else match fn.body with
   | none=>none
   | some c=>match bc P fn.ntmps own c,Gu P fn.results.toList with
     | some lc,some rs=>some ⟨fn.ntmps,lc,rs⟩
     | _,_=>none
def Kx (T:Tm) (L:List Blk):List P5->Option (Prop×List AV)
 | []=>some (True,[])
 | .tmp t::l=>match ao T t,Kx T L l with
   | some v,some (c,m)=>some (c,v::m)
   | _,_=>none
 | .cell g sz t::l=>match (ao T t).bind (row L),Kx T L l with
   | some (r,off),some (c,m)=>if g then some (off+sz<=r.length/\c,.agg ((r.drop off).take sz)::m) else some (off<r.length/\c,r.getD off .undef::m)
   | _,_=>none
def N9:List AV->AV
 | [v]=>v
 | l=>.tup l
def aq (i:Nat):List AV->Tm
 | []=>[]
 | a::l=>(i,a)::aq (i+1) l
section
variable {P:Program} {w0:World} {S0:SB} {N:Nat} {E:Env} {L:List Blk} {w:World} {T:Tm} {a:Act}
theorem Ha:∀ {rs:List ResultVar} {ls:List P5} {c:Prop} {m:List AV},Gu P rs=some ls->Kx T L ls=some (c,m)->c->Rel w0 S0 E L w->TR E T a ->
  ∃ vs,VRL E m vs/\(rs.mapM (m:=Sem) fun
   | .tmp t=>pure (a.tmps.getD t undef)
   | .cell x t=>do loadVar t (<- asAddr (a.tmps.getD x undef))).run P w=.ok vs w
 | [],ls,c,m,hl,he,hc,hR,hT=>by
   simp [Gu] at hl;subst hl;simp [Kx] at he;obtain ⟨_,rfl⟩:=he;exact ⟨[],by simp [VRL],by simp⟩
 | .tmp t::rs,ls,c,m,hl,he,hc,hR,hT=>by
   simp only [Gu,ZZ] at hl;obtain ⟨ls',h1,rfl⟩:=hl;simp only [Kx] at he;split at he<;>try cases he
   rename_i v c' m' h2 h3
   obtain ⟨vs,h4,h5⟩:=Ha h1 h3 hc hR hT;exact ⟨_::vs,⟨_,_,rfl,hT _ _ h2,h4⟩,by simp only [abD,ZG,Z3,ZH,h5]⟩
 | .cell x t::rs,ls,c,m,hl,he,hc,hR,hT=>by
   simp only [Gu] at hl;split at hl<;>try cases hl
   rename_i g s ls' hg hs h1
   simp only [Kx] at he;split at he<;>try cases he
   rename_i r off c' m' h2 h3
   rcases h6:ao T x with _|u
   ·simp [h6] at h2
   ·simp only [h6,aaJ] at h2;have hv:=hT _ _ h6;obtain ⟨b,o,hp,hcells⟩:=IW hR h2 hv;have hAddr:(asAddr (a.tmps.getD x undef)).run P w=.ok ⟨b,o+off,none⟩ w:=by rw [hp];rfl
    cases g
    ·simp only [ZP,if_false,ZB,ZL] at he;obtain ⟨rfl,rfl⟩:=he;obtain ⟨vs,h4,h5⟩:=Ha h1 h3 hc.2 hR hT;obtain ⟨y,h7,h8⟩:=hcells off r[off] (ZR hc.1);refine ⟨y::vs,⟨_,_,rfl,by rw [Z2,ZR hc.1];exact h8,h4⟩,?_⟩;have hload:(loadVar t ⟨b,o+off,none⟩).run P w=.ok y w:=by simp [loadVar,qP hg,h7]
     simp only [abD,ZG,hAddr,ZH,hload,h5,Z3]
    ·simp only [if_true,ZB,ZL] at he;obtain ⟨rfl,rfl⟩:=he;obtain ⟨vs,h4,h5⟩:=Ha h1 h3 hc.2 hR hT;have hlen:((r.drop off).take s).length=s:=by simp;omega
     obtain ⟨cs,h7,h8⟩:=Kg (P:=P) (w:=w) (b:=b) (o:=o+off) (l:=(r.drop off).take s) hg (by rw [hlen];exact hs) (fun j a ha=>by
      have hj:j<s:=by have:=(Zz.1 ha).1;omega
      rw [aas hj,aan] at ha;have:=hcells _ _ ha
      rwa [<- aaD] at this)
     refine ⟨.agg ⟨cs⟩::vs,⟨_,_,rfl,⟨cs,rfl,h7⟩,h4⟩,?_⟩;simp only [abD,ZG,hAddr,ZH,h8,h5,Z3]
theorem UA {m:List AV} {vs:List Value} (h:VRL E m vs):VR E (N9 m) (if h:vs.length=1 then vs[0] else .tuple ⟨vs⟩):=by
 have hl:=h.length;by_cases h1:vs.length=1
 ·rw [dif_pos h1]
  match m,vs,h,hl,h1 with
  | [x],[y],h,_,_ =>
    simp only [VRL,List.cons.injEq] at h;obtain ⟨_,_,⟨rfl,rfl⟩,h2,_⟩:=h;exact h2
 ·rw [dif_neg h1];have:N9 m=.tup m:=by
   match m,hl with
   | [],_=>rfl
   | [x],hl=>simp at hl;exact absurd hl h1
   | _::_::_,_=>rfl
  rw [this];exact ⟨vs,rfl,h⟩
theorem LE:∀ {args:List AV} {i t:Nat} {v:AV},ao (aq i args) t=some v->i<=t/\args[t - i]?=some v
 | [],i,t,v,h=>by simp [aq,ao] at h
 | x::args,i,t,v,h=>by
   simp only [aq,ao] at h;split at h
   ·rename_i e;subst e;simp at h;subst h;simp
   ·rename_i e
    have:=LE h;refine ⟨by omega,?_⟩;rw [show t - i=(t - (i+1))+1 by omega];simpa using this.2
def Fin (L0:List Blk) (r:AV) (L:List Blk) (Q:AV->List Blk->Prop):Prop :=
 ∀ (w0:World) (S0:SB) (E0 E:Env) (w:World) (v:Value),E0.le E->(∀ i,L0.length<=i->E0.loc i=none/\E0.tok i=none)->(∀ k∈L0,k.refs (fun i=>decide (i<L0.length))=true) ->
  Rel w0 S0 E L w->VR E r v->∃ E' av L',E0.le E'/\Q av L'/\VR E' av v/\Rel w0 S0 E' L' w
mutual
theorem VR.refs {n:Nat} (hn:∀ i,n<=i->E.loc i=none) (ht:∀ i,n<=i->E.tok i=none):∀ (a:AV) (v:Value),VR E a v->a.refs (fun i=>decide (i<n))=true
 | .undef,_,_=>rfl
 | .bool _,_,_=>rfl
 | .anyb,_,_=>rfl
 | .int _ _,_,_=>rfl
 | .str _,_,_=>rfl
 | .nilptr,_,_=>rfl
 | .gptr _ _,_,_=>rfl
 | .ptr i off,v,r=>by
   simp only [VR] at r;obtain ⟨c,h,_⟩:=r;simp only [AV.refs,decide_eq_true_eq];rcases ZT i n with h1|h1
   ·exact h1
   ·rw [hn i h1] at h;cases h
 | .iptr l off,v,r=>by
   simp only [VR] at r;obtain ⟨b,o,_,h⟩:=r;exact VRC.refs hn ht l b o h
 | .nilsl,_,_=>rfl
 | .sl l m cap,v,r=>by
   simp only [VR] at r;obtain ⟨p,c,_,_,_,h⟩:=r;rcases h with ⟨_,_,_,rfl⟩|⟨b,o,_,h⟩
   ·rfl
   ·exact VRC.refs hn ht l b o h
 | .gsl l m i sz,v,r=>by
   simp only [VR] at r;obtain ⟨p,c,_,_,_,h,t,h2,_⟩:=r;simp only [AV.refs,decide_eq_true_eq,ZE];refine ⟨?_,?_⟩
   ·rcases ZT i n with h1|h1
    ·exact h1
    ·rw [ht i h1] at h2;cases h2
   ·rcases h with ⟨_,_,_,rfl⟩|⟨b,o,_,h⟩
    ·rfl
    ·exact VRC.refs hn ht l b o h
 | .lsl i off len cap sz,v,r=>by
   simp only [VR] at r;obtain ⟨c,rc,d,h,_⟩:=r;simp only [AV.refs,decide_eq_true_eq];rcases ZT i n with h1|h1
   ·exact h1
   ·rw [hn i h1] at h;cases h
 | .nilmap,_,_=>rfl
 | .lmap i,v,r=>by
   simp only [VR] at r;obtain ⟨c,h,_⟩:=r;simp only [AV.refs,decide_eq_true_eq];rcases ZT i n with h1|h1
   ·exact h1
   ·rw [hn i h1] at h;cases h
 | .yld i,v,r=>by
   simp only [VR] at r;obtain ⟨c,h,_⟩:=r;simp only [AV.refs,decide_eq_true_eq];rcases ZT i n with h1|h1
   ·exact h1
   ·rw [hn i h1] at h;cases h
 | .func f caps,v,r=>by
   simp only [VR] at r;obtain ⟨vs,_,h⟩:=r;exact VRL.refs hn ht caps vs h
 | .nilfunc,_,_=>rfl
 | .nilif,_,_=>rfl
 | .iface t x,v,r=>by
   simp only [VR] at r;obtain ⟨y,_,h⟩:=r;exact VR.refs hn ht x y h
 | .agg l,v,r=>by
   simp only [VR] at r;obtain ⟨vs,_,h⟩:=r;exact VRL.refs hn ht l vs h
 | .tup l,v,r=>by
   simp only [VR] at r;obtain ⟨vs,_,h⟩:=r;exact VRL.refs hn ht l vs h
theorem VRL.refs {n:Nat} (hn:∀ i,n<=i->E.loc i=none) (ht:∀ i,n<=i->E.tok i=none):∀ (l:List AV) (vs:List Value),VRL E l vs->AV.refsL (fun i=>decide (i<n)) l=true
 | [],_,_=>rfl
 | a::l,vs,r=>by
   simp only [VRL] at r;obtain ⟨x,xs,_,h1,h2⟩:=r;simp only [AV.refsL,ZE];exact ⟨VR.refs hn ht a x h1,VRL.refs hn ht l xs h2⟩
theorem VRC.refs {n:Nat} (hn:∀ i,n<=i->E.loc i=none) (ht:∀ i,n<=i->E.tok i=none):∀ (l:List AV) (b o:Nat),VRC E l b o->AV.refsL (fun i=>decide (i<n)) l=true
 | [],_,_,_=>rfl
 | a::l,b,o,r=>by
   simp only [VRC] at r;obtain ⟨⟨x,_,h1⟩,h2⟩:=r;simp only [AV.refsL,ZE];exact ⟨VR.refs hn ht a x h1,VRC.refs hn ht l b (o+1) h2⟩
end
theorem au.refs {n:Nat} (hn:∀ i,n<=i->E.loc i=none) (ht:∀ i,n<=i->E.tok i=none):∀ {l:List (AV×AV×Nat)} {es:List MapEntry},au E l es->(l.all fun e=>e.1.refs (fun i=>decide (i<n)) && e.2.1.refs (fun i=>decide (i<n)))=true
 | [],_,_=>rfl
 | (k,x,b)::l,es,r=>by
   simp only [au] at r;obtain ⟨e,t,_,h1,h2,_,h3⟩:=r;simp only [abe,ZE];exact ⟨⟨VR.refs hn ht _ _ h1,VR.refs hn ht _ _ h2⟩,au.refs hn ht h3⟩
theorem Rel.refs (h:Rel w0 S0 E L w):∀ k∈L,k.refs (fun i=>decide (i<L.length))=true:=fun k hk=>by
 obtain ⟨i,hi⟩:=abf.1 hk;have hb:=h.blk i k hi;cases k<;>simp only [bw] at hb
 ·rfl
 ·obtain ⟨c,cs,ty,fr,_,_,_,_,h5,_⟩:=hb;refine AV.refsL_iff.2 fun a ha=>?_
  obtain ⟨j,hj⟩:=abf.1 ha;obtain ⟨v,_,hv⟩:=h5 j a hj;exact VR.refs h.fresh h.tkfresh _ _ hv
 ·obtain ⟨c,rs,_,_,h3⟩:=hb;exact au.refs h.fresh h.tkfresh h3
 ·rename_i m _ _ _
  obtain ⟨c,q,_,_,_,h4⟩:=hb;cases m with
  | none=>rfl
  | some j =>
    obtain ⟨d,g1,_⟩:=h4;simp only [Blk.refs,decide_eq_true_eq];rcases ZT j L.length with h5|h5
    ·exact h5
    ·rw [h.fresh j h5] at g1;cases g1
 ·rfl
 ·obtain ⟨c,cs,ty,fr,_,_,_,_,h5,_⟩:=hb;refine AV.refsL_iff.2 fun a ha=>?_
  obtain ⟨j,hj⟩:=abf.1 ha;obtain ⟨v,_,hv⟩:=h5 j a hj;exact VR.refs h.fresh h.tkfresh _ _ hv
 ·rfl
 ·obtain ⟨c,D,tm,_,_,_,_,h5⟩:=hb;simp only [Blk.refs,ZJ];rintro ⟨t,u⟩ _;rcases hl:ao _ t with _|v
  ·rfl
  ·simpa using VR.refs h.fresh h.tkfresh _ _ (h5 t v hl)
def Xx (res:List P5) (L0:List Blk) (Q:AV->List Blk->Prop) (e:Exit) (T:Tm) (L':List Blk):Prop :=
 (e=.normal\/e=.ret)/\∃ c rs,Kx T L' res=some (c,rs)/\c/\Fin L0 (N9 rs) L' Q
theorem Rel.shut {w0 w:World} {S0:SB} {E:Env} {L:List Blk} (h:Rel w0 S0 E L w) {D:Nat} (hD:w0.heap.size<=D) (hno:¬ OT E L D) (ho:w.heap[D]?=some (.deferred (some []))):Rel w0 S0 E L (w.putObj D (.deferred none)):=by
 have same:∀ k,k≠D->(w.putObj D (.deferred none)).heap[k]?=w.heap[k]?:=fun k hk=>World.putObj_heap_other hk
 refine ⟨fun b o v hv=>?_,fun i k hk=>?_,h.fresh,h.own,h.inj,h.tkfresh,h.tkown,h.tkloc,h.tkinj,fun k hk hs=>?_,by simpa using h.size,h.os,h.tape,h.output,h.glob,fun p hp hne=>?_⟩
 ·have hv':=h.mem b o v hv;have hb:b≠D:=fun e=>by
   subst e;simp [World.cell?,ho] at hv'
  have:=same b hb;simp only [World.cell?] at hv' ⊢;rw [this];exact hv'
 ·cases hl:k.live
  ·refine bw.still hl rfl (fun t c n sz e ht hc=>?_) (h.blk i k hk);exact same _ fun e2=>hno (.inr ⟨i,n,sz,t,c,e ▸ hk,ht,hc,e2⟩)
  ·refine bw.worldL hl (fun c hc=>?_) (h.blk i k hk);exact same _ fun e2=>hno (.inl ⟨i,k,c,hk,hl,hc,e2⟩)
 ·rw [same k (by omega)];exact h.frame k hk hs
 ·obtain ⟨cs,ty,fr,h1,h2⟩:=h.gsz p hp hne;refine ⟨cs,ty,fr,?_,h2⟩;rw [same _ (fun e=>by rw [e,ho] at h1;cases h1)];exact h1
theorem Nb {fn:Func} {tmps:Array Value} {R:Ending->World->Prop} {wE:World} {SE:SB} {E:Env} {L:List Blk} (hR:∀ w,Rel wE SE E L w->∃ v,(results fn tmps).run P w=.ok v w/\R (.returned v) w) :
  ∀ (ds:List Deferred) (w:World),Rel wE SE E L w->ds.Nodup->(∀ d∈ds,∃ D,d=mkD D/\wE.heap.size<=D/\¬ OT E L D/\w.heap[D]?=some (.deferred (some [])))->LeavesInM (dW none) 0 P fn tmps R ds .returning w
 | [],w,h,_,_=>hR w h
 | d::ds,w,h,hn,hd=>by
   obtain ⟨D,rfl,h1,h2,h3⟩:=hd _ abz;obtain ⟨n1,n2⟩:=aay.1 hn;refine ⟨fun e=>(by cases e),.inl ⟨D,_,rfl,run_takeDeferred h3,Nb hR ds _ (h.shut h1 h2 h3) n2 fun d hd'=>?_⟩⟩;obtain ⟨D',rfl,k1,k2,k3⟩:=hd d (aa7 _ hd');refine ⟨D',rfl,k1,k2,?_⟩;rw [World.putObj_heap_other fun e=>n1 (by subst e;exact hd')];exact k3
theorem ad {own:Nat->Nat->Nat} {f:FuncId} {lf:br} (h:bt P own f=some lf.raw) {args:List AV} {L:List Blk} {Q:AV->List Blk->Prop} (hlen:args.length<=lf.ntmps)
  (hb:AW P lf.ntmps own lf.code (Xx lf.res L Q) (aq 0 args) L):af P f args L Q:=by
 intro w0 S0 E w vs hR hv;obtain ⟨nt,code,rs0⟩:=lf;simp only [br.raw] at h hlen hb;unfold bt at h;split at h
 ·cases h
 rename_i fn hfn
 split at h
 ·cases h
 rename_i hname
 split at h
 ·cases h
 rename_i c hc
 split at h<;>try cases h
 rename_i lc rs hlc hrs
 refine .inl ⟨?_,?_⟩
 ·have:(fn.name == "runtime.NumGoroutine")=false:=by simpa using hname
  simp only [callFunc,ZG,run_program,ZH,hfn,this,hc,Option.isNone_some,ZP,if_false,Z3]
 ·refine (callsIn_wide (n:=0)).1 (callsIn_of_wp_marks (F:=dW none) hfn hc trivial ?_);have hvl:=hv.length;have hst:St w ⟨OT E L,w.heap.size⟩ fn.ntmps E (aq 0 args) L { tmps:=(⟨vs⟩:Array Value)++Array.replicate (fn.ntmps - vs.length) undef,defers:=[] } w:=by
   refine ⟨hR.enter _,fun t x hx=>?_,by simp;omega,Rg.nil (ZA _)⟩;obtain ⟨_,h1⟩:=LE hx;simp only [abV] at h1;obtain ⟨y,h2,h3⟩:=hv.get h1;have hlt:t<vs.length:=(Zz.1 h2).1;rw [aar,acw (by simpa using hlt)];simpa [h2] using h3
  refine wpIn_mono (hb c hlc none (fun _=>rfl) w _ E _ w hst) fun e a' w' ⟨w1,S1,E',T',L',b,g1,⟨g2,c',rs',g3,g4,g5⟩,g6⟩=>?_
  have key:LeavesInM (dW none) 0 P fn a'.tmps (fun e w'=>∃ E' v av L',e=.returned v/\E.le E'/\Q av L'/\VR E' av v/\Rel w0 S0 E' L' w') a'.defers .returning w':=by
   refine Nb (wE:=w) (SE:=⟨OT E L,w.heap.size⟩) (E:=E') (L:=L') (fun w2 hR2=>?_) _ _ (b.rel g6.1) g6.2.2.2.2.1 fun d hd=>?_
   ·obtain ⟨us,k1,k2⟩:=Ha hrs g3 g4 hR2 g6.2.1;obtain ⟨E'',av,L'',k3,k4,k5,k6⟩:=g5 w0 S0 E E' w2 _ g1 (fun i hi=>⟨hR.fresh i hi,hR.tkfresh i hi⟩) hR.refs (hR.back hR2) (UA k1);have hres:(results fn a'.tmps).run P w2=.ok (if h:us.length=1 then us[0] else .tuple ⟨us⟩) w2:=by
     unfold results;rw [Array.mapM_eq_mapM_toList];simp only [ZG,Sem.run_map];refine (congrArg (fun r=>(Result.andThen r fun x w=>Result.ok x.toArray w).andThen _) k2).trans ?_;simp
    exact ⟨_,hres,E'',_,av,L'',rfl,k3,k4,k5,k6⟩
   ·obtain ⟨D,h1,h0,h2,h3,h4⟩:=g6.2.2.2.2.2 d hd;refine ⟨D,h1,by rw [b.low] at h0;exact h0,fun ho=>?_,?_⟩
    ·rcases g6.1.ownSub D ho with h5|h5
     ·exact h3 h5
     ·omega
    ·rw [g6.1.frame D h2 h3];exact h4
  rcases g2 with rfl|rfl<;>exact key
theorem aa {L0 L:List Blk} {r:AV} {Q:AV->List Blk->Prop} (h:Q r L):Fin L0 r L Q:=fun w0 S0 E0 E w v h0 _ _ hR hv=>⟨E,r,L,h0,h,hv,hR⟩
theorem Qo {E0 E:Env} {n m:Nat} (h0:E0.le E) (hn:∀ i,n<=i->E0.loc i=none/\E0.tok i=none) (hm:n<=m) (g:Nat->Nat) (hg:∀ i,i<n->g i=i):E0.le (E.res m g):=by
 have lt:∀ i,(E0.loc i≠none\/E0.tok i≠none)->i<n:=fun i hi=>by
  rcases ZT i n with h1|h1
  ·exact h1
  ·have:=hn i h1;simp [this.1,this.2] at hi
 refine ⟨fun b o x hx=>h0.mem b o x hx,fun i c hc=>?_,fun i t ht=>?_⟩
 ·have hi:=lt i (.inl (by simp [hc]));rw [Env.res_loc (by omega),hg i hi];exact h0.loc i c hc
 ·have hi:=lt i (.inr (by simp [ht]));rw [Env.res_tok (by omega),hg i hi];exact h0.tok i t ht
theorem P8 {L0 L1 L2:List Blk} {r:AV} {Q:AV->List Blk->Prop} (hl:L1.length=L0.length) (hk:(∀ k∈L0,k.refs (fun i=>decide (i<L0.length))=true)->∀ k∈L1,k.refs (fun i=>decide (i<L0.length))=true) (hr:r.refs (fun i=>decide (i<L0.length))=true)
  (h:Q r L1):Fin L0 r (L1++L2) Q:=fun w0 S0 E0 E w v h0 hn hw hR hv=>by
 have hcut:=hR.cut (by rw [hl];exact hk hw);refine ⟨E.res L1.length id,r,L1,Qo h0 hn (by omega) id (fun _ _=>rfl),h,VR.cut (E:=E) (E':=E.res L1.length id) (p:=fun i=>decide (i<L0.length)) (fun _ _ _ x=>x) (fun i c hi hc=>?_) (fun i t hi ht=>?_) r v hr hv,hcut⟩
 ·rw [Env.res_loc (by have : i < L0.length := by simpa using hi
                      omega)];exact hc
 ·rw [Env.res_tok (by have : i < L0.length := by simpa using hi
                      omega)];exact ht
theorem bv {L0 L:List Blk} {r:AV} {Q:AV->List Blk->Prop} (h:Fin L0 r.frz L Q):Fin L0 r L Q:=fun w0 S0 E0 E w v h0 hn hw hR hv =>
 h w0 S0 E0 E w v h0 hn hw hR (VR.frz _ _ hv)
theorem Wi {res:List P5} {L0 L':List Blk} {T:Tm} {Q:AV->List Blk->Prop} {c:Prop} {rs:List AV} (h:Kx T L' res=some (c,rs)) (hc:c) (hf:Fin L0 (N9 rs) L' Q):Xx res L0 Q .ret T L':=⟨.inr rfl,c,rs,h,hc,hf⟩
theorem dG {res:List P5} {L0 L':List Blk} {T:Tm} {Q:AV->List Blk->Prop} {c:Prop} {rs:List AV} (h:Kx T L' res=some (c,rs)) (hc:c) (hf:Fin L0 (N9 rs) L' Q):Xx res L0 Q .normal T L':=⟨.inl rfl,c,rs,h,hc,hf⟩
theorem ae {L0 L2:List Blk} {r:AV} {Q:AV->List Blk->Prop} (hr:r.refs (fun i=>decide (i<L0.length))=true) (h:Q r L0):Fin L0 r (L0++L2) Q :=
 P8 rfl (fun h=>h) hr h
mutual
def AV.snap (i:Nat) (l:List AV):AV->AV
 | .lsl j off n cap s=>if j=i then .sl ((l.drop off).take (n * s)) n cap else .lsl j off n cap s
 | .agg xs=>.agg (AV.snapL i l xs)
 | .tup xs=>.tup (AV.snapL i l xs)
 | a=>a
def AV.snapL (i:Nat) (l:List AV):List AV->List AV
 | []=>[]
 | a::xs=>AV.snap i l a::AV.snapL i l xs
end
mutual
theorem VR.snap {i:Nat} {l:List AV} {c:Loc} (hc:E.loc i=some c) (hl:VRC E l c.blk c.off):∀ (a:AV) (v:Value),VR E a v->VR E (a.snap i l) v
 | .lsl j off n cap s,v,r=>by
   simp only [AV.snap];split
   ·rename_i e;subst e
    simp only [VR] at r ⊢;obtain ⟨c',rc,d,h1,rfl,h2,h3,h4,h5⟩:=r;rw [hc] at h1;cases h1;refine ⟨_,rc,rfl,h3,h4,.inr ⟨c.blk,d,rfl,?_⟩⟩;rcases aaW n with hn|hn
    ·subst hn;simp [VRC]
    ·rw [h2 (by omega)];exact (hl.drop off).take _
   ·exact r
 | .agg xs,v,r=>by
   simp only [AV.snap,VR] at r ⊢;obtain ⟨vs,h1,h2⟩:=r;exact ⟨vs,h1,VRL.snap hc hl xs vs h2⟩
 | .tup xs,v,r=>by
   simp only [AV.snap,VR] at r ⊢;obtain ⟨vs,h1,h2⟩:=r;exact ⟨vs,h1,VRL.snap hc hl xs vs h2⟩
 | .undef,_,r=>r
 | .bool _,_,r=>r
 | .anyb,_,r=>r
 | .int _ _,_,r=>r
 | .str _,_,r=>r
 | .nilptr,_,r=>r
 | .gptr _ _,_,r=>r
 | .ptr _ _,_,r=>r
 | .iptr _ _,_,r=>r
 | .nilsl,_,r=>r
 | .sl _ _ _,_,r=>r
 | .gsl _ _ _ _,_,r=>r
 | .nilmap,_,r=>r
 | .lmap _,_,r=>r
 | .yld _,_,r=>r
 | .func _ _,_,r=>r
 | .nilfunc,_,r=>r
 | .nilif,_,r=>r
 | .iface _ _,_,r=>r
theorem VRL.snap {i:Nat} {l:List AV} {c:Loc} (hc:E.loc i=some c) (hl:VRC E l c.blk c.off):∀ (xs:List AV) (vs:List Value),VRL E xs vs->VRL E (AV.snapL i l xs) vs
 | [],_,r=>r
 | a::xs,vs,r=>by
   simp only [AV.snapL,VRL] at r ⊢;obtain ⟨x,ys,h1,h2,h3⟩:=r;exact ⟨x,ys,h1,VR.snap hc hl a x h2,VRL.snap hc hl xs ys h3⟩
end
theorem P7 {L0 L:List Blk} {r:AV} {Q:AV->List Blk->Prop} {i:Nat} {l:List AV} (hi:L[i]?=some (.cells l)) (h:Fin L0 (r.snap i l) (L.set i .dead) Q):Fin L0 r L Q:=fun w0 S0 E0 E w v h0 hn hw hR hv=>by
 obtain ⟨c,cs,ty,fr,h1,_⟩:=hR.blk i _ hi;obtain ⟨E',g1,g2,g3,g4⟩:=hR.snap hi h1;exact h w0 S0 E0 E' w v (h0.trans g1) hn hw g2 (VR.snap (by rw [g4];exact h1) g3 _ _ (VR.mono g1 _ _ hv))
theorem R5 {L0 L2:List Blk} {r:AV} {Q:AV->List Blk->Prop} (k:Nat) (b:Blk) (hlv:b.live=true) (hk:L0.length<=k) (hL:(L0++L2)[k]?=some b) (hr:r.refs (fun i=>decide (i<L0.length) || decide (i=k))=true)
  (hb:b.refs (fun i=>decide (i<L0.length))=true)
  (h:Q (r.ren fun i=>if i=k then L0.length else i) (L0++[b])):Fin L0 r (L0++L2) Q:=fun w0 S0 E0 E w v h0 hn hw hR hv=>by
 have lenL:(L0++[b]).length=L0.length+1:=by simp
 have hg:∀ i,i<L0.length->(fun i=>if i<L0.length then i else k) i=i:=fun i hi=>if_pos hi
 have hloc:∀ i c,(decide (i<L0.length) || decide (i=k))=true->E.loc i=some c->(E.res (L0++[b]).length (fun i=>if i<L0.length then i else k)).loc (if i=k then L0.length else i)=some c:=by
  intro i c hi hc;by_cases e:i=k
  ·subst e;rw [if_pos rfl,Env.res_loc (by omega),if_neg (by omega)];exact hc
  ·simp only [e,decide_false,abH,decide_eq_true_eq] at hi;rw [if_neg e,Env.res_loc (by omega),if_pos hi];exact hc
 have htok:∀ i c,(decide (i<L0.length) || decide (i=k))=true->E.tok i=some c->(E.res (L0++[b]).length (fun i=>if i<L0.length then i else k)).tok (if i=k then L0.length else i)=some c:=by
  intro i c hi hc;by_cases e:i=k
  ·subst e;rw [if_pos rfl,Env.res_tok (by omega),if_neg (by omega)];exact hc
  ·simp only [e,decide_false,abH,decide_eq_true_eq] at hi;rw [if_neg e,Env.res_tok (by omega),if_pos hi];exact hc
 have low:∀ (i:Nat) (c:Blk),(L0++[b])[i]?=some c->(i<L0.length/\L0[i]?=some c)\/(i=L0.length/\c=b):=fun i c hc=>by
  rw [aaG] at hc;split at hc
  ·rename_i hi;exact .inl ⟨hi,hc⟩
  ·have hi':i=L0.length:=by
    rcases ZT (i - L0.length) 1 with h1|h1
    ·omega
    ·rw [aaM (by simpa using h1)] at hc;cases hc
   subst hi';simp at hc;exact .inr ⟨rfl,hc.symm⟩
 have hren:=hR.renum (L':=L0++[b]) (fun i=>if i<L0.length then i else k) (fun i j hi hj e=>by
  rw [lenL] at hi hj;split at e<;>split at e<;>omega) (fun i n sz hi=>by
  rcases low i _ hi with ⟨h1,h2⟩|⟨h1,h2⟩
  ·rw [if_pos h1,ZM h1];exact h2
  ·subst h2;simp [Blk.live] at hlv) (fun i c hc hlive=>by
  rcases low i _ hc with ⟨h1,h2⟩|⟨h1,h2⟩
  ·have h3:(L0++L2)[i]?=some c:=by rw [ZM h1];exact h2
   refine ⟨c,by rw [if_pos h1];exact h3,hlive,?_⟩;refine bw.cut (E:=E) (E':=E.res (L0++[b]).length (fun i=>if i<L0.length then i else k)) (p:=fun i=>decide (i<L0.length)) (fun _ _ _ x=>x) (fun j c hj hc=>?_) (fun j c hj hc=>?_) (fun c hc=>?_) hlive (hw c (aad h2)) (hR.blk i c h3)
   ·have hj:j<L0.length:=by simpa using hj
    rw [Env.res_loc (by omega),if_pos hj];exact hc
   ·have hj:j<L0.length:=by simpa using hj
    rw [Env.res_tok (by omega),if_pos hj];exact hc
   ·rw [Env.res_loc (by omega),if_pos h1];exact hc
  ·subst h1;subst h2;refine ⟨c,by simpa using hL,hlive,?_⟩;have hB:=hR.blk k _ hL;have hlk:∀ d,E.loc k=some d->(E.res (L0++[c]).length (fun i=>if i<L0.length then i else k)).loc L0.length=some d:=fun d hd=>by
    have:=hloc k d (by simp) hd
    rwa [if_pos rfl] at this
   have cutv:∀ x v,x.refs (fun i=>decide (i<L0.length))=true->VR E x v->VR (E.res (L0++[c]).length (fun i=>if i<L0.length then i else k)) x v:=fun x v hx hv=>by
    refine VR.cut (E:=E) (E':=E.res (L0++[c]).length (fun i=>if i<L0.length then i else k)) (p:=fun i=>decide (i<L0.length)) (fun _ _ _ x=>x) (fun j d hj hd=>?_) (fun j d hj hd=>?_) x v hx hv
    ·have hj:j<L0.length:=by simpa using hj
     rw [Env.res_loc (by omega),if_pos hj];exact hd
    ·have hj:j<L0.length:=by simpa using hj
     rw [Env.res_tok (by omega),if_pos hj];exact hd
   cases c<;>simp only [Blk.live,ZP] at hlive<;>simp only [bw,Blk.refs] at hB hb ⊢
   ·obtain ⟨d,cs,ty,fr,g1,g2,g3,g4,g5,g6⟩:=hB;exact ⟨d,cs,ty,fr,hlk d g1,g2,g3,g4,fun j a ha=>let ⟨x,q1,q2⟩:=g5 j a ha;⟨x,q1,cutv a x (AV.refsL_iff.1 hb a (aad ha)) q2⟩,g6⟩
   ·obtain ⟨d,rs,g1,g2,g3⟩:=hB;refine ⟨d,rs,hlk d g1,g2,?_⟩;refine au.cut (E:=E) (E':=E.res (L0++[_]).length (fun i=>if i<L0.length then i else k)) (p:=fun i=>decide (i<L0.length)) (fun _ _ _ x=>x) (fun j d hj hd=>?_) (fun j d hj hd=>?_) hb g3
    ·have hj:j<L0.length:=by simpa using hj
     rw [Env.res_loc (by omega),if_pos hj];exact hd
    ·have hj:j<L0.length:=by simpa using hj
     rw [Env.res_tok (by omega),if_pos hj];exact hd
   ·rename_i m _ _ _
    obtain ⟨d,q,g1,g2,g3,g4⟩:=hB;refine ⟨d,q,hlk d g1,g2,g3,?_⟩;cases m with
    | none=>exact g4
    | some j =>
      obtain ⟨d',q1,q2⟩:=g4;have hj:j<L0.length:=by simpa [Blk.refs] using hb
      exact ⟨d',by rw [Env.res_loc (by omega),if_pos hj];exact q1,q2⟩
   ·obtain ⟨d,g1,g2⟩:=hB;exact ⟨d,hlk d g1,g2⟩
   ·obtain ⟨d,cs,ty,fr,g1,g2,g3,g4,g5,g6⟩:=hB;exact ⟨d,cs,ty,fr,hlk d g1,g2,g3,g4,fun j a ha=>let ⟨x,q1,q2⟩:=g5 j a ha;⟨x,q1,cutv a x (AV.refsL_iff.1 hb a (aad ha)) q2⟩,g6⟩
   ·obtain ⟨d,D,tm,g1,g2,g3,g4,g5⟩:=hB;simp only [ZJ] at hb;exact ⟨d,D,tm,hlk d g1,g2,g3,g4,fun t x hx=>cutv x _ (by simpa [hx] using hb (t,x) (z7 hx)) (g5 t x hx)⟩)
 exact ⟨E.res (L0++[b]).length (fun i=>if i<L0.length then i else k),_,_,Qo h0 hn (by omega) _ hg,h,VR.ren (E:=E) (E':=E.res (L0++[b]).length (fun i=>if i<L0.length then i else k)) (p:=fun i=>decide (i<L0.length) || decide (i=k)) (fun _ _ _ x=>x) hloc htok r v hr hv,hren⟩
end
theorem lY {α:Type} (L:List α) (x:α) (l:List α):(L++x::l)[L.length]?=some x:=by simp
theorem lX {α:Type} (L l:List α) (k:Nat):(L++l)[L.length+k]?=l[k]?:=by
 rw [Z5 (by omega)];congr 1;omega
theorem re {α:Type} (L:List α) (x y:α) (l:List α):(L++x::l).set L.length y=L++y::l:=by
 rw [aaz _ _ (by omega)];simp
theorem WM {α:Type} (L l:List α) (k:Nat) (y:α):(L++l).set (L.length+k) y=L++l.set k y:=by
 rw [aaz _ _ (by omega)];congr 2;omega
theorem Xq {α:Type} (L l m:List α):(L++l)++m=L++(l++m):=ZO _ _ _
theorem ac {n:Int} (h0 : -9223372036854775808<=n) (h1:n<9223372036854775808):IntKind.i64.wrap n=n:=by
 simp only [IntKind.wrap,IntKind.bits,IntKind.signed];simp;omega
theorem Zv (j:Nat) (h:j<9223372036854775807):IntKind.i64.wrap ((j:Int)+1)=(j:Int)+1:=ac (by omega) (by omega)
theorem cv {n:Int} (h0:0<=n) (h1:n<256):IntKind.u8.wrap n=n:=by
 simp only [IntKind.wrap,IntKind.bits,IntKind.signed];simp;omega
theorem K4 {n:Int} (h0:0<=n) (h1:n<18446744073709551616):IntKind.u64.wrap n=n:=by
 simp only [IntKind.wrap,IntKind.bits,IntKind.signed];simp;omega
theorem aE {P:Program} {N:Nat} {own:Nat->Nat->Nat} {Q:Exit->Tm->List Blk->Prop} {T:Tm} {L:List Blk} {x:Opd} {y z:bV} (hx:evX T x=some (.bool true)) (h:AW P N own y Q T L):AW P N own (.cond x y z) Q T L :=
 aM hx (fun _=>h) (fun e=>by cases e)
theorem aF {P:Program} {N:Nat} {own:Nat->Nat->Nat} {Q:Exit->Tm->List Blk->Prop} {T:Tm} {L:List Blk} {x:Opd} {y z:bV} (hx:evX T x=some (.bool false)) (h:AW P N own z Q T L):AW P N own (.cond x y z) Q T L :=
 aM hx (fun e=>by cases e) (fun _=>h)
def Ze (v:AV) (xs:List Int):Prop:=(v=.nilsl/\xs=[])\/∃ cap,v=.sl (xs.map (AV.int .i64)) xs.length cap
theorem IY {p:Nat->Bool} (xs:List Int):AV.refsL p (xs.map (AV.int .i64))=true:=AV.refsL_iff.2 fun a ha=>by
 obtain ⟨x,_,rfl⟩:=ZC.1 ha;rfl
theorem Ze.refs {p:Nat->Bool} {v:AV} {xs:List Int} (h:Ze v xs):v.refs p=true:=by
 rcases h with ⟨rfl,_⟩|⟨cap,rfl⟩
 ·rfl
 ·exact IY xs
theorem aw {p:Prop} [Decidable p] {A B:Prop} (h1:p->A) (h2:¬ p->B):if p then A else B:=by
 by_cases h:p
 ·rw [if_pos h];exact h1 h
 ·rw [if_neg h];exact h2 h
theorem am {p:Prop} [Decidable p] {A B:Prop} (h1:p->B) (h2:¬ p->A):if ¬ p then A else B:=by
 by_cases h:p
 ·rw [if_neg (fun e=>e h)];exact h1 h
 ·rw [if_pos h];exact h2 h
def XL (L0 L':List Blk) (Q:AV->List Blk->Prop):Option (Prop×List AV)->Prop
 | some (c,rs)=>c/\Fin L0 (N9 rs) L' Q
 | none=>False
theorem Ri {L0 L':List Blk} {Q:AV->List Blk->Prop} {c:Prop} {rs:List AV}:XL L0 L' Q (some (c,rs))=(c/\Fin L0 (N9 rs) L' Q):=rfl
theorem ax {res:List P5} {L0 L':List Blk} {T:Tm} {Q:AV->List Blk->Prop} (h:XL L0 L' Q (Kx T L' res)):Xx res L0 Q .ret T L':=by
 rcases hr:Kx T L' res with _|⟨c,rs⟩
 ·rw [hr] at h;exact h.elim
 ·rw [hr] at h;exact Wi hr h.1 h.2
def Hid (p:Prop):Prop:=p
theorem hid {p:Prop} (h:p):Hid p:=h
theorem Hid.out {p:Prop} (h:Hid p):p:=h
theorem Kto {K:AV->List Blk->Prop} {L:List Blk} {a b:AV} (h:K a L) (e:a=b):K b L:=e ▸ h
def M3 (T' T:Tm):Prop:=∀ p∈T',∃ v,ao T p.1=some v/\(p.2=v\/p.2=v.frz)
theorem TR.sub {E:Env} {T T':Tm} {a:Act} (r:TR E T a) (h:M3 T' T):TR E T' a:=fun t v hv=>by
 obtain ⟨u,h1,h2⟩:=h _ (z7 hv);have:=r t u h1;rcases h2 with h2|h2
 ·simp only at h2;subst h2;exact this
 ·simp only at h2;subst h2;exact VR.frz _ _ this
theorem P3 {T:Tm}:M3 [] T:=fun p h=>by cases h
theorem DB {T T':Tm} {t:Nat} {v u:AV} (h:ao T t=some u) (e:v=u) (h':M3 T' T):M3 ((t,v)::T') T:=fun p hp=>by
 rcases ZF.1 hp with rfl|hp
 ·exact ⟨u,h,.inl e⟩
 ·exact h' p hp
theorem MD {T T':Tm} {t:Nat} {v u:AV} (h:ao T t=some u) (e:v=u.frz) (h':M3 T' T):M3 ((t,v)::T') T:=fun p hp=>by
 rcases ZF.1 hp with rfl|hp
 ·exact ⟨u,h,.inr e⟩
 ·exact h' p hp
def Cut (B:Nat) (T':Tm) (L':List Blk) (T:Tm) (L:List Blk):Prop :=
 M3 T' T/\∃ X,L=L'++X/\B<=L'.length/\(X=[]\/((∀ p∈T',p.2.refs (fun i=>decide (i<L'.length))=true)/\∀ k∈L',k.refs (fun i=>decide (i<L'.length))=true))
theorem Qa {B:Nat} {T' T:Tm} {L:List Blk} (h:M3 T' T) (hB:B<=L.length):Cut B T' L T L:=⟨h,[],by simp,hB,.inl rfl⟩
theorem CutS {B:Nat} {T' T:Tm} {L:List Blk} (a:M3 T' T:=by repeat' first|exact P3|refine DB rfl rfl ?_|refine MD rfl rfl ?_) (b:B<=L.length):Cut B T' L T L:=Qa a b
theorem CutL {B:Nat} {T' T:Tm} {L:List Blk} (a:M3 T' T:=by repeat' first|exact P3|refine DB rfl rfl ?_|refine MD rfl rfl ?_|refine DB rfl (congrArg (AV.int _) (by omega)) ?_|refine DB rfl (by first|(simp_all;done)|(simp_all;omega)|(simp_all;intros;omega)) ?_) (b:B<=L.length):Cut B T' L T L:=Qa a b
abbrev Zx:=@af Tryz.prog
abbrev Zy:=AV->List Blk->Prop
abbrev Ctr (P:Program) (f:FuncId) (A:List AV) (v:AV):Prop:=∀ {L:List Blk} {K:AV->List Blk->Prop},K v L->af P f A L K
abbrev o0 (x:LOp):SOp:=.op ⟨none,x,none⟩
abbrev o1 (n:Nat) (x:LOp):SOp:=.op ⟨some n,x,none⟩
abbrev og (n t:Nat) (b:Bool) (x:LOp):SOp:=.op ⟨some n,x,some (t,b)⟩
abbrev od (n:Nat) (x:LOp) (k:Kd):ai×Kd:=(⟨some n,x,none⟩,k)
abbrev tm (t:Nat):Opd:=.tmp t
abbrev iv (n:Int):Opd:=.av (.int .i64 n)
attribute [push_cast] o0 o1 og od tm iv
abbrev Aa (a b:Nat):SOp:=.op ⟨some a,(.mv (.tmp b)),none⟩
abbrev Ab (a:Nat) (b:Int):SOp:=.op ⟨some a,(.mv (.av (.int .i64 b))),none⟩
abbrev Ac (a b c:Nat):SOp:=.op ⟨some a,(.load false b (.tmp c)),none⟩
abbrev Ad (a b c:Nat):SOp:=.op ⟨some a,(.faddr b (.tmp c)),none⟩
abbrev Ae (a b c:Nat):SOp:=.op ⟨some a,(.mv (.tmp c)),some (b,false)⟩
abbrev Af (a:Nat):SOp:=.op ⟨some a,(.mv (.av (.bool false))),none⟩
abbrev Ag (a b c:Nat):SOp:=.op ⟨some a,(.mv (.tmp c)),some (b,true)⟩
abbrev Ah (a b:Nat) (c:Int):SOp:=.op ⟨some a,(.bin .add (.tmp b) (.av (.int .i64 c))),none⟩
abbrev Ai (a b c:Nat):SOp:=.op ⟨some a,(.call b [(.tmp c)]),none⟩
abbrev Aj (a:Nat):SOp:=.op ⟨some a,(.mv (.av (.sl [] 0 (some 0)))),none⟩
abbrev Ak (a b c:Nat):SOp:=.op ⟨some a,(.bin .lss (.tmp b) (.tmp c)),none⟩
abbrev Al (a b:Nat):SOp:=.op ⟨some a,(.len false (.tmp b)),none⟩
abbrev Am (a:Nat):SOp:=.op ⟨some a,(.mv (.av (.str []))),none⟩
abbrev An (a b c d:Nat):SOp:=.op ⟨some a,(.iaddr b (.tmp c) (.tmp d)),none⟩
abbrev Ao (a b c:Nat):SOp:=.op ⟨none,(.store a (.tmp b) (.tmp c)),none⟩
abbrev Ap (a b:Nat):SOp:=.op ⟨some a,(.len true (.tmp b)),none⟩
abbrev Aq (a b c d:Nat):SOp:=.op ⟨some a,(.call b [(.tmp c),(.tmp d)]),none⟩
abbrev Ar (a b:Nat):SOp:=.op ⟨some a,(.extract (.tmp b) 0),none⟩
abbrev As (a b:Nat) (c:Int):SOp:=.op ⟨some a,(.bin .eql (.tmp b) (.av (.int .i64 c))),none⟩
abbrev Au (a b:Nat):SOp:=.op ⟨some a,(.extract (.tmp b) 1),none⟩
abbrev Aw (a b c:Nat):SOp:=.op ⟨some a,(.load true b (.tmp c)),none⟩
abbrev Ax (a b c d e:Nat):ai×Kd:=(⟨some a,(.load false b (.tmp c)),none⟩,(.read d e))
abbrev Ay (a:Nat):SOp:=.op ⟨some a,(.mv (.av (.bool true))),none⟩
abbrev Az (a b:Nat):SOp:=.op ⟨some a,(.un .not (.tmp b)),none⟩
abbrev A0 (a b c:Nat):ai×Kd:=(⟨some a,(.faddr b (.tmp c)),none⟩,.pure)
abbrev A3 (a b:Nat) (c:Int):SOp:=.op ⟨some a,(.bin .gtr (.tmp b) (.av (.int .i64 c))),none⟩
abbrev A4 (a b:Nat):ai×Kd:=(⟨some a,(.mv (.tmp b)),none⟩,.pure)
abbrev A5 (a b:Nat):SOp:=.op ⟨some a,(.box (.tmp b)),none⟩
abbrev A6 (a b c:Nat):SOp:=.op ⟨some a,(.idxS (.tmp b) (.tmp c)),none⟩
abbrev A7 (a b:Nat):SOp:=.op ⟨some a,(.nilchk (.tmp b)),none⟩
abbrev A8 (a b c:Nat) (d:Int):SOp:=.op ⟨some a,(.bin .gtr (.tmp c) (.av (.int .i64 d))),some (b,false)⟩
abbrev A9 (a b c d:Nat):ai×Kd:=(⟨some a,(.nilchk (.tmp b)),none⟩,(.read c d))
abbrev AA (a b c:Nat):SOp:=.op ⟨some a,(.bin .eql (.tmp b) (.tmp c)),none⟩
abbrev AB (a b c:Nat):SOp:=.op ⟨some a,(.app 1 1 1 [(.int .u8 0)] (.tmp b) (.tmp c)),none⟩
abbrev AC (a b:Nat) (c:Int):SOp:=.op ⟨some a,(.bin .neq (.tmp b) (.av (.int .i64 c))),none⟩
abbrev AD (a:Nat):SOp:=.op ⟨some a,(.mv (.av .nilptr)),none⟩
abbrev AE (a b c:Nat) (d:Int):SOp:=.op ⟨some a,(.bin .eql (.tmp c) (.av (.int .i64 d))),some (b,false)⟩
abbrev AF (a b c d:Nat):SOp:=.op ⟨some a,(.call c [(.tmp d)]),some (b,true)⟩
abbrev AH (a b:Nat):SOp:=.op ⟨some a,(.bslice false 1 1 [(.int .u8 0)] [(0,(1,(.tmp b)))]),none⟩
abbrev AI (a b c d:Nat):SOp:=.op ⟨some a,(.call c [(.tmp d)]),some (b,false)⟩
abbrev AJ (a b:Nat):SOp:=.op ⟨some a,(.b2s (.tmp b)),none⟩
abbrev AK (a b c d e:Nat):ai×Kd:=(⟨some a,(.call b [(.tmp c)]),none⟩,(.read d e))
abbrev AL (a b:Nat) (c:Int):SOp:=.op ⟨some a,(.bin .lss (.tmp b) (.av (.int .i64 c))),none⟩
abbrev AM (a b c:Nat):SOp:=.op ⟨some a,(.bin .add (.tmp b) (.tmp c)),none⟩
abbrev AN (a b c d:Nat):SOp:=.op ⟨some a,(.load false c (.tmp d)),some (b,false)⟩
abbrev AO (a b:Nat) (c:Int):SOp:=.op ⟨some a,(.bin .sub (.tmp b) (.av (.int .i64 c))),none⟩
abbrev AP (a b c:Nat):SOp:=.op ⟨some a,(.un .not (.tmp c)),some (b,false)⟩
abbrev AT (a b c d:Nat):SOp:=.op ⟨some a,(.idxS (.tmp c) (.tmp d)),some (b,true)⟩
abbrev AU (a b:Nat):SOp:=.op ⟨some a,(.bslice false 5 1 [(.str []),(.str []),(.int .i64 0),(.sl [] 0 (some 0)),(.sl [] 0 (some 0))] [(0,(5,(.tmp b)))]),none⟩
abbrev AX (a b c:Nat):SOp:=.op ⟨some a,(.app 1 5 88 [(.str []),(.str []),(.int .i64 0),(.sl [] 0 (some 0)),(.sl [] 0 (some 0))] (.tmp b) (.tmp c)),none⟩
abbrev AY (a b:Nat) (c:Int):SOp:=.op ⟨some a,(.bin .geq (.tmp b) (.av (.int .i64 c))),none⟩
abbrev AZ (a:Nat):SOp:=.op ⟨some a,(.alloc [(.str []),(.str [])]),none⟩
abbrev Ba (a b c d e:Nat):SOp:=.op ⟨some a,(.call b [(.tmp c),(.tmp d),(.tmp e)]),none⟩
abbrev Bb (a b c:Nat) (d:Int) (e:Nat):SOp:=.op ⟨some a,(.call b [(.tmp c),(.av (.int .i64 d)),(.tmp e)]),none⟩
abbrev Bc (a b:Nat):SOp:=.op ⟨some a,(.extract (.tmp b) 2),none⟩
abbrev Bd (a b c d:Nat):SOp:=.op ⟨some a,(.load false c (.tmp d)),some (b,true)⟩
abbrev Be (a b c d:Nat):SOp:=.op ⟨some a,(.faddr c (.tmp d)),some (b,false)⟩
abbrev Bf (a b:Nat):SOp:=.op ⟨some a,(.conv .i64 (.tmp b)),none⟩
abbrev Bg (a b c d:Nat):SOp:=.op ⟨some a,(.idxS (.tmp c) (.tmp d)),some (b,false)⟩
abbrev Bh (a b c:Nat):SOp:=.op ⟨some a,(.len true (.tmp c)),some (b,false)⟩
abbrev Bi (a b c:Nat):SOp:=.op ⟨some a,(.bin .eql (.tmp c) (.av (.int .u8 32))),some (b,true)⟩
abbrev Bj (a b c:Nat):SOp:=.op ⟨some a,(.app 1 1 16 [(.str [])] (.tmp b) (.tmp c)),none⟩
abbrev Bk (a:Nat):SOp:=.op ⟨some a,(.alloc [(.str []),(.sl [] 0 (some 0))]),none⟩
abbrev Bl (a b c d:Nat):SOp:=.op ⟨some a,(.faddr c (.tmp d)),some (b,true)⟩
abbrev Bm (a b:Nat):SOp:=.op ⟨some a,(.call b []),none⟩
abbrev Bn (a:Nat):SOp:=.op ⟨some a,(.alloc [(.str []),(.int .i64 0),(.bool false),(.bool false)]),none⟩
abbrev Bo (a b c:Nat):SOp:=.op ⟨some a,(.callv (.tmp b) [(.tmp c)]),none⟩
abbrev Bp (a b c:Nat) (d:Int):SOp:=.op ⟨some a,(.bin .lss (.tmp c) (.av (.int .i64 d))),some (b,true)⟩
abbrev Bq (a b c:Nat):SOp:=.op ⟨some a,(.app 1 2 32 [(.str []),(.str [])] (.tmp b) (.tmp c)),none⟩
abbrev Br (a b:Nat):SOp:=.op ⟨some a,(.bslice false 1 1 [(.str [])] [(0,(1,(.tmp b)))]),none⟩
abbrev Bt (a b c d e:Nat):ai×Kd:=(⟨some a,(.load true b (.tmp c)),none⟩,(.read d e))
abbrev Bu (a b:Nat):SOp:=.op ⟨some a,(.bslice false 2 1 [(.str []),(.sl [] 0 (some 0))] [(0,(2,(.tmp b)))]),none⟩
abbrev Bv (a b c:Nat):SOp:=.op ⟨some a,(.bin .neq (.tmp b) (.tmp c)),none⟩
abbrev Bw (a b c:Nat):SOp:=.op ⟨some a,(.eqk false .ptr (.tmp c) (.av .nilptr)),some (b,false)⟩
abbrev Bx (a:Nat):SOp:=.op ⟨some a,(.bslice false 1 1 [(.str [])] [(0,(1,(.av (.str [100,101,115,99,114,105,112,116,105,111,110]))))]),none⟩
abbrev Bz (a b c d e:Nat):SOp:=.op ⟨some a,(.iaddr c (.tmp d) (.tmp e)),some (b,true)⟩
abbrev B4 (a b c:Nat) (d:Int):SOp:=.op ⟨some a,(.bin .eql (.tmp c) (.av (.int .i64 d))),some (b,true)⟩
abbrev B5 (a b:Nat) (c:Int):SOp:=.op ⟨some a,(.callv (.tmp b) [(.av (.int .i64 c))]),none⟩
abbrev B6 (a b c:Nat) (d:Int):SOp:=.op ⟨some a,(.bin .rem (.tmp c) (.av (.int .i64 d))),some (b,true)⟩
abbrev B7 (a b:Nat):SOp:=.op ⟨some a,(.bin .sub (.tmp b) (.av (.int .u8 48))),none⟩
abbrev B8 (a b:Nat) (c:Int):SOp:=.op ⟨some a,(.idxS (.tmp b) (.av (.int .i64 c))),none⟩
abbrev B9 (a b c:Nat) (d:Int):SOp:=.op ⟨some a,(.bin .geq (.tmp c) (.av (.int .i64 d))),some (b,false)⟩
abbrev BA (a b:Nat):SOp:=.op ⟨some a,(.bin .eql (.tmp b) (.av (.int .u8 0))),none⟩
abbrev BB (a b c:Nat):SOp:=.op ⟨some a,(.len false (.tmp c)),some (b,false)⟩
abbrev BC (a b c d:Nat):SOp:=.op ⟨some a,(.slS (.tmp b) (some (.tmp c)) (some (.tmp d))),none⟩
abbrev BD (a b:Nat):SOp:=.op ⟨some a,(.bslice false 1 1 [(.sl [] 0 (some 0))] [(0,(1,(.tmp b)))]),none⟩
abbrev BE (a b c:Nat):SOp:=.op ⟨some a,(.app 1 1 24 [(.sl [] 0 (some 0))] (.tmp b) (.tmp c)),none⟩
abbrev BF (a b c:Nat):SOp:=.op ⟨some a,(.len false (.tmp c)),some (b,true)⟩
abbrev BG (a b:Nat):SOp:=.op ⟨some a,(.eqk false .ptr (.tmp b) (.av .nilptr)),none⟩
abbrev BH (a b c:Nat):SOp:=.op ⟨some a,(.mget (.st [.str,.bool,.str]) false .nilmap (.tmp b) (.tmp c)),none⟩
abbrev BI (a b c d e:Nat):SOp:=.op ⟨some a,(.call c [(.tmp d),(.tmp e)]),some (b,true)⟩
abbrev BJ (a b:Nat):SOp:=.op ⟨some a,(.bslice false 2 1 [(.int .i64 0),(.sl [] 0 (some 0))] [(0,(2,(.tmp b)))]),none⟩
abbrev BK (a b c:Nat):SOp:=.op ⟨some a,(.app 1 2 32 [(.int .i64 0),(.sl [] 0 (some 0))] (.tmp b) (.tmp c)),none⟩
abbrev BL (a b c d e f:Nat):SOp:=.op ⟨some a,(.call c [(.tmp d),(.tmp e),(.tmp f)]),some (b,false)⟩
abbrev BM (a b:Nat):SOp:=.op ⟨some a,(.bslice false 4 1 [(.str []),(.int .i64 0),(.bool false),(.bool false)] [(0,(4,(.tmp b)))]),none⟩
abbrev BN (a b c:Nat):SOp:=.op ⟨some a,(.app 1 4 32 [(.str []),(.int .i64 0),(.bool false),(.bool false)] (.tmp b) (.tmp c)),none⟩
abbrev BO (a b c:Nat) (d:Int):SOp:=.op ⟨some a,(.idxS (.tmp c) (.av (.int .i64 d))),some (b,false)⟩
abbrev BP (a b c:Nat) (d:Int):SOp:=.op ⟨some a,(.callv (.tmp c) [(.av (.int .i64 d))]),some (b,false)⟩
abbrev BQ (a b c:Nat):SOp:=.op ⟨some a,(.slS (.tmp b) (some (.tmp c)) none),none⟩
abbrev BR (a b c:Nat) (d e:Int):SOp:=.op ⟨some a,(.slS (.tmp c) (some (.av (.int .i64 d))) (some (.av (.int .i64 e)))),some (b,false)⟩
abbrev BS (a b:Nat):SOp:=.op ⟨some a,(.bin .eql (.tmp b) (.av (.str []))),none⟩
abbrev BT (a b:Nat):SOp:=.op ⟨some a,(.bslice false 2 1 [(.str []),(.str [])] [(0,(2,(.tmp b)))]),none⟩
abbrev BU (a b c:Nat) (d:Int):SOp:=.op ⟨some a,(.bin .sub (.tmp c) (.av (.int .i64 d))),some (b,false)⟩
abbrev BV (a b c:Nat):SOp:=.op ⟨some a,(.slV 2 (.tmp b) none (some (.tmp c)) none),none⟩
abbrev BW (a b:Nat):SOp:=.op ⟨some a,(.bin .geq (.tmp b) (.av (.int .u8 65))),none⟩
abbrev BX (a b c:Nat):SOp:=.op ⟨some a,(.bin .eql (.tmp c) (.av (.int .u8 32))),some (b,false)⟩
abbrev BY (a b c:Nat) (d:Int):SOp:=.op ⟨some a,(.bin .sub (.tmp c) (.av (.int .i64 d))),some (b,true)⟩
abbrev BZ (a:Nat):SOp:=.op ⟨some a,(.mv (.av (.int .u8 0))),none⟩
abbrev Ca (a b c:Nat):SOp:=.op ⟨some a,(.app 1 2 40 [(.str []),(.sl [] 0 (some 0))] (.tmp b) (.tmp c)),none⟩
abbrev Cb (a:Nat):SOp:=.op ⟨some a,(.alloc [(.int .i64 0),(.sl [] 0 (some 0))]),none⟩
abbrev Cc (a:Nat):SOp:=.op ⟨some a,(.alloc [(.sl [] 0 (some 0)),(.sl [] 0 (some 0))]),none⟩
abbrev LSO:=List SOp
abbrev Cd:List Bool:=[true,false]
abbrev Ce:List Bool:=[true,false,false]
abbrev Cf:List Bool:=[true,false,false,false]
abbrev Cg:List Bool:=[true,false,false,false,false]
abbrev Ch:List Bool:=[true,false,false,false,false,false]
abbrev Ci:List Bool:=[true,false,false,false,false,false,false]
abbrev Cj:List Bool:=[true,true,false]
abbrev Ck:List Bool:=[false,false,false,false,false]
abbrev Cl:List Bool:=[true,true,false,false,false]
abbrev Cm:List Bool:=[true,false,false,false,false,false,false,false]
abbrev Co:List Bool:=[true,true,false,false,false,false,false,false]
abbrev Cp:List Bool:=[false,false,false,false,false,false,false]
abbrev Cq:List Bool:=[true,true,false,false]
abbrev Cr:List Bool:=[true,false,false,false,false,false,false,false,false]
abbrev Cs:List Bool:=[true,true,false,false,false,false,false]
abbrev Ct:List Bool:=[true,false,false,false,false,false,false,false,false,false,false,false]
abbrev Cu:List Bool:=[true,true,true,false]
abbrev Cv:List Bool:=[false,false,false,false]
abbrev Cw:List Bool:=[false,false,false,false,false,false,false,false]
abbrev Cx:List Bool:=[false,false,false,false,false,false]
abbrev Cy:List Bool:=[true,true,true,false,false]
abbrev Cz:List Bool:=[true,true,false,false,false,false]
abbrev C0:List Bool:=[true,true,false,false,false,false,false,false,false]
abbrev C2:List Bool:=[true,false,false,false,false,false,false,false,false,false]
abbrev C3:List Bool:=[false,false]
abbrev C4:List Bool:=[true,true,true,false,false,false,false,false,false]
abbrev C6:List Bool:=[true,false,false,false,false,false,false,false,false,false,false]
abbrev C7:List Bool:=[false,false,false]
abbrev CA:List Bool:=[true,true,true,false,false,false]
abbrev CB:List Bool:=[true,true,true,false,false,false,false,false,false,false,false,false]
abbrev CC:List Bool:=[true,true,false,false,false,false,false,false,false,false,false]
attribute [push_cast] Aa Ab Ac Ad Ae Af Ag Ah Ai Aj Ak Al Am An Ao Ap Aq Ar As Au Aw Ax Ay Az A0 A3 A4 A5 A6 A7 A8 A9 AA AB AC AD AE AF AH AI AJ AK AL AM AN AO AP AT AU AX AY AZ Ba Bb Bc Bd Be Bf Bg Bh Bi Bj Bk Bl Bm Bn Bo Bp Bq Br Bt Bu Bv Bw Bx Bz B4 B5 B6 B7 B8 B9 BA BB BC BD BE BF BG BH BI BJ BK BL BM BN BO BP BQ BR BS BT BU BV BW BX BY BZ Ca Cb Cc Cd Ce Cf Cg Ch Ci Cj Ck Cl Cm Co Cp Cq Cr Cs Ct Cu Cv Cw Cx Cy Cz C0 C2 C3 C4 C6 C7 CA CB CC
section
variable {P:Program} {w0:World} {S0:SB} {N:Nat} {own:Nat->Nat->Nat} {Q:Exit->Tm->List Blk->Prop} {T:Tm} {L:List Blk}
theorem Rel.none_of {E:Env} {w:World} (h:Rel w0 S0 E L w):∀ i,L.length<=i->E.loc i=none/\E.tok i=none:=fun i hi=>⟨h.fresh i hi,h.tkfresh i hi⟩
theorem St.cut {E0 E:Env} {a:Act} {w:World} {T':Tm} {L':List Blk} {B:Nat} (h0:E0.le E) (hB:∀ i,B<=i->E0.loc i=none/\E0.tok i=none) (h:St w0 S0 N E T L a w) (hc:Cut B T' L' T L):∃ E',E0.le E'/\St w0 S0 N E' T' L' a w:=by
 obtain ⟨hs,X,rfl,hlen,hx⟩:=hc;rcases hx with rfl|⟨h1,h2⟩
 ·exact ⟨E,h0,by simpa using h.1,h.2.1.sub hs,h.2.2⟩
 ·refine ⟨E.res L'.length id,Qo h0 hB hlen id (fun _ _=>rfl),h.1.cut h2,fun t v hv=>?_,h.2.2⟩;have:=(h.2.1.sub hs) t v hv;refine VR.cut (E:=E) (E':=E.res L'.length id) (p:=fun i=>decide (i<L'.length)) (fun _ _ _ x=>x) (fun i c hi hc=>?_) (fun i c hi hc=>?_) v _ (h1 _ (z7 hv)) this
  ·rw [Env.res_loc (by simpa using hi)];exact hc
  ·rw [Env.res_tok (by simpa using hi)];exact hc
def Nxt (B n:Nat) (I:Nat->Tm->List Blk->Prop) (T1:Tm) (L1:List Blk):Prop:=∃ m T2 L2,m<n/\Cut B T2 L2 T1 L1/\I m T2 L2
def Mid (B:Nat) (R:Tm->List Blk->Prop) (T1:Tm) (L1:List Blk):Prop:=∃ T2 L2,Cut B T2 L2 T1 L1/\R T2 L2
theorem aj {B n:Nat} {I:Nat->Tm->List Blk->Prop} {T1:Tm} {L1:List Blk} (m:Nat) (T2:Tm) (L2:List Blk) (h1:m<n) (h2:Cut B T2 L2 T1 L1) (h3:I m T2 L2):Nxt B n I T1 L1:=⟨m,T2,L2,h1,h2,h3⟩
theorem nX {B:Nat} {R:Tm->List Blk->Prop} {T1:Tm} {L1:List Blk} (T2:Tm) (L2:List Blk) (h2:Cut B T2 L2 T1 L1) (h3:R T2 L2):Mid B R T1 L1:=⟨T2,L2,h2,h3⟩
theorem ak {x:bV} (I:Nat->Tm->List Blk->Prop) {n0:Nat} {T0:Tm} {L0:List Blk} (hc0:Cut L.length T0 L0 T L) (h0:I n0 T0 L0)
  (round:∀ n T' L',I n T' L'->AW P N own x (RY (Nxt L.length n I) Q) T' L'):AW P N own (.loop x) Q T L:=fun c hc r hr w0 S0 E a w hst=>by
 classical
 obtain ⟨c1,rfl,h1⟩:=Vf hc;have hB:=hst.1.none_of
 let J:Act->World->Nat->Prop:=fun a w n=>∃ w1 S1 E' T' L',Bs w0 S0 w1 S1/\E.le E'/\I n T' L'/\St w1 S1 N E' T' L' a w
 have least:∀ a w,∃ m,(∃ n,J a w n)->J a w m/\∀ k,J a w k->m<=k:=fun a w=>by
  by_cases h:∃ n,J a w n
  ·obtain ⟨n,hn⟩:=h;obtain ⟨m,h1,h2⟩:=OG (J a w) n hn;exact ⟨m,fun _=>⟨h1,h2⟩⟩
  ·exact ⟨0,fun h'=>absurd h' h⟩
 let μ:Act->World->Nat:=fun a w=>Classical.choose (least a w)
 have hμ:∀ a w,(∃ n,J a w n)->J a w (μ a w)/\∀ k,J a w k->μ a w<=k:=fun a w=>Classical.choose_spec (least a w)
 obtain ⟨E1,e1,e2⟩:=hst.cut (.refl E) hB hc0;refine wpIn_loop (fun a w=>∃ n,J a w n) μ ⟨n0,w0,S0,E1,_,_,.refl _ _,e1,h0,e2⟩ fun a w hJ=>?_
 obtain ⟨⟨w1,S1,E',T',L',b,g1,g2,g3⟩,_⟩:=hμ a w hJ;refine wpIn_mono (round _ T' L' g2 c1 h1 r (fun e=>hr (by simp [bV.hasRF,e])) w1 S1 E' a w g3) fun e a' w' ⟨w3,S3,E'',T'',L'',b2,k1,k2,k3⟩=>?_
 cases e
 ·obtain ⟨m,T2,L2,hm,hcut,hI⟩:=k2;obtain ⟨E3,q1,q2⟩:=k3.cut (g1.trans k1) hB hcut;have hJ':J a' w' m:=⟨w3,S3,E3,T2,L2,b.trans b2,q1,hI,q2⟩;exact ⟨⟨m,hJ'⟩,Nat.lt_of_le_of_lt ((hμ a' w' ⟨m,hJ'⟩).2 m hJ') hm⟩
 all_goals exact ⟨w3,S3,E'',T'',L'',b.trans b2,g1.trans k1,k2,k3⟩
theorem Xy {lc:bV} {T':Tm} {L':List Blk} (hc:Cut L.length T' L' T L) (h:AW P N own lc Q T' L'):AW P N own lc Q T L:=fun c hl r hr w0 S0 E a w hst=>by
 obtain ⟨E1,e1,e2⟩:=hst.cut (.refl E) hst.1.none_of hc;exact wpIn_mono (h c hl r hr w0 S0 E1 a w e2) fun e a' w' ⟨w1,S1,E',T1,L1,b,k1,k2,k3⟩=>⟨w1,S1,E',T1,L1,b,e1.trans k1,k2,k3⟩
theorem K1 {x y:bV} (R:Tm->List Blk->Prop) (h:AW P N own x (RY (Mid L.length R) Q) T L) (hq:∀ T2 L2,R T2 L2->L.length<=L2.length->AW P N own y Q T2 L2):AW P N own (.seq x y) Q T L:=fun c hc r hr w0 S0 E a w hst=>by
 obtain ⟨c1,c2,rfl,h1,h2⟩:=RG hc;refine wpIn_seq (wpIn_mono (h c1 h1 r (fun e=>hr (by simp [bV.hasRF,e])) w0 S0 E a w hst) fun e a' w' ⟨w1,S1,E',T',L',b,g1,g2,g3⟩=>?_);cases e
 ·obtain ⟨T2,L2,k1,k2⟩:=g2;obtain ⟨E3,q1,q2⟩:=g3.cut g1 hst.1.none_of k1;obtain ⟨_,X,_,hlen,_⟩:=k1;exact wpIn_mono (hq T2 L2 k2 hlen c2 h2 r (fun e=>hr (by simp [bV.hasRF,e])) w1 S1 E3 a' w' q2) fun e a'' w'' ⟨w2,S2,E4,T4,L4,b2,k1,k2,k3⟩=>⟨w2,S2,E4,T4,L4,b.trans b2,q1.trans k1,k2,k3⟩
 all_goals exact ⟨w1,S1,E',T',L',b,g1,g2,g3⟩
theorem TR.cons {E:Env} {a:Act} {t:Nat} {v:AV} (r:TR E T a) (hv:VR E v (a.tmps.getD t undef)):TR E ((t,v)::T) a:=fun t' v' h=>by
 simp only [ao] at h;split at h
 ·rename_i e;subst e;simp at h;subst h;exact hv
 ·exact r t' v' h
theorem cG {lc:bV} (t sz:Nat) {l:List AV} {n:Nat} (h1:ao T t=some (.sl l n (some n))) (h2:l.length=n * sz) (h:AW P N own lc Q ((t,.gsl l n L.length sz)::T) (L++[.spare n sz])):AW P N own lc Q T L:=fun c hl r hr w0 S0 E a w hst=>by
 obtain ⟨r1,r2⟩:=hst.1.addtok (n:=n) (sz:=sz) (lc:=none) JH;have hv:=hst.2.1 t _ h1;have hT:=hst.2.1.mono r1;refine wpIn_mono (h c hl r hr w0 S0 _ a w ⟨r2,hT.cons ?_,hst.2.2⟩) fun e a' w' ⟨w1,S1,E',T1,L1,b,k1,k2,k3⟩=>⟨w1,S1,E',T1,L1,b,r1.trans k1,k2,k3⟩
 have hv':=VR.mono r1 _ _ hv;generalize a.tmps.getD t undef=v at hv';simp only [VR] at hv' ⊢;obtain ⟨p,c',q1,q2,q3,q4⟩:=hv';exact ⟨p,c',q1,q2,h2,q4,⟨n,sz,none⟩,by simp,ZA _,fun _=>⟨rfl,fun _=>q3 n rfl,by simp⟩⟩
theorem aI {x:Opd} {y z:bV} {p:Prop} [Decidable p] (hx:evX T x=some (.bool (decide p))) (ht:p->AW P N own y Q T L) (hf:¬ p->AW P N own z Q T L):AW P N own (.cond x y z) Q T L :=
 aM hx (fun e=>ht (of_decide_eq_true e)) (fun e=>hf (of_decide_eq_false e))
theorem aH {x:Opd} {y z:bV} {p:Prop} [Decidable p] (hx:evX T x=some (.bool (!decide p))) (ht:¬ p->AW P N own y Q T L) (hf:p->AW P N own z Q T L):AW P N own (.cond x y z) Q T L :=
 aM hx (fun e=>ht (of_decide_eq_false (by simpa using e))) (fun e=>hf (of_decide_eq_true (by simpa using e)))
end
section
variable {P:Program} {K:Tm->Prop} {L L1:List Blk} {Ls:List (List Blk)} {p:AV} {d:Option Nat} {op:LOp} {rest:List ai} {T:Tm} {t:Nat} {b:Bool} {al:Option Nat} {n:Nat}
def V8 (L:List Blk) (k:AV->Prop):Option (Prop×AV×List Blk)->Prop
 | some (c,av,L')=>c/\L'=L/\k av
 | none=>False
theorem TQ {k:AV->Prop} {c:Prop} {av:AV} {L':List Blk}:V8 L k (some (c,av,L'))=(c/\L'=L/\k av):=rfl
def Rc (L L1:List Blk) (k:AV->Prop):Option (Prop×AV×List Blk)->Option (Prop×AV×List Blk)->Prop
 | some (c,av,L'),some (c2,av2,L2)=>c/\L'=L/\c2/\av2=av/\L2=L1/\k av
 | _,_=>False
theorem TP {k:AV->Prop} {c c2:Prop} {av av2:AV} {L' L2:List Blk}:Rc L L1 k (some (c,av,L')) (some (c2,av2,L2))=(c/\L'=L/\c2/\av2=av/\L2=L1/\k av):=rfl
def YQ (P:Program) (f:FuncId) (L:List Blk) (k:AV->Prop):Option (List AV)->Prop
 | some args=>∃ v,af P f args L (fun av L'=>av=v/\L'=L)/\k v
 | none=>False
def Xw (P:Program) (f:FuncId) (L L1:List Blk) (k:AV->Prop):Option (List AV)->Prop
 | some args=>∃ v,af P f args L (fun av L'=>av=v/\L'=L)/\af P f args L1 (fun av L'=>av=v/\L'=L1)/\k v
 | none=>False
def P6 (b:Bool) (y n:Prop):Option AV->Prop
 | some (.bool x)=>if x=b then y else n
 | some (.tup [])=>n
 | _=>False
theorem TV {b x:Bool} {y n:Prop}:P6 b y n (some (.bool x))=if x=b then y else n:=rfl
theorem Wd {b:Bool} {y n:Prop}:P6 b y n (some (.tup []))=n:=rfl
def XK (P:Program) (f:FuncId) (args:List AV) (L L1:List Blk) (k:AV->Prop):Prop:=∃ v,af P f args L (fun av L'=>av=v/\L'=L)/\af P f args L1 (fun av L'=>av=v/\L'=L1)/\k v
theorem bg {f:FuncId} {args:List AV} {k:AV->Prop} {v:AV} (h:af P f args L (fun av L'=>av=v/\L'=L)) (h1:af P f args L1 (fun av L'=>av=v/\L'=L1)) (hk:k v):XK P f args L L1 k:=⟨v,h,h1,hk⟩
theorem YP {f:FuncId} {k:AV->Prop} {args:List AV}:YQ P f L k (some args)=Wh P f args L k:=rfl
theorem YO {f:FuncId} {k:AV->Prop} {args:List AV}:Xw P f L L1 k (some args)=XK P f args L L1 k:=rfl
theorem Wm {o:ai} {v:AV} (h:o.op.isCall=false):AQv P o T L v=(match ah T L o.op with|some (c,av,L')=>c/\av=v/\L'=L|none=>False):=by
 obtain ⟨d,op,g⟩:=o;cases op<;>simp only [LOp.isCall,aaF] at h<;>rfl
def M4 (P:Program) (L:List Blk) (k:AV->Prop) (T:Tm) (op:LOp):Prop :=
 match op with
 | .call f xs=>YQ P f L k (eW T xs)
 | .callv f xs=>∃ v,AQv P ⟨none,.callv f xs,none⟩ T L v/\k v
 | lo=>V8 L k (ah T L lo)
def V5 (P:Program) (L L1:List Blk) (k:AV->Prop) (T:Tm) (op:LOp):Prop :=
 match op with
 | .call f xs=>Xw P f L L1 k (eW T xs)
 | .callv f xs=>∃ v,(AQv P ⟨none,.callv f xs,none⟩ T L v/\AQv P ⟨none,.callv f xs,none⟩ T L1 v)/\k v
 | lo=>Rc L L1 k (ah T L lo) (ah T L1 lo)
def AGK (P:Program) (K:Tm->List Blk->Prop) (Ls:List (List Blk)) (H:List kQ) (rest:List (ai×Kd)) (d:Option Nat) (T:Tm) (av:AV):Prop:=AG P K rest Ls H (cg d av T)
def AGR (P:Program) (K:Tm->List Blk->Prop) (Ls:List (List Blk)) (H:List kQ) (rest:List (ai×Kd)) (f:Nat) (o:ai) (T:Tm) (av:AV):Prop:=AG P K rest Ls (QK f o T av H) (cg o.dst av T)
def AGE (P:Program) (K:Tm->List Blk->Prop) (Ls:List (List Blk)) (H:List kQ) (rest:List (ai×Kd)) (d:Option Nat) (T:Tm) (av:AV) (L2:List Blk):Prop:=vU P L2 H/\AG P K rest (L2::Ls) (GD H) (cg d av T)
def V7 (k:AV->List Blk->Prop):Option (Prop×AV×List Blk)->Prop
 | some (c,av,L2)=>c/\k av L2
 | none=>False
theorem TO {k:AV->List Blk->Prop} {c:Prop} {av:AV} {L2:List Blk}:V7 k (some (c,av,L2))=(c/\k av L2):=rfl
def IsV (v av:AV):Prop:=av=v
theorem Yj {o:ai} {T:Tm} {v:AV} {H:List kQ}:QK 0 o T v H=H:=rfl
theorem Yi {f:Nat} {o:ai} {T:Tm} {v:AV} {H:List kQ}:QK (f+1) o T v H=(f+1,o,T,v)::H:=rfl
theorem VM:GD []=[]:=rfl
theorem VL {y:ai×Tm×AV} {H:List kQ}:GD ((1,y)::H)=GD H:=rfl
theorem Yu {y:ai×Tm×AV} {H:List kQ}:GD ((n+2,y)::H)=(n+1,y)::GD H:=rfl
theorem DC {k:AV->Prop}:(∃ v,AQ P ⟨d,op,none⟩ T L v/\k v)=M4 P L k T op:=by
 by_cases h:op.isCall=false
 ·have e:M4 P L k T op=V8 L k (ah T L op):=by cases op<;>simp only [LOp.isCall,aaF] at h<;>rfl
  rw [e];simp only [AQ,Wm (o:=⟨d,op,none⟩) h];rcases ah T L op with _|⟨c,av,L'⟩
  ·simp [V8]
  ·simp only [V8,eq_iff_iff];exact ⟨fun ⟨v,⟨h1,h2,h3⟩,h4⟩=>⟨h1,h3,h2 ▸ h4⟩,fun ⟨h1,h2,h3⟩=>⟨av,⟨h1,rfl,h2⟩,h3⟩⟩
 ·cases op<;>simp only [LOp.isCall,not_true_eq_false] at h
  ·rename_i f xs
   simp only [AQ,AQv,M4];rcases eW T xs with _|args
   ·simp [YQ]
   ·rfl
  ·rfl
theorem Xz {k:AV->Prop}:(∃ v,(AQ P ⟨d,op,none⟩ T L v/\AQ P ⟨d,op,none⟩ T L1 v)/\k v)=V5 P L L1 k T op:=by
 by_cases h:op.isCall=false
 ·have e:V5 P L L1 k T op=Rc L L1 k (ah T L op) (ah T L1 op):=by cases op<;>simp only [LOp.isCall,aaF] at h<;>rfl
  rw [e];simp only [AQ,Wm (o:=⟨d,op,none⟩) h];rcases ah T L op with _|⟨c,av,L'⟩<;>rcases ah T L1 op with _|⟨c2,av2,L2⟩
  ·simp [Rc]
  ·simp [Rc]
  ·simp [Rc]
  ·simp only [Rc,eq_iff_iff];exact ⟨fun ⟨v,⟨⟨h1,h2,h3⟩,h4,h5,h6⟩,h7⟩=>⟨h1,h3,h4,h5.trans h2.symm,h6,h2 ▸ h7⟩,fun ⟨h1,h2,h3,h4,h5,h6⟩=>⟨av,⟨⟨h1,rfl,h2⟩,h3,h4,h5⟩,h6⟩⟩
 ·cases op<;>simp only [LOp.isCall,not_true_eq_false] at h
  ·rename_i f xs
   simp only [AQ,AQv,V5];rcases eW T xs with _|args
   ·simp [Xw]
   ·simp only [Xw,and_assoc]
  ·rfl
theorem Rk {k:AV->Prop} {g:ai->AV->Prop} (hg:∀ v,g ⟨d,op,some (t,b)⟩ v=match ao T t with|some (.bool x)=>if x=b then g ⟨d,op,none⟩ v else v=.tup []|some (.tup [])=>v=.tup []|_=>False) :
  (∃ v,g ⟨d,op,some (t,b)⟩ v/\k v)=P6 b (∃ v,g ⟨d,op,none⟩ v/\k v) (k (.tup [])) (ao T t):=by
 simp only [hg];rcases ao T t with _|x
 ·simp [P6]
 ·cases x<;>simp only [P6,false_and,exists_false]
  ·rename_i x
   by_cases e:x=b
   ·simp [e]
   ·simp [e]
  ·rename_i l
   cases l with
   | nil=>simp
   | cons _ _=>simp
theorem YS {K:Tm->List Blk->Prop} {H:List kQ}:AG P K [] (L::Ls) H T=K T L:=rfl
theorem XB {K:Tm->List Blk->Prop} {H:List kQ} {r:List (ai×Kd)}:AG P K ((⟨d,op,none⟩,.pure)::r) (L::Ls) H T=M4 P L (AGK P K (L::Ls) H r d T) T op:=DC
theorem Wr {K:Tm->List Blk->Prop} {H:List kQ} {r:List (ai×Kd)}:AG P K ((⟨d,op,some (t,b)⟩,.pure)::r) (L::Ls) H T=P6 b (M4 P L (AGK P K (L::Ls) H r d T) T op) (AGK P K (L::Ls) H r d T (.tup [])) (ao T t):=by
 rw [<- DC (d:=d)];exact Rk (g:=fun o v=>AQ P o T L v) fun v=>rfl
theorem Wq {K:Tm->List Blk->Prop} {H:List kQ} {r:List (ai×Kd)} {f:Nat}:AG P K ((⟨d,op,none⟩,.read 0 f)::r) (L::Ls) H T=M4 P L (AGR P K (L::Ls) H r f ⟨d,op,none⟩ T) T op:=by
 rw [<- DC (d:=d)];simp only [AG,aa9,aaX,ZS,forall_eq,AGR]
theorem TY {K:Tm->List Blk->Prop} {H:List kQ} {r:List (ai×Kd)} {f:Nat}:AG P K ((⟨d,op,some (t,b)⟩,.read 0 f)::r) (L::Ls) H T=P6 b (M4 P L (AGR P K (L::Ls) H r f ⟨d,op,some (t,b)⟩ T) T op) (AGR P K (L::Ls) H r f ⟨d,op,some (t,b)⟩ T (.tup [])) (ao T t):=by
 rw [<- DC (d:=d)];simp only [AG,aa9,aaX,ZS,forall_eq];exact Rk (g:=fun o v=>AQ P o T L v) (k:=AGR P K (L::Ls) H r f ⟨d,op,some (t,b)⟩ T) fun v=>rfl
theorem Wp {K:Tm->List Blk->Prop} {H:List kQ} {r:List (ai×Kd)} {f:Nat}:AG P K ((⟨d,op,none⟩,.read 1 f)::r) (L::L1::Ls) H T=V5 P L L1 (AGR P K (L::L1::Ls) H r f ⟨d,op,none⟩ T) T op:=by
 rw [<- Xz (d:=d)];simp only [AG,aa9,aaX,ZF,abj,or_false,forall_eq_or_imp,forall_eq,AGR]
def Zc (P:Program) (L:List Blk) (k:AV->List Blk->Prop) (T:Tm) (op:LOp):Prop :=
 match op with
 | .call f xs=>∃ v L2,EQv P ⟨none,.call f xs,none⟩ T L v L2/\k v L2
 | .callv f xs=>∃ v L2,EQv P ⟨none,.callv f xs,none⟩ T L v L2/\k v L2
 | lo=>V7 k (ah T L lo)
theorem YT {K:Tm->List Blk->Prop} {H:List kQ} {r:List (ai×Kd)}:AG P K ((⟨d,op,none⟩,.eff)::r) (L::Ls) H T=Zc P L (AGE P K (L::Ls) H r d T) T op:=by
 simp only [AG,EQ];have key:∀ lo:LOp,lo.isCall=false->(∃ v L2,EQv P ⟨d,lo,none⟩ T L v L2/\AGE P K (L::Ls) H r d T v L2)=V7 (AGE P K (L::Ls) H r d T) (ah T L lo):=fun lo hlo=>by
  have e:∀ v L2,EQv P ⟨d,lo,none⟩ T L v L2=(match ah T L lo with|some (c,av,L')=>c/\av=v/\L'=L2|none=>False):=fun v L2=>by
   cases lo<;>simp only [LOp.isCall,aaF] at hlo<;>rfl
  simp only [e];rcases ah T L lo with _|⟨c,av,L'⟩
  ·simp [V7]
  ·simp only [V7,eq_iff_iff];exact ⟨fun ⟨v,L2,⟨h1,h2,h3⟩,h4⟩=>⟨h1,h2 ▸ h3 ▸ h4⟩,fun ⟨h1,h2⟩=>⟨av,L',⟨h1,rfl,rfl⟩,h2⟩⟩
 have key2:(∃ v L2,EQv P ⟨d,op,none⟩ T L v L2/\vU P L2 H/\AG P K r (L2::L::Ls) (GD H) (cg d v T))=(∃ v L2,EQv P ⟨d,op,none⟩ T L v L2/\AGE P K (L::Ls) H r d T v L2):=rfl;rw [key2];cases op
 case call=>rfl
 case callv=>rfl
 all_goals exact key _ rfl
theorem TT:vU P L []=True:=rfl
theorem Re {f:Nat} {v:AV} {H:List kQ}:vU P L ((f,⟨d,op,none⟩,T,v)::H)=(M4 P L (IsV v) T op/\vU P L H):=by
 rw [<- DC (d:=d)];simp [vU,IsV]
theorem P4 {f:Nat} {v:AV} {H:List kQ}:vU P L ((f,⟨d,op,some (t,b)⟩,T,v)::H)=(P6 b (M4 P L (IsV v) T op) (IsV v (.tup [])) (ao T t)/\vU P L H):=by
 rw [<- DC (d:=d),<- Rk (g:=fun o v=>AQ P o T L v) (k:=IsV v) (d:=d) (op:=op) (t:=t) (b:=b) (T:=T) fun v=>rfl];simp [vU,IsV]
theorem aW {N:Nat} {own:Nat->Nat->Nat} {Q:Exit->Tm->List Blk->Prop} {qk:List (ai×Kd)} {ts:List ai} (h:AG P (iV P (Q .normal) ts) qk [L] [] T):AW P N own (.dregion qk ts) Q T L:=MJ h
end
abbrev Kz (xs:List Int):List AV:=xs.map (AV.int .i64)
theorem Tl (xs:List Int):AV.frzL (xs.map (AV.int .i64))=xs.map (AV.int .i64):=by rw [AV.frzL_eq,Z4];rfl
theorem UV (xs:List Int):(xs.map (AV.int .i64)).all AV.one=true:=by rw [List.all_map];simp [AV.one]
theorem XQ:IntKind.i64.wrap 0=0:=by decide
theorem XP:IntKind.i64.wrap 1=1:=by decide
theorem XO:IntKind.i64.wrap 2=2:=by decide
theorem Wu:IntKind.i64.wrap (-1)=-1:=by decide
structure Nx (p:Prop):Prop where
 out:p
structure NxI (c p:Prop):Prop where
 out:c->p
theorem bh {c p:Prop} (h:c->p):NxI c p:=⟨h⟩
theorem bS {p:Prop} (h:p):Nx p:=⟨h⟩
section
variable {P:Program} {L:List Blk} {body:List SOp} {d:Nat} {x:Opd} {k:Tm->Prop} {T:Tm} {c:Prop} [Decidable c] {p q:Bool}
theorem bm (h:NxI (c) (GL P L body (IsX x q) T)) (hk:Nx (k ((d,.bool (decide c && q))::T))):GQ P L true body d x k T (decide c):=⟨q,fun e=>h.out (of_decide_eq_true e),hk.out⟩
theorem aR (h:NxI (¬ c) (GL P L body (IsX x q) T)) (hk:Nx (k ((d,.bool (!decide c && q))::T))):GQ P L true body d x k T (!decide c):=⟨q,fun e=>h.out (by simpa using e),hk.out⟩
theorem bo (h:NxI (¬ c) (GL P L body (IsX x q) T)) (hk:Nx (k ((d,.bool (decide c || q))::T))):GQ P L false body d x k T (decide c):=⟨q,fun e=>h.out (of_decide_eq_false e),hk.out⟩
theorem aS (h:NxI (c) (GL P L body (IsX x q) T)) (hk:Nx (k ((d,.bool (!decide c || q))::T))):GQ P L false body d x k T (!decide c):=⟨q,fun e=>h.out (by simpa using e),hk.out⟩
theorem bp (h:NxI (p=true) (GL P L body (IsX x q) T)) (hk:Nx (k ((d,.bool (p && q))::T))):GQ P L true body d x k T p:=⟨q,h.out,hk.out⟩
theorem aT (h:NxI (p=false) (GL P L body (IsX x q) T)) (hk:Nx (k ((d,.bool (p || q))::T))):GQ P L false body d x k T p:=⟨q,h.out,hk.out⟩
variable {a b:Prop} [Decidable a] [Decidable b]
theorem Yz:(decide a && decide b)=decide (a/\b):=(acd a b).symm
theorem Yx:(!decide a && decide b)=decide (¬ a/\b):=by simp [acd]
theorem Yy:(decide a && !decide b)=decide (a/\¬ b):=by simp [acd]
theorem Yw:(!decide a && !decide b)=decide (¬ a/\¬ b):=by simp [acd]
theorem YZ:(decide a || decide b)=decide (a\/b):=(ace a b).symm
theorem YX:(!decide a || decide b)=decide (¬ a\/b):=by simp [ace]
theorem YY:(decide a || !decide b)=decide (a\/¬ b):=by simp [ace]
theorem YW:(!decide a || !decide b)=decide (¬ a\/¬ b):=by simp [ace]
end
attribute [push_cast] Xs evD deg ZV YK Zi YL Xu Zh Zg Zb YF Za YE YG Rv XC XD We Zj R4 Zf GOp IsX Yz Yx Yy Yw YZ YX YY YW aaw abv aa5 Bool.and_false abI abW aa2 abH abh abu
attribute [push_cast] XQ XP XO Wu AGK AGR AGE IsV TO Yj Yi VM VL Yu YS XB Wr Wq TY Wp YT Zc TT Re P4 TQ TP YP YO TV Wd M4 V5 eq_self Ri N9 Wn TX Rl De RZ V6 Wg TW AOp ah evX eW ao cg bin Xm Xl un eqA row gh AV.cells? bnd RY Rf aq Kx N9 elems app My dL AV.frz AV.frzL Tl UV aaJ Option.bind_none ZV Z6 aaA ab8 if_true if_false true_and and_true ZN aav ZQ Z9 aao aa8 lY lX re WM Xq aaf aab aah aaP aaN Nat.mul_one Nat.one_mul aae Nat.mul_zero aaB aba abh abu decide_true decide_false forall_const not_true_eq_false not_false_eq_true ne_eq ZP aaF abk acf aa9 aaX c7 List.set_cons_zero List.set_cons_succ abe List.all_nil AV.one abl abv aaw false_implies implies_true decide_eq_true_eq decide_eq_false_iff_not abV Int.toNat_zero Int.toNat_natCast Z8 Bool.not_not Bool.not_eq_false
theorem Rel.frzB {w0:World} {S0:SB} {E:Env} {L:List Blk} {w:World} (h:Rel w0 S0 E L w) {i:Nat} {c:List AV} (hL:L[i]?=some (.cells c)):Rel w0 S0 E (L.set i (.cells (AV.frzL c))) w:=by
 have hi:i<L.length:=(Zz.1 hL).1;have fix:∀ (j:Nat) (k:Blk),(L.set i (.cells (AV.frzL c)))[j]?=some k->k.live=true->∃ k',L[j]?=some k'/\k'.live=true:=fun j k hk hl=>by
  rw [ZX] at hk;split at hk
  ·rename_i e;subst e;exact ⟨_,hL,rfl⟩
  ·exact ⟨k,hk,hl⟩
 have fixs:∀ (j n sz:Nat),(L.set i (.cells (AV.frzL c)))[j]?=some (.spare n sz)->L[j]?=some (.spare n sz):=fun j n sz hk=>by
  rw [ZX] at hk;split at hk
  ·cases hk
  ·exact hk
 refine ⟨h.mem,fun j k hk=>?_,fun i hi=>h.fresh i (by simpa using hi),fun i k c hk hl hc=>?_,fun i j k k' c c' hi li hj lj=>?_,
  fun i hi=>h.tkfresh i (by simpa using hi),fun i n sz t d hi=>h.tkown i n sz t d (fixs i n sz hi),fun i n sz t d j k' c' hi ht hd hj hl=>?_,
  fun i n sz t d i' n' sz' t' d' hi ht hd hi'=>h.tkinj i n sz t d i' n' sz' t' d' (fixs i n sz hi) ht hd (fixs i' n' sz' hi'),h.frame,h.size,h.os,h.tape,h.output,h.glob,h.gsz⟩
 ·rw [ZX] at hk;split at hk
  ·rename_i e;subst e
   cases hk;obtain ⟨cl,cs,ty,fr,g1,g2,g3,g4,g5,g6⟩:=h.blk _ _ hL;refine ⟨cl,cs,ty,fr,g1,g2,g3,by rw [AV.frzL_eq];simpa using g4,fun j a ha=>?_,g6⟩;rw [AV.frzL_eq,aag,ZZ] at ha;obtain ⟨b,hb,rfl⟩:=ha;obtain ⟨v,h1,h2⟩:=g5 j b hb;exact ⟨v,h1,VR.frz _ _ h2⟩
  ·exact h.blk j k hk
 ·obtain ⟨k',h1,h2⟩:=fix i k hk hl;exact h.own i k' c h1 h2 hc
 ·obtain ⟨k1,h1,h2⟩:=fix i k hi li;obtain ⟨k2,h3,h4⟩:=fix j k' hj lj;exact h.inj i j k1 k2 c c' h1 h2 h3 h4
 ·obtain ⟨k1,h1,h2⟩:=fix j k' hj hl;exact h.tkloc i n sz t d j k1 c' (fixs i n sz hi) ht hd h1 h2
theorem rb {P:Program} {f:FuncId} {args:List AV} {L:List Blk} {K:AV->List Blk->Prop} (h:af P f (AV.frzL args) L K):af P f args L K:=fun w0 S0 E w vs hR hv =>
 h w0 S0 E w vs hR (VRL.frz _ _ hv)
end Go.Proofs.YtcmfcpjnhephaaaGreatDoor.Av
