/- Joined texts of the walk, made small by a program. -/
import Derived.Test.YtdhjplmjpjfjnaaGreatHP4
set_option linter.unusedSimpArgs false
set_option linter.unusedVariables false
namespace Go.Proofs.YtdhjplmjpjfjnaaGreat.Av
open Go
def EI (P:Program) (o:aj) (T:Tm) (L:List Blk) (v:AV) (M:List Blk→Prop):Prop :=
 match o.op with
 | .call f xs=>match eY T xs with
   | some args=>ab P f args L fun av L'=>av=v∧M L'
   | none=>False
 | _=>False
def EQS (P:Program) (o:aj) (T:Tm) (L:List Blk) (v:AV) (M:List Blk→Prop):Prop :=
 match o.guard with
 | none=>EI P o T L v M
 | some (t,b)=>match aq T t with
   | some (.bool x)=>if x=b then EI P o T L v M else v=.tup []∧M L
   | some (.tup [])=>v=.tup []∧M L
   | _=>False
theorem EI.congr {P:Program} {o:aj} {T T':Tm} {L:List Blk} {v:AV} {M:List Blk→Prop} (h1:∀ t∈o.op.tmps,aq T t=aq T' t) (hv:EI P o T L v M):EI P o T' L v M:=by
 unfold EI at hv ⊢
 split at hv
 · rename_i f xs e
   rw [e] at h1
   rw [← fG (l:=xs) h1];exact hv
 · exact hv.elim
theorem EQS.congr {P:Program} {o:aj} {T T':Tm} {L:List Blk} {v:AV} {M:List Blk→Prop} (h:∀ t∈o.reads,aq T t=aq T' t) (hq:EQS P o T L v M):EQS P o T' L v M:=by
 have h1:∀ t∈o.op.tmps,aq T t=aq T' t:=fun t ht=>h t (by simp [aj.reads,ht])
 unfold EQS at hq ⊢
 split at hq
 · exact hq.congr h1
 · rename_i t b hg
   rw [← h t (by simp [aj.reads,hg])]
   split at hq
   · split at hq
     · rename_i e;rw [if_pos e];exact hq.congr h1
     · rename_i e;rw [if_neg e];exact hq
   · exact hq
   · exact hq.elim
theorem EI.aop {P:Program} {o:aj} {T:Tm} {L:List Blk} {v:AV} {M:List Blk→Prop} (hq:EI P o T L v M):AOp P o (fun T' L'=>T'=ba o.dst v T∧M L') T L:=by
 unfold EI at hq
 unfold AOp
 split at hq
 · rename_i f xs e
   simp only [e]
   split at hq
   · rename_i args ha
     rw [ha]
     exact ab.mono hq fun av L' ⟨h1,h2⟩=>⟨by rw [h1],h2⟩
   · exact hq.elim
 · exact hq.elim
theorem EQS.aops {P:Program} {o:aj} {T:Tm} {L:List Blk} {v:AV} {M:List Blk→Prop} (hq:EQS P o T L v M):fq P (fun T' L'=>T'=ba o.dst v T∧M L') [o] T L:=by
 unfold EQS at hq
 simp only [fq]
 split at hq
 · rename_i hg
   simp only [hg]
   exact hq.aop
 · rename_i t b hg
   simp only [hg]
   split at hq
   · rename_i x hx
     rw [hx,pU]
     split at hq
     · rename_i e;rw [if_pos e];exact hq.aop
     · rename_i e;rw [if_neg e];exact ⟨by rw [hq.1],hq.2⟩
   · rename_i hx
     rw [hx,F4];exact ⟨by rw [hq.1],hq.2⟩
   · exact hq.elim
def AGS (P:Program) (K:Tm→List Blk→Prop):List (aj×Kd)→List (List Blk→Prop)→Tm→Prop
 | [],M::_,T=>∀ L,M L→K T L
 | (o,.pure)::r,M::Ms,T=>∃ v,(∃ L,AQ P o T L v)∧AGS P K r (M::Ms) (ba o.dst v T)
 | (o,.read n 0)::r,M::Ms,T=>∃ v,(∀ M'∈(M::Ms).take (n+1),∀ L,M' L→AQ P o T L v)∧AGS P K r (M::Ms) (ba o.dst v T)
 | (_,.read _ (_+1))::_,_::_,_=>False
 | (o,.eff)::r,M::Ms,T=>∃ v M2,(∀ L,M L→EQS P o T L v M2)∧AGS P K r (M2::M::Ms) (ba o.dst v T)
 | _,[],_=>False
def HA (Ns:List (List Blk→Prop)) (m:Nat):List Blk→Prop:=Ns.reverse.getD m fun _=>False
theorem u9 {X Ls:List (List Blk→Prop)} {m:Nat} (h:m<Ls.length):HA (X++Ls) m=Ls.getD (Ls.length - 1 - m) fun _=>False:=by
 simp only [HA,List.reverse_append,List.getD_eq_getElem?_getD]
 rw [List.getElem?_append_left (by simpa using h),List.getElem?_reverse h]
def H9 (P:Program) (o:aj) (T:Tm) (Ns:List (List Blk→Prop)) (v:AV) (c:Nat):Kd→Prop
 | .pure=>∃ L,AQ P o T L v
 | .read n f=>∀ m,c - n≤m→m≤c+f→m<Ns.length→∀ L,HA Ns m L→AQ P o T L v
 | .eff=>∀ L,HA Ns c L→EQS P o T L v (HA Ns (c+1))
theorem JZ {P:Program} {K:Tm→List Blk→Prop}:∀ (qk:List (aj×Kd)) (Ls:List (List Blk→Prop)) (T:Tm) (k:Nat),AGS P K qk Ls T →
   ∃ (tr:List AV) (X:List (List Blk→Prop)),tr.length=qk.length∧X.length=dy qk ∧
     (∀ i o kd v,qk[i]?=some (o,kd)→tr[i]?=some v→H9 P o (TL T (qk.map (·.1)) tr k fun j=>decide (j<k+i)) (X++Ls) v (Ls.length - 1+dy (qk.take i)) kd) ∧
     ∀ L,HA (X++Ls) ((X++Ls).length - 1) L→K (TL T (qk.map (·.1)) tr k fun _=>true) L:=by
 intro qk
 induction qk with
 | nil =>
   intro Ls T k h
   cases Ls with
   | nil=>exact h.elim
   | cons M Ls =>
     refine ⟨[],[],rfl,rfl,fun i o kd v hi=>by simp at hi,?_⟩
     rw [List.nil_append,← List.nil_append (M::Ls),u9 (by simp)]
     have h':∀ L,M L→K T L:=h
     simpa [TL] using h'
 | cons q qk ih =>
   intro Ls T k h
   cases Ls with
   | nil=>rcases q with ⟨o,_|⟨_,_|_⟩|_⟩<;>exact h.elim
   | cons M Ls =>
     obtain ⟨o,kd⟩:=q
     have tl0:∀ (v:AV) (tr:List AV),TL T (((o,kd)::qk).map (·.1)) (v::tr) k (fun j=>decide (j<k+0))=T:=fun v tr=>by
       have e:TL T (((o,kd)::qk).map (·.1)) (v::tr) k (fun j=>decide (j<k+0))=TL T (((o,kd)::qk).map (·.1)) (v::tr) k (fun _=>false):=qt fun j _=>by simp
       rw [e]
       exact zw _ _ _ _
     have tls:∀ (v:AV) (tr:List AV) (i:Nat),TL T (((o,kd)::qk).map (·.1)) (v::tr) k (fun j=>decide (j<k+(i+1)))=TL (ba o.dst v T) (qk.map (·.1)) tr (k+1) (fun j=>decide (j<k+1+i)):=fun v tr i=>by
       simp only [List.map_cons,TL]
       rw [if_pos (by simp)]
       exact qt fun j _=>by congr 1;simp;omega
     have tlt:∀ (v:AV) (tr:List AV),TL T (((o,kd)::qk).map (·.1)) (v::tr) k (fun _=>true)=TL (ba o.dst v T) (qk.map (·.1)) tr (k+1) (fun _=>true):=fun v tr=>by
       simp only [List.map_cons,TL,if_true]
     cases kd with
     | pure =>
       obtain ⟨v,h1,h2⟩:=h
       obtain ⟨tr,X,g1,g2,g4,g5⟩:=ih _ _ (k+1) h2
       refine ⟨v::tr,X,by simp [g1],g2,fun i p kd u hi hu=>?_,by rw [tlt];exact g5⟩
       cases i with
       | zero =>
         simp only [List.getElem?_cons_zero,Option.some.injEq,Prod.mk.injEq] at hi hu
         obtain ⟨rfl,rfl⟩:=hi;subst hu
         rw [tl0]
         exact h1
       | succ i =>
         rw [tls]
         exact g4 i p kd u (by simpa using hi) (by simpa using hu)
     | read n f =>
       cases f with
       | succ f=>exact h.elim
       | zero =>
       obtain ⟨v,h1,h2⟩:=h
       obtain ⟨tr,X,g1,g2,g4,g5⟩:=ih _ _ (k+1) h2
       refine ⟨v::tr,X,by simp [g1],g2,fun i p kd u hi hu=>?_,by rw [tlt];exact g5⟩
       cases i with
       | zero =>
         simp only [List.getElem?_cons_zero,Option.some.injEq,Prod.mk.injEq] at hi hu
         obtain ⟨rfl,rfl⟩:=hi;subst hu
         rw [tl0]
         simp only [List.take_zero,dy,Nat.add_zero,H9]
         intro m m1 m2 m3
         have m4:m<(M::Ls).length:=by simp only [List.length_cons] at m2 ⊢;omega
         rw [u9 m4]
         refine h1 _ ?_
         have m5:(M::Ls).length - 1 - m<(M::Ls).length:=by omega
         rw [List.getD_eq_getElem?_getD,List.getElem?_eq_getElem m5,Option.getD_some]
         rw [List.mem_take_iff_getElem]
         refine ⟨(M::Ls).length - 1 - m,?_,rfl⟩
         simp only [List.length_cons] at m1 m4 m5 ⊢
         omega
       | succ i =>
         rw [tls]
         exact g4 i p kd u (by simpa using hi) (by simpa using hu)
     | eff =>
       obtain ⟨v,L2,h1,h2⟩:=h
       obtain ⟨tr,X,g1,g2,g4,g5⟩:=ih _ _ (k+1) h2
       have e:(X++[L2])++(M::Ls)=X++(L2::M::Ls):=by simp
       refine ⟨v::tr,X++[L2],by simp [g1],by simp [dy,g2],fun i p kd u hi hu=>?_,by rw [tlt,e];exact g5⟩
       rw [e]
       cases i with
       | zero =>
         simp only [List.getElem?_cons_zero,Option.some.injEq,Prod.mk.injEq] at hi hu
         obtain ⟨rfl,rfl⟩:=hi;subst hu
         rw [tl0]
         simp only [List.take_zero,dy,Nat.add_zero,H9]
         rw [u9 (by simp only [List.length_cons];omega),u9 (by simp only [List.length_cons];omega)]
         simpa using h1
       | succ i =>
         rw [tls]
         have:=g4 i p kd u (by simpa using hi) (by simpa using hu)
         have e2:(L2::M::Ls).length - 1+dy (qk.take i)=(M::Ls).length - 1+dy (((o,Kd.eff)::qk).take (i+1)):=by
           simp only [List.length_cons,List.take_succ_cons,dy];omega
         rw [e2] at this
         exact this
section
variable {P:Program} {r:Option Nat} {w0:World} {S0:SB} {N:Nat} {own:Nat→Nat} {ops:Array Oper} {L:List Blk}
theorem H7 {los:List aj} {n:Nat} (hlow:bq P N own ops (List.range ops.size)=some los) (hok:ow ops los n=true) {qs ts:List aj} (hsplit:los=qs++ts) (hn:qs.length=n) {es:List Nat} {Ms:Nat→List Blk→Prop} (hes:∀ e∈es,e<qs.length)
   (hch:∀ (j j' e e':Nat),es[j]?=some e→es[j']?=some e'→j<j'→((fo ops.toList []).getD e' 0).testBit e=true)
   {K:Tm→List Blk→Prop} {T:Tm} {Q:Exit→Act→World→Prop} {E0:Env} {tr:List AV} (htr:tr.length=qs.length)
   (hq:∀ (i:Nat) (o:aj) (v:AV),qs[i]?=some o→tr[i]?=some v→(∃ m,es[m]?=some i∧∀ L,Ms m L→EQS P o (TL T qs tr 0 fun j=>decide (j<i)) L v (Ms (m+1))) ∨
     (i ∉ es∧∀ m,m≤es.length→(∀ (j e:Nat),es[j]?=some e→j<m→((fo ops.toList []).getD e 0).testBit i=false)→(∀ (j e:Nat),es[j]?=some e→m≤j→((fo ops.toList []).getD i 0).testBit e=false)→∀ L,Ms m L→AQ P o (TL T qs tr 0 fun j=>decide (j<i)) L v))
   (hK:∀ L,Ms es.length L→fq P K ts (TL T qs tr 0 fun _=>true) L)
   (hQ:∀ E' T' L' a' w',E0.le E'→K T' L'→St w0 S0 N E' T' L' a' w'→Q .normal a' w') :
   ∀ (fuel:Nat) (listed:Array Bool) (a:Act) (w:World) (E:Env),listed.size=ops.size→listed.toList.count false=fuel→qw ops listed→E0.le E →
     (∀ i,qs.length≤i→listed.getD i false=false)→(∃ L,Ms (done es listed) L∧St w0 S0 N E (TL T qs tr 0 fun j=>listed.getD j false) L a w)→wpAnyIn (dS r) 0 P .any ops Q fuel listed a w:=by
 simp only [ow,Bool.and_eq_true] at hok
 generalize htbl:fo ops.toList []=tbl at hok hch hq
 obtain ⟨⟨⟨⟨hdist,htied⟩,hahead⟩,hfix⟩,hchain⟩:=hok
 have hget:=mB hlow
 have hlen:los.length=ops.size:=by simpa using hget.1
 have hlo:∀ i,i<ops.size→∃ lo,los[i]?=some lo∧gw P N own ops i=some lo:=fun i hi=>hget.2 i i (by simp [hi])
 have hD:El qs:=by
   have:=xx hdist
   rw [hsplit] at this
   have sub:∀ (qs ts:List aj),El (qs++ts)→El qs:=by
     intro qs
     induction qs with
     | nil=>intro _ _;trivial
     | cons q qs ih=>intro ts h;exact ⟨fun p hp=>h.1 p (by simp [hp]),ih ts h.2⟩
   exact sub _ _ this
 have hqlen:qs.length+ts.length=ops.size:=by rw [← hlen,hsplit];simp
 have allListed:∀ listed:Array Bool,listed.size=ops.size→Region.ready .any ops listed=[]→∀ i,i<ops.size→listed.getD i false=true:=by
   intro listed hsz hr i
   induction i using Nat.strongRecOn with
   | _ i ih =>
     intro hi
     rcases hb:listed.getD i false with _|_
     · exfalso
       have:i∈Region.ready .any ops listed:=by
         refine mem_ready.2 ⟨?_,ops[i],Array.getElem?_eq_getElem hi,fun e he hbd=>?_⟩
         · have hi':i<listed.size:=by omega
           simp [Array.getD_eq_getD_getElem?,hi'] at hb ⊢
           exact hb
         · have:=List.all_eq_true.1 hahead (ops[i],i) (by
             rw [List.mem_zipIdx_iff_getElem?]
             simp [hi])
           have:=List.all_eq_true.1 this e (by simpa using he)
           simp only [hbd,Bool.not_true,Bool.false_or,decide_eq_true_eq] at this
           exact ih e.on this (by omega)
       rw [hr] at this;cases this
     · rfl
 have getD_eq:∀ (listed:Array Bool) (i:Nat),listed.size=ops.size→i<ops.size→listed.getD i true=listed.getD i false:=fun listed i h1 h2=>by
   have:i<listed.size:=by omega
   simp [Array.getD_eq_getD_getElem?,this]
 have finish:∀ (listed:Array Bool) (a:Act) (w:World) (E:Env) (fuel:Nat),listed.size=ops.size→listed.toList.count false=fuel→qw ops listed→E0.le E→(∀ i,qs.length≤i→listed.getD i false=false)→(∃ L,Ms (done es listed) L∧St w0 S0 N E (TL T qs tr 0 fun j=>listed.getD j false) L a w) →
     (∀ i,i<qs.length→listed.getD i false=true)→wpAnyIn (dS r) 0 P .any ops Q fuel listed a w:=by
   intro listed a w E fuel hsz hcnt hcl hE hnot hst hall
   have hTL:TL T qs tr 0 (fun j=>listed.getD j false)=TL T qs tr 0 fun _=>true:=qt fun j hj=>by
     simp only [Nat.zero_add];exact hall j hj
   have hL:Ms (done es listed)=Ms es.length:=by
     congr 1
     exact List.countP_eq_length.2 fun e he=>hall e (hes e he)
   obtain ⟨L1,hM1,hst⟩:=hst
   rw [hTL] at hst
   rw [hL] at hM1
   have hdrop:los.drop qs.length=ts:=by rw [hsplit];simp
   have hfuel:fuel=ts.length:=by
     rw [← hcnt,← Nat.add_left_cancel_iff (n:=qs.length),hqlen,← hsz]
     have e:listed.toList=List.replicate qs.length true++List.replicate (listed.size - qs.length) false:=by
       apply List.ext_getElem?
       intro i
       rcases Nat.lt_or_ge i qs.length with h1|h1
       · have:=hall i h1
         have hlt:i<listed.size:=by omega
         rw [List.getElem?_append_left (by simpa using h1)]
         simp [Array.getD_eq_getD_getElem?,hlt] at this
         simp [hlt,h1,this]
       · rw [List.getElem?_append_right (by simpa using h1)]
         have:=hnot i h1
         rcases Nat.lt_or_ge i listed.size with h2|h2
         · simp [Array.getD_eq_getD_getElem?,h2] at this
           simp only [List.length_replicate]
           rw [List.getElem?_replicate]
           rw [if_pos (by omega)]
           simp [h2,this]
         · rw [List.getElem?_eq_none (by simpa using h2),List.getElem?_eq_none (by simp;omega)]
     rw [e]
     simp [List.count_append,List.count_replicate]
     omega
   rw [hfuel]
   exact Dd hlow hahead hfix hchain hQ ts qs.length listed _ _ a w E (by omega) hqlen hdrop hsz (fun i hi=>by
     rcases Nat.lt_or_ge i qs.length with h1|h1
     · rw [hall i h1];simpa using h1
     · rw [hnot i h1];simpa using h1) hcl hE hst (hK _ hM1)
 intro fuel
 induction fuel with
 | zero =>
   intro listed a w E hsz hcnt hcl hE hnot hst
   have hr:Region.ready .any ops listed=[]:=by
     refine List.eq_nil_iff_forall_not_mem.2 fun i hi=>?_
     obtain ⟨h1,o,ho,_⟩:=mem_ready.1 hi
     have hi':i<ops.size:=(Array.getElem?_eq_some_iff.1 ho).1
     have:false∈listed.toList:=by
       have hlt:i<listed.size:=by omega
       simp [Array.getD_eq_getD_getElem?,hlt] at h1
       rw [← h1];simp
     rw [List.count_eq_zero] at hcnt
     exact hcnt this
   exact finish listed a w E 0 hsz hcnt hcl hE hnot hst fun i hi=>allListed listed hsz hr i (by omega)
 | succ fuel ih =>
   intro listed a w E hsz hcnt hcl hE hnot hst
   by_cases hall:∀ i,i<qs.length→listed.getD i false=true
   · exact finish listed a w E _ hsz hcnt hcl hE hnot hst hall
   refine ⟨fun hr=>absurd (fun i hi=>allListed listed hsz hr i (by omega)) hall,fun i hi=>?_⟩
   obtain ⟨hun,o,ho,hedges⟩:=mem_ready.1 hi
   have hi':i<ops.size:=(Array.getElem?_eq_some_iff.1 ho).1
   have hun':listed.getD i false=false:=by rw [← getD_eq listed i hsz hi'];exact hun
   obtain ⟨lo,hlo1,hlo2⟩:=hlo i hi'
   have hready:∀ o',ops[i]?=some o'→∀ e∈o'.after,Region.binds .any e=true→listed.getD e.on false=true:=fun o' ho'=>by
     rw [ho] at ho';cases ho';exact hedges
   have hset:∀ k,(listed.setIfInBounds i true).getD k false=if k=i then true else listed.getD k false:=fun k=>by
     by_cases e:k=i
     · subst e
       have:k<listed.size:=by omega
       simp [Array.getD_eq_getD_getElem?,this]
     · rw [if_neg e];exact getD_set_ne false (Ne.symm e)
   have hcnt':(listed.setIfInBounds i true).toList.count false=fuel:=by
     have hlt:i<listed.size:=by omega
     have:=zQ listed.toList i (by
       simp [Array.getD_eq_getD_getElem?,hlt] at hun'
       simp [hlt,hun'])
     rw [Array.toList_setIfInBounds]
     omega
   have hcl':qw ops (listed.setIfInBounds i true):=fun k o' hk ho' e he hb=>by
     rw [hset] at hk ⊢
     by_cases e1:e.on=i
     · rw [if_pos e1]
     · rw [if_neg e1]
       by_cases e2:k=i
       · subst e2;exact hready o' ho' e he hb
       · rw [if_neg e2] at hk;exact hcl k o' hk ho' e he hb
   rcases Nat.lt_or_ge i qs.length with hiq|hiq
   ·
     have hqi:qs[i]?=some lo:=by
       rw [hsplit,List.getElem?_append_left hiq] at hlo1;exact hlo1
     have hti:i<tr.length:=by omega
     have agree:∀ t∈lo.reads,aq (TL T qs tr 0 fun j=>decide (j<i)) t=aq (TL T qs tr 0 fun j=>listed.getD j false) t:=by
       intro t ht
       by_cases hw:∃ (j:Nat) (p:aj),qs[j]?=some p∧p.dst=some t
       · obtain ⟨j,p,hp,hd⟩:=hw
         have hjq:j<qs.length:=(List.getElem?_eq_some_iff.1 hp).1
         rw [vw hD htr hp hd,vw hD htr hp hd]
         have hlj:los[j]?=some p:=by rw [hsplit,List.getElem?_append_left hjq];exact hp
         have:=List.all_eq_true.1 htied (lo,i) (by rw [List.mem_zipIdx_iff_getElem?];simpa using hlo1)
         have:=List.all_eq_true.1 this t ht
         have:=List.all_eq_true.1 this (p,j) (by rw [List.mem_zipIdx_iff_getElem?];simpa using hlj)
         simp only [hd,beq_self_eq_true,Bool.not_true,Bool.false_or,Bool.or_eq_true,List.contains_iff_mem] at this
         rcases this with h1|h1
         · have e1:=vF hahead hfix _ _ (by omega) h1
           have e2:=bA hahead hfix hcl i j hi' hready h1
           simp only [decide_eq_true_eq,if_pos e1,if_pos e2]
         · have e1:=vF hahead hfix _ _ (by omega) h1
           have e2:listed.getD j false=false:=by
             rcases hb:listed.getD j false with _|_
             · rfl
             · have:=bA hahead hfix hcl j i (by omega) (fun o' ho'=>hcl j o' hb ho') h1
               rw [hun'] at this;cases this
           simp only [decide_eq_true_eq,if_neg (show ¬ j<i by omega),e2,Bool.false_eq_true,if_false]
       · have hno:∀ (j:Nat) (p:aj),qs[j]?=some p→p.dst≠some t:=fun j p hp hd=>hw ⟨j,p,hp,hd⟩
         rw [vx hno,vx hno]
     have hTnew:∀ (t:Nat) (v:AV),aq (TL T qs tr 0 fun j=>(listed.setIfInBounds i true).getD j false) t=some v→aq (ba lo.dst tr[i] (TL T qs tr 0 fun j=>listed.getD j false)) t=some v:=by
       intro t v hv
       by_cases hw:∃ (j:Nat) (p:aj),qs[j]?=some p∧p.dst=some t
       · obtain ⟨j,p,hp,hd⟩:=hw
         rw [vw hD htr hp hd] at hv
         by_cases e:j=i
         · subst e
           rw [hqi] at hp;cases hp
           rw [hd,qd]
           rw [if_pos (by rw [hset,if_pos rfl]),List.getElem?_eq_getElem hti] at hv
           exact hv
         · have hne:lo.dst≠some t:=fun e'=>e (ot hD hp hqi hd e')
           rw [gx hne,vw hD htr hp hd]
           simp only [hset,if_neg e] at hv
           exact hv
       · have hno:∀ (j:Nat) (p:aj),qs[j]?=some p→p.dst≠some t:=fun j p hp hd=>hw ⟨j,p,hp,hd⟩
         rw [vx hno] at hv
         rw [gx (hno i lo hqi),vx hno]
         exact hv
     have hnot':∀ k,qs.length≤k→(listed.setIfInBounds i true).getD k false=false:=fun k hk=>by
       rw [hset,if_neg (by omega)];exact hnot k hk
     have hpre:∀ j e,es[j]?=some e→listed.getD e false=decide (j<done es listed):=u7 es _ fun j j' e e' h1 h2 h3 h4=>by
       have hlt:e'<ops.size:=by have:=hes e' (List.mem_of_getElem? h2);omega
       exact bA hahead hfix hcl e' e hlt (fun o' ho'=>hcl e' o' h4 ho') (hch j j' e e' h1 h2 h3)
     have hdl:done es listed≤es.length:=List.countP_le_length
     rcases hq i lo tr[i] hqi (List.getElem?_eq_getElem hti) with ⟨m,g1,g2⟩|⟨g1,g2⟩
     · have hm:done es listed=m:=by
         have h1:=hpre m i g1
         rw [hun'] at h1
         have h2:¬ m<done es listed:=by simpa using h1.symm
         rcases Nat.lt_or_ge (done es listed) m with h3|h3
         · obtain ⟨e,he⟩:∃ e,es[done es listed]?=some e:=⟨_,List.getElem?_eq_getElem (by have:=(List.getElem?_eq_some_iff.1 g1).1;omega)⟩
           have h4:=hpre _ e he
           rw [bA hahead hfix hcl i e hi' hready (hch _ _ e i he g1 h3)] at h4
           simp at h4
         · omega
       have hm':done es (listed.setIfInBounds i true)=m+1:=by
         refine vk es _ (m+1) (fun j e he=>?_) (by have:=(List.getElem?_eq_some_iff.1 g1).1;omega)
         rw [hset]
         by_cases e1:e=i
         · subst e1
           rw [if_pos rfl]
           rcases Nat.lt_trichotomy j m with h3|h3|h3
           · simp;omega
           · simp;omega
           · have:=vF hahead hfix e e hi' (hch m j e e g1 he h3)
             omega
         · rw [if_neg e1,hpre j e he,hm]
           have:j≠m:=fun e2=>by subst e2;rw [g1] at he;cases he;exact e1 rfl
           congr 1;simp only [eq_iff_iff];omega
       obtain ⟨L1,hM1,hst⟩:=hst
       rw [hm] at hM1
       refine xJ hlo2 hst (EQS.aops (EQS.congr agree (g2 _ hM1))) fun E' T' L' a' w' hle ⟨e1,e2⟩ hst'=>ih _ a' w' E' (by simpa using hsz) hcnt' hcl' (hE.trans hle) hnot' ?_
       subst e1
       rw [hm']
       exact ⟨L',e2,hst'.weak hTnew rfl fun _ _ e=>.inr e⟩
     · have hL:done es (listed.setIfInBounds i true)=done es listed:=by
         unfold done
         refine List.countP_congr fun e he=>?_
         rw [hset,if_neg (fun e1:e=i=>g1 (e1 ▸ he))]
       have hAQ:=g2 (done es listed) hdl (fun j e he hj=>by
         rcases hb:(tbl.getD e 0).testBit i with _|_
         · rfl
         · have h1:=hpre j e he
           rw [decide_eq_true hj] at h1
           have hlt:e<ops.size:=by have:=hes e (List.mem_of_getElem? he);omega
           have:=bA hahead hfix hcl e i hlt (fun o' ho'=>hcl e o' h1 ho') hb
           rw [hun'] at this;cases this) (fun j e he hj=>by
         rcases hb:(tbl.getD i 0).testBit e with _|_
         · rfl
         · have h1:=hpre j e he
           rw [bA hahead hfix hcl i e hi' hready hb] at h1
           have:=of_decide_eq_true h1.symm
           omega)
       obtain ⟨L1,hM1,hst⟩:=hst
       refine G8 hlo2 hst ((hAQ L1 hM1).congr agree) fun E' a' w' hle hst'=>ih _ a' w' E' (by simpa using hsz) hcnt' hcl' (hE.trans hle) hnot' ?_
       rw [hL]
       exact ⟨L1,hM1,hst'.weak hTnew rfl fun _ _ e=>.inr e⟩
   ·
     refine absurd (fun j hj=>?_) hall
     have h1:=List.all_eq_true.1 hchain i (by simpa using hi')
     simp only [Bool.or_eq_true,decide_eq_true_eq] at h1
     rcases h1 with h2|h2
     · omega
     · have h3:=List.all_eq_true.1 h2 j (by simp;omega)
       exact bA hahead hfix hcl i j hi' hready h3
theorem JN {los:List aj} {n:Nat} (hlow:bq P N own ops (List.range ops.size)=some los) (hok:ow ops los n=true) {qk:List (aj×Kd)} {ts:List aj} (hsplit:los=qk.map (·.1)++ts) (hn:qk.length=n)
   (hk:xq (fo ops.toList []) qk=true) {K:Tm→List Blk→Prop} {T:Tm} {Q:Exit→Act→World→Prop} {E0:Env} (h:AGS P (fq P K ts) qk [fun L1=>L1=L] T)
   (hQ:∀ E' T' L' a' w',E0.le E'→K T' L'→St w0 S0 N E' T' L' a' w'→Q .normal a' w') (a:Act) (w:World) (E:Env) (hE:E0.le E) (hst:St w0 S0 N E T L a w) :
   wpAnyIn (dS r) 0 P .any ops Q ops.size (Array.replicate ops.size false) a w:=by
 obtain ⟨tr,X,g1,g2,g4,g5⟩:=JZ qk [fun L1=>L1=L] T 0 h
 have rep0:∀ i,(Array.replicate ops.size false).getD i false=false:=fun i=>by
   rw [Array.getD_eq_getD_getElem?,Array.getElem?_replicate]
   split<;>rfl
 simp only [xq,Bool.and_eq_true] at hk
 obtain ⟨hk1,hk2⟩:=hk
 have hesl:=fy qk 0
 have hlt:∀ e∈a7 qk 0,∃ o,qk[e]?=some (o,.eff):=fun e he=>by
   obtain ⟨i,o,rfl,h2⟩:=xu qk 0 e he
   exact ⟨o,by simpa using h2⟩
 have hlen:(X++[fun L1=>L1=L]).length=dy qk+1:=by simp [g2]
 refine H7 (T:=T) (K:=K) (qs:=qk.map (·.1)) (ts:=ts) (tr:=tr) (es:=a7 qk 0) (Ms:=HA (X++[fun L1=>L1=L])) hlow hok hsplit (by simpa using hn) (fun e he=>?_) (fun j j' e e' h1 h2 h3=>?_) (by simpa using g1) (fun i o v ho hv=>?_) ?_ hQ ops.size _ a w E (by simp) (by simp [List.count_replicate]) (fun i o hi=>by rw [rep0] at hi;cases hi) hE (fun i _=>rep0 i) ?_
 · obtain ⟨o,ho⟩:=hlt e he
   simpa using (List.getElem?_eq_some_iff.1 ho).1
 · have l2:j'<(a7 qk 0).length:=(List.getElem?_eq_some_iff.1 h2).1
   have:=List.all_eq_true.1 (List.all_eq_true.1 hk1 j' (by simpa using l2)) j (by simpa using h3)
   have q1:(a7 qk 0).getD j 0=e:=by rw [List.getD_eq_getElem?_getD,h1];rfl
   have q2:(a7 qk 0).getD j' 0=e':=by rw [List.getD_eq_getElem?_getD,h2];rfl
   rw [q1,q2] at this
   exact this
 · rw [List.getElem?_map,Option.map_eq_some_iff] at ho
   obtain ⟨⟨o',kd⟩,ho,rfl⟩:=ho
   have hs:=g4 i o' kd v ho hv
   simp only [List.length_singleton,Nat.sub_self,Nat.zero_add] at hs
   have hkk:=List.all_eq_true.1 hk2 ((o',kd),i) (by rw [List.mem_zipIdx_iff_getElem?];simpa using ho)
   have notin:kd ≠ .eff→i ∉ a7 qk 0:=fun hne he=>by
     obtain ⟨o2,h2⟩:=hlt i he
     rw [ho] at h2;cases h2;exact hne rfl
   cases kd with
   | eff =>
     refine .inl ⟨dy (qk.take i),?_,hs⟩
     simpa using xw qk 0 i o' ho
   | pure =>
     obtain ⟨L0,hs⟩:=hs
     exact .inr ⟨notin (by simp),fun m _ _ _ L1 _=>Iv (by simpa using hkk) hs⟩
   | read n f =>
     refine .inr ⟨notin (by simp),fun m hm p1 p2=>?_⟩
     simp only at hkk
     have chk:=fun j (hj:j<(a7 qk 0).length)=>List.all_eq_true.1 hkk j (by simpa using hj)
     have cle:dy (qk.take i)≤(a7 qk 0).length:=by
       have:∀ (l:List (aj×Kd)) (i:Nat),dy (l.take i)≤dy l:=by
         intro l
         induction l with
         | nil=>intro i;simp
         | cons q l ih =>
           intro i
           cases i with
           | zero=>simp [dy]
           | succ i=>obtain ⟨o,_|_|_⟩:=q<;>simp only [List.take_succ_cons,dy]<;>have:=ih i<;>omega
       rw [hesl];exact this qk i
     refine hs m ?_ ?_ (by rw [hlen];omega)
     · rcases Nat.lt_or_ge m (dy (qk.take i) - n) with hlt2|hge
       · have hme:m<(a7 qk 0).length:=by omega
         have:=chk m hme
         simp only [Bool.and_eq_true,Bool.or_eq_true,Bool.not_eq_true',decide_eq_false_iff_not] at this
         have e1:=p2 m _ (List.getElem?_eq_getElem hme) (Nat.le_refl _)
         rcases this.1 with c|c
         · exact absurd hlt2 c
         · rw [List.getD_eq_getElem?_getD (l:=a7 qk 0),List.getElem?_eq_getElem hme] at c
           simp only [Option.getD_some] at c
           rw [e1] at c;cases c
       · exact hge
     · rcases Nat.lt_or_ge (dy (qk.take i)+f) m with hlt2|hge
       · have hme:dy (qk.take i)+f<(a7 qk 0).length:=by omega
         have:=chk _ hme
         simp only [Bool.and_eq_true,Bool.or_eq_true,Bool.not_eq_true',decide_eq_false_iff_not] at this
         have e1:=p1 _ _ (List.getElem?_eq_getElem hme) hlt2
         rcases this.2 with c|c
         · exact absurd (Nat.le_refl _) c
         · rw [List.getD_eq_getElem?_getD (l:=a7 qk 0),List.getElem?_eq_getElem hme] at c
           simp only [Option.getD_some] at c
           rw [e1] at c;cases c
       · exact hge
 · rw [hlen] at g5
   rw [hesl]
   simpa using g5
 · have e:TL T (qk.map (·.1)) tr 0 (fun j=>(Array.replicate ops.size false).getD j false)=T:=by
     refine Eq.trans (qt (g:=fun _=>false) fun j _=>rep0 _) (zw _ tr T 0)
   have e2:done (a7 qk 0) (Array.replicate ops.size false)=0:=List.countP_eq_zero.2 fun x _=>by rw [rep0];simp
   rw [e,e2,u9 (by simp)]
   simpa using hst
end
section
variable {P:Program} {w0:World} {S0:SB} {N:Nat} {own:Nat→Nat→Nat} {Q:Exit→Tm→List Blk→Prop} {T:Tm} {L:List Blk}
theorem Lt {qk:List (aj×Kd)} {ts:List aj} (h:AGS P (fq P (Q .normal) ts) qk [fun L1=>L1=L] T):AW P N own (.dregion qk ts) Q T L:=fun c hc r hr w0 S0 E a w hst=>by
 obtain ⟨id,os,los,n,rfl,h1,h2,h3,h4,h5,rfl,h6⟩:=vf hc
 refine wpIn_region_any h4 ?_
 have hn:qk.length=n:=by
   have:=congrArg List.length h5
   simp at this;omega
 exact JN (w0:=w0) (S0:=S0) (L:=L) (T:=T) (Q:=fun e a' w'=>∃ w1 S1 E' T' L',Bs w0 S0 w1 S1∧E.le E'∧Q e T' L'∧St w1 S1 N E' T' L' a' w') (K:=Q .normal) (E0:=E) h1 h2 (by rw [h5,List.take_append_drop]) hn h6 h (fun E' T' L' a' w' e1 e2 e3=>⟨w0,S0,E',T',L',.refl _ _,e1,e2,e3⟩) a _ E (.refl E) (hst.draw _)
theorem JW {sp:List SOp} {kds:List Kd} {mask:List Bool} (h:AGS P (fq P (xK mask (Q .normal)) ((SOp.flatL sp).drop kds.length)) ((SOp.flatL sp).zip kds) [fun L1=>L1=L] T):AW P N own (.sdreg sp kds mask) Q T L:=fun c hc r hr w0 S0 E a w hst=>by
 have:=Lt (N:=N) (own:=own) (Q:=fun e T' L'=>e=.normal∧xK mask (Q .normal) T' L') (L:=L) (T:=T) (qk:=(SOp.flatL sp).zip kds) (ts:=(SOp.flatL sp).drop kds.length) (P:=P) ?_ c hc r hr w0 S0 E a w hst
 · refine wpIn_mono this fun e a' w' ⟨w1,S1,E',T',L',b,g1,⟨g2,g3⟩,g4⟩=>?_
   subst g2
   exact ⟨w1,S1,E',sel mask T',L',b,g1,g3.2,g4.weak (fun t v hv=>oE g3.1 hv) rfl fun _ _ e=>.inr e⟩
 · have e:(fun T' L'=>Exit.normal=Exit.normal∧xK mask (Q .normal) T' L')=xK mask (Q .normal):=by
     funext T' L';simp
   rw [e];exact h
end
section
variable {P:Program} {K:Tm→List Blk→Prop} {T:Tm} {d:Option Nat} {op:LOp} {t:Nat} {b:Bool} {r:List (aj×Kd)} {M:List Blk→Prop} {Ms:List (List Blk→Prop)} {v:AV} {c:Prop}
theorem Ig {L:List Blk} (hc:op.isCall=false) (h:ag T L op=some (c,v,L)) (h2:c):AQv P ⟨d,op,none⟩ T L v∧∀ g,AQv P ⟨d,op,g⟩ T L v:=by
 have:∀ g,AQv P ⟨d,op,g⟩ T L v:=fun g=>by
   unfold AQv
   cases op<;>simp only [LOp.isCall,Bool.true_eq_false] at hc<;>simp only<;>rw [h]<;>exact ⟨h2,rfl,rfl⟩
 exact ⟨this none,this⟩
theorem Es (hc:op.isCall=false) (h:ag T [] op=some (c,v,[])) (h2:c) (hk:AGS P K r (M::Ms) (ba d v T)):AGS P K ((⟨d,op,none⟩,.pure)::r) (M::Ms) T:=⟨v,⟨[],(Ig hc h h2).1⟩,hk⟩
theorem Er (hl:aq T t=some (.bool b)) (hc:op.isCall=false) (h:ag T [] op=some (c,v,[])) (h2:c) (hk:AGS P K r (M::Ms) (ba d v T)):AGS P K ((⟨d,op,some (t,b)⟩,.pure)::r) (M::Ms) T :=
 ⟨v,⟨[],by unfold AQ;simp only [hl,if_true];exact (Ig hc h h2).2 _⟩,hk⟩
theorem F7 {n:Nat} (hl:aq T t=some (.bool b)) (h:∀ M'∈(M::Ms).take (n+1),∀ L,M' L→AQv P ⟨d,op,some (t,b)⟩ T L v) (hk:AGS P K r (M::Ms) (ba d v T)):AGS P K ((⟨d,op,some (t,b)⟩,.read n 0)::r) (M::Ms) T :=
 ⟨v,fun M' hM L hL=>by unfold AQ;simp only [hl,if_true];exact h M' hM L hL,hk⟩
theorem Oa {f:FuncId} {xs:List Opd} {args:List AV} {M2:List Blk→Prop} (hl:aq T t=some (.bool b)) (hx:eY T xs=some args) (h:∀ L,M L→ab P f args L fun av L'=>av=v∧M2 L') (hk:AGS P K r (M2::M::Ms) (ba d v T)):AGS P K ((⟨d,.call f xs,some (t,b)⟩,.eff)::r) (M::Ms) T :=
 ⟨v,M2,fun L hL=>by unfold EQS;simp only [hl,if_true];unfold EI;simp only [hx];exact h L hL,hk⟩
theorem Ep {wide:Bool} {n:Nat} {x:Opd} {L:List Blk} {g:Option (Nat×Bool)} (h:ag T L (.load wide n x)=some (c,v,L)) (h2:c):AQv P ⟨d,.load wide n x,g⟩ T L v:=(Ig (P:=P) (d:=d) rfl h h2).2 g
theorem Lv {f:FuncId} {xs:List Opd} {args:List AV} {L:List Blk} {g:Option (Nat×Bool)} (hx:eY T xs=some args) (h:ab P f args L fun av L'=>av=v∧L'=L):AQv P ⟨d,.call f xs,g⟩ T L v:=by
 unfold AQv;simp only [hx];exact h
end
end Go.Proofs.YtdhjplmjpjfjnaaGreat.Av
