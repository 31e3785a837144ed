/- Joined texts of the walk, made small by a program. -/
import Derived.Test.YtobihfefmlgaoaaGreatRk24
import Derived.Test.YtobihfefmlgaoaaGreatRk23
import Derived.Test.YtobihfefmlgaoaaGreatRk5
import Derived.Test.YtobihfefmlgaoaaGreatRk4
import Derived.Test.YtobihfefmlgaoaaGreatRk14
import Derived.Test.YtobihfefmlgaoaaGreatRk20
import Derived.Test.YtobihfefmlgaoaaGreatRk21
import Derived.Test.YtobihfefmlgaoaaGreatRows
import Derived.KernelRfl
import Derived.Test.YtobihfefmlgaoaaGreatRk22
import Derived.Test.YtobihfefmlgaoaaGreatRk13
set_option linter.unusedSimpArgs false
set_option linter.unusedVariables false
namespace Go.Proofs.YtobihfefmlgaoaaGreat.Av
open Go
set_option maxHeartbeats 8000000
set_option maxRecDepth 100000
section
variable {L:List Blk} {iv mn mi it:Nat} {nb bn:Int->Nat} {ck ci:Nat} {rs:List TKy} {suf:List Rdn} {last:Int} {l:List aB}
theorem agQ (ht:TOk suf last l) (hln:l.length<=1000000) (hit:L[it]?=some (.cells [.ptr iv 0])) (hc:bu L iv mn mi nb bn ck ci rs suf last l)
  {k:Int} {dn tn:List Rdn} {v:AV} (hdb:dnB dn) (htb:dnB tn) (ha:d8 suf l k dn tn≠0) {K:afC} (h:K (.int .i64 (d8 suf l k dn tn)) L) :
  afB 20 [.ptr it 0,.agg [.int .i64 k,dnA dn,dnA tn,v]] L K:=by
 have hitl:it<L.length:=(ahm.1 hit).1;have at':∀ X:List Blk,(L++X)[it]?=some (.cells [.ptr iv 0]):=fun X=>by rw [ahq hitl];exact hit
 obtain ⟨z,hz⟩:=aaR (d8 suf l k dn tn);have kk1:Hid (∀ {X:List Blk} {K:afC},K (.int .i64 z) (L++X)->afB 41 [.ptr iv 0,.agg [.int .i64 k,dnA dn,dnA tn,v]] (L++X) K):=@hid _ (by
  intro X K q;exact OH ht (by omega) (hc.app X) hdb htb (by rw [hz];exact q))
 rw [hz] at ha h;replace h:=hid h;clear hz hc ht hit;refine acg dr ?_;exact ab rfl h.out
theorem agz (ht:TOk suf last l) (n23:mn≠mi) (hln:l.length<=1000000) (hl0:0<=last) (hl1:last<=1000000) (hit:L[it]?=some (.cells [.ptr iv 0])) (hc:bu L iv mn mi nb bn ck ci rs suf last l)
  {k:Int} {dn tn:List Rdn} {v:List Atr} (hdb:dnB dn) (htb:dnB tn) (hvl:v.length<=1100000) (hvz:∀ a∈v,a.2.length<=1100000) {K:afC}
  (h:∀ L' nb' bn' ck' ci' rs',bu L' iv mn mi nb' bn' ck' ci' rs' suf (doT suf l last k dn tn v).2 (doT suf l last k dn tn v).1->L'[it]?=some (.cells [.ptr iv 0])->aK (OfT iv mn mi nb l) L L'->K (.int .i64 (d8 suf l k dn tn)) L') :
  afB 20 [.ptr it 0,.agg [.int .i64 k,dnA dn,dnA tn,atR v]] L K:=by
 by_cases ha:d8 suf l k dn tn=0;rotate_left
 ·unfold doT at h;rw [if_pos ha] at h;exact agQ ht hln hit hc hdb htb ha (h L _ _ _ _ _ hc hit (aK.refl L))
 unfold doT at h;rw [if_neg (fun e=>e ha)] at h;rw [ha] at h;by_cases k1:k=1
 ·subst k1;rw [if_pos rfl] at h;exact agX ht n23 hln hl0 hl1 hit hc hdb htb hvl hvz ha h
 rw [if_neg k1] at h;have ha':=ha;unfold d8 at ha';by_cases hk:k<1\/4<k
 ·rw [if_pos hk] at ha';exact absurd ha' (by decide)
 rw [if_neg hk,if_neg k1] at ha';cases hx:atE l dn with
 | none=>rw [hx] at ha';simp at ha'
 | some x =>
   rw [hx] at ha';simp only at ha';have hf:aY l dn=x.id:=by unfold aY;rw [hx]
   rw [hf] at h;by_cases k2:k=2
   ·subst k2;rw [if_pos rfl] at h;exact agV ht n23 hln hit hc hdb htb hx ha fun L' ci' rs'=>h L' _ _ _ _ _
   rw [if_neg k2] at h ha';by_cases k3:k=3
   ·subst k3;rw [if_pos rfl] at h;exact agW ht hln hit hc hdb htb hvl hvz hx fun L'=>h L' _ _ _ _ _
   rw [if_neg k3] at h ha';have k4:k=4:=by omega
   subst k4;exact agP ht n23 hln hit hc hdb htb hvl hvz hx ha' fun L' ci' rs'=>h L' _ _ _ _ _
end
variable {L:List Blk} {K:afC}
set_option maxHeartbeats 8000000
set_option maxRecDepth 100000
theorem al0 {P:Program} {f:FuncId} {b:Bool} (h:ae P f [] [] fun v _=>v=.bool b) (hk:K (.bool b) L):ae P f [] L K:=fun w0 S0 E w vs hR hv=>by
 have hR0:Rel w ⟨fun _=>False,0⟩ { mem:=E.mem,loc:=fun _=>none,tok:=fun _=>none } [] w:=by
  refine ⟨hR.mem,?_,fun _ _=>rfl,?_,?_,fun _ _=>rfl,?_,?_,?_,fun _ _ _=>rfl,ahn _,rfl,rfl,rfl,hR.glob,hR.gsz⟩
  all_goals intros;simp_all
 have key:∀ {E':Env} {L':List Blk} {w':World},Rel w ⟨fun _=>False,0⟩ E' L' w'->Vc w w':=fun k=>⟨fun b hb=>k.frame b hb (fun x=>x),k.size,k.os,k.tape,k.output⟩
 have hv0:VRL { mem:=E.mem,loc:=fun _=>none,tok:=fun _=>none } [] vs:=by
  simpa only [VRL] using hv
 rcases h w _ _ w vs hR0 hv0 with ⟨h1,h2⟩|⟨E',v,av,L',w',h1,h2,h3,h4,h5⟩
 ·refine .inl ⟨h1,h2.mono fun e w' ⟨E',v,av,L',a,b,c,d,r⟩=>⟨E,v,_,L,a,.refl E,hk,?_,hR.grown (key r)⟩⟩;subst c;simpa only [VR] using d
 ·refine .inr ⟨E,v,_,L,w',h1,.refl E,hk,?_,hR.grown (key h5)⟩;subst h3;simpa only [VR] using h4
theorem bu.start (L:List Blk) (d:List Rdn):bu (L++[.map [] 0,.map [] 0,.cells [dnA d,.lmap L.length,.lmap (L.length+1),.int .i64 0],.cells [.ptr (L.length+2) 0]]) (L.length+2) L.length (L.length+1) (fun _=>0) (fun _=>0) 0 0 [] d 0 []:=by
 refine ⟨?_,?_,?_,?_,?_,?_,?_,?_⟩
 ·rw [ahu (by omega)];simp
 ·rw [ahu (by omega)];simp
 ·rw [ahu (by omega)];simp
 ·simp
 ·simp
 ·simp
 ·simp
 ·simp
def WP (P:Program) (o:am) (T:Tm) (L:List Blk) (v:AV) (M:List Blk->Prop):Prop :=
 match o.op with
 | .call f xs=>match gP T xs with
   | some args=>ae P f args L fun av L'=>av=v/\M L'
   | none=>False
 | _=>False
def EQS (P:Program) (o:am) (T:Tm) (L:List Blk) (v:AV) (M:List Blk->Prop):Prop :=
 match o.guard with
 | none=>WP P o T L v M
 | some (t,b)=>match az T t with
   | some (.bool x)=>if x=b then WP P o T L v M else v=.tup []/\M L
   | some (.tup [])=>v=.tup []/\M L
   | _=>False
theorem WP.congr {P:Program} {o:am} {T T':Tm} {L:List Blk} {v:AV} {M:List Blk->Prop} (h1:∀ t∈o.op.tmps,az T t=az T' t) (hv:WP P o T L v M):WP P o T' L v M:=by
 unfold WP at hv ⊢;split at hv
 ·rename_i f xs e
  rw [e] at h1;rw [<- jO (l:=xs) h1];exact hv
 ·exact hv.elim
theorem EQS.congr {P:Program} {o:am} {T T':Tm} {L:List Blk} {v:AV} {M:List Blk->Prop} (h:∀ t∈o.reads,az T t=az T' t) (hq:EQS P o T L v M):EQS P o T' L v M:=by
 have h1:∀ t∈o.op.tmps,az T t=az T' t:=fun t ht=>h t (by simp [am.reads,ht])
 unfold EQS at hq ⊢;split at hq
 ·exact hq.congr h1
 ·rename_i t b hg
  rw [<- h t (by simp [am.reads,hg])];split at hq
  ·split at hq
   ·rename_i e;rw [if_pos e];exact hq.congr h1
   ·rename_i e;rw [if_neg e];exact hq
  ·exact hq
  ·exact hq.elim
theorem WP.aop {P:Program} {o:am} {T:Tm} {L:List Blk} {v:AV} {M:List Blk->Prop} (hq:WP P o T L v M):AOp P o (fun T' L'=>T'=co o.dst v T/\M L') T L:=by
 unfold WP at hq;unfold AOp;split at hq
 ·rename_i f xs e
  simp only [e];split at hq
  ·rename_i args ha
   rw [ha];exact ae.mono hq fun av L' ⟨h1,h2⟩=>⟨by rw [h1],h2⟩
  ·exact hq.elim
 ·exact hq.elim
theorem EQS.aops {P:Program} {o:am} {T:Tm} {L:List Blk} {v:AV} {M:List Blk->Prop} (hq:EQS P o T L v M):lG P (fun T' L'=>T'=co o.dst v T/\M L') [o] T L:=by
 unfold EQS at hq;simp only [lG];split at hq
 ·rename_i hg
  simp only [hg];exact hq.aop
 ·rename_i t b hg
  simp only [hg];split at hq
  ·rename_i x hx
   rw [hx,yN];split at hq
   ·rename_i e;rw [if_pos e];exact hq.aop
   ·rename_i e;rw [if_neg e];exact ⟨by rw [hq.1],hq.2⟩
  ·rename_i hx
   rw [hx,WO];exact ⟨by rw [hq.1],hq.2⟩
  ·exact hq.elim
section
variable {P:Program} {r:Option Nat} {w0:World} {S0:SB} {N:Nat} {own:Nat->Nat} {ops:Array Oper} {L:List Blk}
end
section
variable {P:Program} {w0:World} {S0:SB} {N:Nat} {own:Nat->Nat->Nat} {Q:Exit->Tm->List Blk->Prop} {T:Tm} {L:List Blk}
end
section
variable {P:Program} {K:Tm->List Blk->Prop} {T:Tm} {d:Option Nat} {op:LOp} {t:Nat} {b:Bool} {r:List (am×Kd)} {M:List Blk->Prop} {Ms:List (List Blk->Prop)} {v:AV} {c:Prop}
end
set_option maxHeartbeats 8000000
set_option maxRecDepth 100000
def ae2 (v:List Atr):Prop:=v.length<=1100000/\∀ a∈v,a.2.length<=1100000
structure Yf (L:List Blk) (it iv mn mi rt:Nat) (nb bn:Int->Nat) (ck ci:Nat) (rs:List TKy) (c:Option Nat) (suf:List Rdn) (last:Int) (l:List aB):Prop where
 ok:TOk suf last l
 code:bu L iv mn mi nb bn ck ci rs suf last l
 it:L[it]?=some (.cells [.ptr iv 0])
 rt:L[rt]?=some (.cells [dnA suf,.sl (aA l) l.length c,.int .i64 last])
 ne:mn≠mi
 l0:0<=last
 l1:last<=100
 len:l.length<=100
 av:∀ x∈l,ae2 x.av
theorem bu.noOf {L:List Blk} {iv mn mi:Nat} {nb bn:Int->Nat} {ck ci:Nat} {rs:List TKy} {suf:List Rdn} {last:Int} {l:List aB} (h:bu L iv mn mi nb bn ck ci rs suf last l) {j:Nat} {c:List AV} (hj:L[j]?=some (.cells c)) (hc:c.length≠4\/∃ k z r,c=.int k z::r):¬ OfT iv mn mi nb l j:=by
 rintro (e|e|e|⟨x,hx,e⟩)
 ·rw [e,h.v] at hj;simp only [aho,Blk.cells.injEq] at hj;rcases hc with hc|⟨k,z,r,hc⟩
  ·exact hc (by rw [<- hj];rfl)
  ·rw [<- hj] at hc;simp [dnA] at hc
 ·rw [e,h.n] at hj;simp at hj
 ·rw [e,h.i] at hj;simp at hj
 ·rw [e,h.nd x hx] at hj;simp only [aho,Blk.cells.injEq] at hj;rcases hc with hc|⟨k,z,r,hc⟩
  ·exact hc (by rw [<- hj];rfl)
  ·rw [<- hj] at hc;simp [lv,dnA] at hc
theorem bu.keep {L L':List Blk} {iv mn mi:Nat} {nb bn:Int->Nat} {ck ci:Nat} {rs:List TKy} {suf:List Rdn} {last:Int} {l:List aB} (h:bu L iv mn mi nb bn ck ci rs suf last l) {rt:Nat} {c:List AV} (hr:L[rt]?=some (.cells c)) (hc:c.length=3) (hb:aK (fun i=>i=rt) L L'):bu L' iv mn mi nb bn ck ci rs suf last l:=by
 have no:¬ OfT iv mn mi nb l rt:=h.noOf hr (.inl (by omega));have key:∀ {i:Nat} {b:Blk},OfT iv mn mi nb l i->L[i]?=some b->L'[i]?=some b:=fun {i b} ho e=>hb.get e fun e2=>no (by rw [<- e2];exact ho)
 exact ⟨key (.inl rfl) h.v,key (.inr (.inl rfl)) h.n,key (.inr (.inr (.inl rfl))) h.i,fun x hx=>key (.inr (.inr (.inr ⟨x,hx,rfl⟩))) (h.nd x hx),h.keys,h.mem,h.bnd,h.blt⟩
def GR (L L':List Blk):Prop:=L.length<=L'.length/\∀ (j:Nat) (c:List AV),L[j]?=some (Blk.cells c)->c.length=2->L'[j]?=some (Blk.cells c)
theorem GR.refl (L:List Blk):GR L L:=⟨ahn _,fun _ _ h _=>h⟩
theorem GR.app {L L':List Blk} (h:GR L L') (X:List Blk):GR L (L'++X):=⟨by have:=h.1;simp;omega,fun j c h1 h2=>by
 have:=h.2 j c h1 h2;rw [ahq (ahm.1 this).1];exact this⟩
theorem GR.trans {A B C:List Blk} (h:GR A B) (g:GR B C):GR A C:=⟨ahV h.1 g.1,fun j c h1 h2=>g.2 j c (h.2 j c h1 h2) h2⟩
theorem GR.row {A L L':List Blk} {rt:Nat} {c0:List AV} (h:GR A L) (hr:L[rt]?=some (.cells c0)) (hc:c0.length=3) (hb:aK (fun i=>i=rt) L L'):GR A L':=h.trans ⟨hb.len,fun j c h1 h2=>hb.get h1 fun e=>by
 subst e;rw [hr] at h1;cases h1;omega⟩
structure ae6 (u:Upd):Prop where
 dn:XE u.dn/\∀ r∈u.dn,∀ a∈r,(a.1.length:Int)<=140737488351232
 to:XE u.to/\∀ r∈u.to,∀ a∈r,(a.1.length:Int)<=140737488351232
 attrs:(u.attrs.length:Int)<=9223372036854775807
 names:∀ a∈u.attrs,(a.1.length:Int)<=140737488351232/\(a.2.length:Int)<=9223372036854775807
theorem acn {d:List Rdn} (h:smD d=true) (h2:∀ r∈d,∀ a∈r,(a.1.length:Int)<=140737488351232):dnM d:=by
 simp only [smD,aht,decide_eq_true_eq,ahC] at h;refine ⟨by omega,fun r hm=>⟨?_,h2 r hm⟩⟩;have:=h.2 r hm;rcases r with _|⟨a,t⟩
 ·simp
 ·simp only [smR,aiG,aht,smA,decide_eq_true_eq] at this;have:=this.1.1;simp only [ahD] at this ⊢;omega
theorem agC {u:Upd} (hu:ae6 u) (h:smU u=true):dnM u.dn/\dnM u.to/\ae2 u.attrs:=by
 simp only [smU,aht] at h;obtain ⟨h1,h2,h3⟩:=h;obtain ⟨f1,f2⟩:=aab h3;exact ⟨acn h1 hu.dn.2,acn h2 hu.to.2,by omega,fun a ha=>by have:=(f2 a ha).1;omega⟩
theorem aay (us:List Upd):(us.flatMap dO).length=us.length * 4:=by
 induction us with
 | nil=>rfl
 | cons u us ih=>rw [ahY,ahy,ih,ahD];simp only [ahD,ahZ];omega
theorem WX:∀ {us:List Upd} {k:Nat},k<us.length->((us.flatMap dO).drop (k * 4)).take 4=dO (us.getD k yz)
 | u::us,0,_=>by rw [ahY];rfl
 | u::us,k+1,h=>by
   have ih:=WX (us:=us) (k:=k) (by simpa using h);rw [ahY,ajD];show ((us.flatMap dO).drop (k * 4)).take 4=_
   rw [ih];rfl
theorem acm {d:List Rdn} (hd:XE d) {L:List Blk} {c1 c2:Option Nat} {K:afC} (h:K (.bool (smU ⟨0,d,[],[]⟩)) L) :
  afB 11 [.agg [.int .i64 0,dnA d,.sl [] 0 c1,.sl [] 0 c2]] L K:=by
 refine dQ ?_;have:=W0 (u:=⟨0,d,[],[]⟩) hd ⟨by simp,by simp⟩ (by simp) (by simp) h;have e:AV.frzL [.agg [.int .i64 0,dnA d,.sl [] 0 c1,.sl [] 0 c2]]=[AV.agg (dO ⟨0,d,[],[]⟩)]:=by
  simp only [AV.frzL,AV.frz,dnA,aO,dO];rfl
 rw [e];exact this
theorem afT {L:List Blk} {it iv mn mi rt:Nat} {nb bn:Int->Nat} {ck ci:Nat} {rs:List TKy} {c:Option Nat} {suf:List Rdn} {last:Int} {l:List aB} (hm:Yf L it iv mn mi rt nb bn ck ci rs c suf last l) {K:afC} (h:K (.bool true) L) :
  afB 10 [.ptr iv 0,.ptr rt 0] L K:=by
 have hr:=hm.rt;have hrl:=(ahm.1 hr).1;have hlen:=hm.len;have hel:=db l;have hsb:=hm.ok.sok.m.b;have ar:∀ X:List Blk,(L++X)[rt]?=some (.cells [dnA suf,.sl (aA l) l.length c,.int .i64 last]):=fun X=>by rw [ahq hrl];exact hr
 have kk1:Hid (∀ {K:afC},K (.int .i64 (l.length:Nat)) L->afB 28 [.ptr iv 0] L K):=@hid _ (by intro K q;exact afA hm.code q);have kk2:Hid (∀ {K:afC},K (dnA suf) L->afB 9 [.ptr iv 0] L K):=@hid _ (by intro K q;exact abY hsb hm.code q);have kk3:Hid (∀ {K:afC},K (.bool true) L->afB 29 [dnA suf,dnA suf] L K):=@hid _ (by intro K q;exact ZL hsb.1 hsb.2 q);have hrd:=hid (fun j (hj:j<l.length)=>gQ (l:=l) hj);obtain ⟨ECQv,hEC⟩:=aaR (aA l);rw [hEC] at hel ar hr hrd;replace h:=hid h;replace hm:=hid hm;clear hEC hsb;refine acg SP ?_;clear kk1 kk2 kk3 hr;refine ah (fun m T'' L''=>∃ (j:Nat) (X:List Blk),m=l.length - j/\j<=l.length/\T''=[(32,.int .i64 (j:Int)),(31,.int .i64 l.length),(30,.sl ECQv l.length c),(1,.ptr rt 0),(0,.ptr iv 0)]/\L''=L++X) (CutS (b:=by simp)) ⟨0,[],rfl,ahp _,rfl,by simp⟩ ?_;rintro _ _ _ ⟨j,X,rfl,hj,rfl,rfl⟩;by_cases hjl:j<l.length
 ·have j1:(j:Int)<(l.length:Int):=by omega
  have j2:=ace j (by omega);have e6:=hrd.out j hjl;have e7:j * 3+3<=ECQv.length:=by omega
  have hxl:l.getD j default∈l:=by simp [hjl]
  obtain ⟨x,hx⟩:=aaR (l.getD j default);rw [hx] at e6 hxl;have hbx:∀ b:Blk,(L++(X++[b]))[L.length+X.length]?=some b:=fun b=>by
   rw [ahu (by omega),show L.length+X.length - L.length=X.length by omega,ahu (ahn _)];simp
  have hsx:∀ b b':Blk,(L++(X++[b])).set (L.length+X.length) b'=L++(X++[b']):=fun b b'=>by
   rw [ahP _ _ (by omega),show L.length+X.length - L.length=X.length by omega,ahP _ _ (ahn _)];simp
  have hxb:=(hm.out.ok.ok x hxl).m.b;have hav:=hm.out.av x hxl;have hfx:aY l x.nm=x.id:=by unfold aY;rw [hm.out.ok.at hxl (hm.out.ok.ok x hxl) rfl]
  have kk1:Hid (∀ {Y:List Blk} {K:afC},K (.tup [dnA x.nm,.sl (aU x.av) x.av.length none]) (L++Y)->afB 7 [.ptr iv 0,.int .i64 x.id] (L++Y) K):=@hid _ (by
   intro Y K q;refine WW hm.out.ok hm.out.av (hm.out.code.app Y) (fun e=>?_) (fun y e=>?_)
   ·rw [hm.out.ok.ent hxl] at e;cases e
   ·rw [hm.out.ok.ent hxl] at e;cases e;exact q)
  have kk2:Hid (∀ {Y:List Blk} {K:afC},K (.int .i64 x.id) (L++Y)->afB 24 [.ptr iv 0,dnA x.nm] (L++Y) K):=@hid _ (by
   intro Y K q;exact yY hxb hm.out.ok (hm.out.code.app Y) (by rw [hfx];exact q))
  have kk3:Hid (Ctr Tryz.prog 29 [dnA x.nm,dnA x.nm] (.bool true)):=@hid _ (by intro L K q;exact ZL hxb.1 hxb.2 q);have kk4:Hid (Ctr Tryz.prog 30 [.sl (aU x.av) x.av.length none,.sl (aU x.av) x.av.length none] (.bool true)):=@hid _ (by intro L K q;exact afH hav.1 hav.2 q);have kk5:Hid (∀ {Y:List Blk} {K:afC},K (.int .i64 (eX l x.id:Nat)) (L++Y)->afB 31 [.ptr iv 0,.int .i64 x.id] (L++Y) K):=@hid _ (by intro Y K q;exact adY (hm.out.code.app Y) q);have kk6:Hid (∀ {Y:List Blk} {K:afC},K (.int .i64 (eX l x.id:Nat)) (L++Y)->afB 32 [.ptr rt 0,.int .i64 x.id] (L++Y) K):=@hid _ (by
   intro Y K q;have hh:(L++Y)[rt]?=some (.cells [dnA suf,.sl (aA l) l.length c,.int .i64 last]):=by rw [ahq hrl];exact hm.out.rt
   exact ZP hm.out.ok (by omega) hh q)
  obtain ⟨kzQv,hkz⟩:=aaR (eX l x.id);rw [hkz] at kk5 kk6;unfold rW atR at e6;clear hm hx hxl hxb hav hfx hkz;refine wk ?_;exact aq _ _ _ (by omega) (CutL (b:=by simp)) ⟨j+1,_,rfl,hjl,rfl,rfl⟩
 ·have hje:j=l.length:=by omega
  subst hje;have j1:¬ (l.length:Int)<(l.length:Int):=by omega
  refine wk ?_;exact ab rfl h.out
open Go Go.ChangeShapes
theorem aeq:RdZ Tryz.prog 45 oC (fun a=>a.1.length<=reachBytes) :=
 (N7 Tryz.underlying45 (N:=2) (by kernel_rfl) (jU (sz:=1) rfl (by kernel_rfl) (SY Tryz.underlying9) (jU (sz:=1) rfl (by kernel_rfl) (SY Tryz.underlying9) (Tt rfl)))).map
  fun y hy=>⟨(y.1,y.2.1),hy.1,rfl⟩
theorem aep:RdZ Tryz.prog 43 (fun r:Rdn=>[aw r]) (fun r=>r.length<=maxLen/\∀ a∈r,a.1.length<=reachBytes) :=
 (uS Tryz.underlying43 aeq (by kernel_rfl)).map fun l hl=>⟨l,hl,rfl⟩
theorem YC:RdZ Tryz.prog 23 (fun d:List Rdn=>[dnA d]) (fun d=>XE d/\∀ r∈d,∀ a∈r,(a.1.length:Int)<=140737488351232) :=
 (uS Tryz.underlying23 aep (by kernel_rfl)).map fun l hl=>⟨l,⟨⟨by have:=hl.1;simp only [maxLen] at this;omega,fun r hr=>by have:=(hl.2 r hr).1;simp only [maxLen] at this;omega⟩,fun r hr a ha=>by have:=(hl.2 r hr).2 a ha;simp only [reachBytes] at this;omega⟩,by
  have e:∀ l:List Rdn,l.map aw=l.flatMap fun r=>[aw r]:=fun l=>by
   induction l with
   | nil=>rfl
   | cons a l ih=>rw [ahH,ahY,ih];rfl
  simp only [dnA,e l]⟩
theorem Xg:RdZ Tryz.prog 46 (fun l:List (List UInt8)=>[aej l]) (fun l=>l.length<=maxLen) :=
 (uS Tryz.underlying46 (SY Tryz.underlying9) (by kernel_rfl)).map fun l hl=>⟨l,hl.1,by
  have e:∀ l:List (List UInt8),l.map AV.str=l.flatMap fun r=>[AV.str r]:=fun l=>by
   induction l with
   | nil=>rfl
   | cons a l ih=>rw [ahH,ahY,ih];rfl
  simp only [aej,e l]⟩
theorem aer:RdZ Tryz.prog 48 atA (fun a=>a.1.length<=reachBytes/\a.2.length<=maxLen) :=
 (N7 Tryz.underlying48 (N:=2) (by kernel_rfl) (jU (sz:=1) rfl (by kernel_rfl) (SY Tryz.underlying9) (jU (sz:=1) rfl (by kernel_rfl) Xg (Tt rfl)))).map
  fun y hy=>⟨(y.1,y.2.1),⟨hy.1,hy.2.1⟩,rfl⟩
theorem acE:RdZ Tryz.prog 54 dO ae6 :=
 (N7 Tryz.underlying54 (N:=4) (by kernel_rfl) (jU (sz:=1) rfl (by kernel_rfl) (Rd.z (afJ Tryz.underlying3)) (jU (sz:=1) rfl (by kernel_rfl) YC (jU (sz:=1) rfl (by kernel_rfl) YC (jU (sz:=1) rfl (by kernel_rfl) (uS Tryz.underlying33 aer (by kernel_rfl)) (Tt rfl)))))).map
  fun y hy=>⟨⟨y.1,y.2.1,y.2.2.1,y.2.2.2.1⟩,⟨hy.2.1,hy.2.2.1,by have:=hy.2.2.2.1.1;simp only [maxLen] at this ⊢;omega,fun a ha=>by
   obtain ⟨h1,h2⟩:=hy.2.2.2.1.2 a ha;simp only [maxLen] at h2;simp only [reachBytes] at h1;omega⟩,rfl⟩
theorem aaW:RdZ Tryz.prog 24 (fun l:List Upd=>[.sl (l.flatMap dO) l.length none]) (fun l=>(l.length:Int)<=9223372036854775807/\∀ u∈l,ae6 u) :=
 (uS Tryz.underlying24 acE (by kernel_rfl)).map fun l hl=>⟨l,⟨by have:=hl.1;simp only [maxLen] at this;omega,hl.2⟩,rfl⟩
end Go.Proofs.YtobihfefmlgaoaaGreat.Av
set_option maxRecDepth 100000
namespace Go.Proofs.YtobihfefmlgaoaaGreat.Av
open Go
def kg:LSO:=[An 6]
def ke:LSO:=[Aa 29 1,Ae 30 29,A6 31 30 30,Aa 32 31,.grp none 32 false
 [Ag 33 32 2,AH 34 32 33,AD 35 32 34 5]
 36 (tm 35),Aa 37 36,.grp none 37 false
 [Ag 38 37 0,og 39 37 false (.build [(.int .i64 0),(.sl [] 0 (some 0)),(.sl [] 0 (some 0)),(.sl [] 0 (some 0))] [(1,(1,(tm 38)))]),Bx 40 37 11 39,AY 41 37 40]
 42 (tm 41)]
def kc:LSO:=[o1 43 (.call 12 []),Aa 6 43]
def kb:LSO:=[Aa 45 0,Aj 46 13 45,Aa 44 46,Aq 47 44,Ar 48 44,Aa 7 47,Aa 8 48]
def ka:LSO:=[Aa 50 0,Aj 51 14 50,Aa 49 51,Aq 52 49,Ar 53 49,Aa 9 52,Aa 10 53]
def jZ:LSO:=[Aa 54 8,A0 55 54 0,Aa 56 55,.grp none 56 false
 [Ag 57 56 9,BN 58 56 57]
 59 (tm 58)]
def jY:LSO:=[Aa 61 7,Aa 62 2,Ay 63 15 61 62,Aa 60 63,Aq 64 60,Ar 65 60,Aa 11 64,Aa 12 65]
def jX:LSO:=[o1 66 (.call 12 []),Aa 67 66,.grp none 67 true
 [Ai 68 67 7,og 69 67 true (.eqk false .ptr (tm 68) (.av .nilptr))]
 70 (tm 69),Aa 71 70,.grp none 71 true
 [Ai 72 71 11,Bd 73 71 72 0]
 74 (tm 73),Aa 75 74,.grp none 75 true
 [Ai 76 75 12,Bd 77 75 76 1]
 78 (tm 77),Aa 6 78]
def jW:LSO:=[Ap 13]
def jV:LSO:=[Aa 79 1,Ae 80 79,Ac 81 0]
def jF:LSO:=[Ak 82 81 80]
def jE:LSO:=[Al 83 4 79 81,As 84 4 83,Bj 15,Af 4 15 84]
def jD:LSO:=[As 85 4 15,Aj 86 11 85,AA 87 86]
def jC:LSO:=[o1 88 (.call 12 []),Aa 6 88]
def jB:LSO:=[As 90 4 15,Aj 91 16 90,Aa 89 91,Aq 92 89,Ar 93 89,Aa 16 92,Aa 17 93]
def jA:LSO:=[Aa 94 13,Aa 95 16,Bb 96 95,B5 97 94 96,Aa 13 97]
def jz:LSO:=[Ah 98 81 1,Aa 81 98]
def jy:LSO:=[Aa 99 2,Ae 100 99,Ac 101 0]
def jx:LSO:=[Ak 102 101 100]
def jw:LSO:=[Al 103 1 99 101,Ab 104 1 103,Aa 19 104]
def jv:LSO:=[Aa 105 19,A2 106 105,A6 107 106 5000]
def ju:LSO:=[o1 108 (.call 12 []),Aa 6 108]
def jt:LSO:=[Ah 109 101 1,Aa 101 109]
def jr:LSO:=[Aa 110 13,Aa 111 2,B5 112 110 111,Ae 113 112,Ac 114 0]
def jq:LSO:=[Ak 115 114 113]
def jp:LSO:=[Al 116 1 112 114,Ab 117 1 116,Aa 21 117]
def jo:LSO:=[Aa 119 7,Aa 120 21,Bb 121 120,Ay 122 15 119 121,Aa 118 122,Aq 123 118,Ar 124 118,Aa 22 123,Aa 23 124]
def jn:LSO:=[Aa 126 9,Aa 127 21,Bb 128 127,Ay 129 17 126 128,Aa 125 129,Aq 130 125,Ar 131 125,Aa 24 130,Aa 25 131]
def jm:LSO:=[Aa 132 22,Aa 133 24,AM 134 132 133,Aa 135 134,.grp none 135 false
 [Ag 136 135 23,Ag 137 135 25,BF 138 135 136 137]
 139 (tm 138)]
def jl:LSO:=[An 6]
def jk:LSO:=[Ah 140 114 1,Aa 114 140]
def jj:LSO:=[o1 141 (.call 12 []),AA 142 141,Aa 143 142,.grp none 143 false
 [Ag 144 143 7,BG 145 143 144,A3 146 143 0 145,A1 147 143 1 146,Ag 148 143 9,Bw 149 143 10 147 148,AY 150 143 149]
 151 (tm 150)]
def ji:LSO:=[An 6]
def jh:LSO:=[Aa 152 7,Am 153 152,Ad 154 0 153,Ab 155 1 154,Aj 156 18 155,Aa 157 9,Aj 158 19 157,Aa 26 156,Aa 27 158]
def jg:LSO:=[Aa 159 26,Ae 160 159,Aa 161 27,Ae 162 161,AM 163 160 162]
def jf:LSO:=[An 6]
def je:LSO:=[Aa 164 26,Ae 165 164,Ac 166 0]
def jd:LSO:=[Ak 167 166 165]
def jc:LSO:=[Aa 168 166,Aa 28 168]
def jb:LSO:=[Aa 169 26,Aa 170 28,Al 171 1 169 170,Ab 172 1 171,Aa 173 27,Aa 174 28,Al 175 1 173 174,Ab 176 1 175,AM 177 172 176]
def ja:LSO:=[An 6]
def i9:LSO:=[Ah 178 166 1,Aa 166 178]
def i8:LSO:=[AC 6]
def aX:aS:=⟨179,(.seq (.sreg kg [])
 (.seq (.seq (.sreg ke Cu)
 (.cond (tm 42) (.seq (.sreg kc Cp)
 .ret)
 .skip))
 (.seq (.sreg kb Cx)
 (.seq (.sreg ka CQ)
 (.seq (.seq (.sreg jZ Cr)
 (.cond (tm 59) (.seq (.sreg jY C9)
 (.seq (.sreg jX Cw)
 .ret))
 .skip))
 (.seq (.sreg jW [])
 (.seq (.seq (.sreg jV [])
 (.block 0 (.loop (.seq (.sreg jF [])
 (.seq (.cond (tm 82) .skip
 (.exit 0))
 (.seq (.block 1 (.seq (.sreg jE Cq)
 (.seq (.seq (.sreg jD Cq)
 (.cond (tm 87) (.seq (.sreg jC Cp)
 .ret)
 .skip))
 (.seq (.sreg jB CQ)
 (.sreg jA Cs)))))
 (.sreg jz Cp)))))))
 (.seq (.seq (.sreg jy [])
 (.block 2 (.loop (.seq (.sreg jx [])
 (.seq (.cond (tm 102) .skip
 (.exit 2))
 (.seq (.block 3 (.seq (.sreg jw Cq)
 (.seq (.sreg jv Cq)
 (.cond (tm 107) (.seq (.sreg ju Cp)
 .ret)
 .skip))))
 (.sreg jt Cp)))))))
 (.seq (.seq (.sreg jr CN)
 (.block 4 (.loop (.seq (.sreg jq [])
 (.seq (.cond (tm 115) .skip
 (.exit 4))
 (.seq (.block 5 (.seq (.sreg jp Cq)
 (.seq (.sreg jo C5)
 (.seq (.sreg jn C5)
 (.seq (.sreg jm Cs)
 (.cond (tm 139) (.seq (.sreg jl [])
 .ret)
 .skip))))))
 (.sreg jk Cp)))))))
 (.seq (.seq (.sreg jj Cr)
 (.cond (tm 151) (.seq (.sreg ji [])
 .ret)
 .skip))
 (.seq (.sreg jh C5)
 (.seq (.seq (.sreg jg Cs)
 (.cond (tm 163) (.seq (.sreg jf [])
 .ret)
 .skip))
 (.seq (.seq (.sreg je Cv)
 (.block 6 (.loop (.seq (.sreg jd [])
 (.seq (.cond (tm 167) .skip
 (.exit 6))
 (.seq (.block 7 (.seq (.sreg jc Cp)
 (.seq (.sdreg jb [.pure,.pure,(.read 0 0),(.read 0 0),.pure,.pure,(.read 0 0),(.read 0 0)] C1)
 (.cond (tm 177) (.seq (.sreg ja [])
 .ret)
 .skip))))
 (.sreg i9 Cp)))))))
 (.seq (.sreg i8 [])
 .ret)))))))))))))),[(.tmp 6)]⟩
attribute [push_cast] kg ke kc kb ka jZ jY jX jW jV jF jE jD jC jB jA jz jy jx jw jv ju jt jr jq jp jo jn jm jl jk jj ji jh jg jf je jd jc jb ja i9 i8
theorem cz:aT Tryz.prog (fun _ _=>1) 4=some aX.raw:=by kernel_rfl
def vI:LSO:=[Ac 4 0,Ac 5 0]
def vH:LSO:=[Aa 10 1,Ae 11 10,Ac 12 0]
def vG:LSO:=[Ak 13 12 11]
def vF:LSO:=[Aa 14 12,Al 15 1 10 12,Ab 16 1 15,Aa 6 14,Aa 7 16]
def vE:LSO:=[Aa 18 7,Aj 19 39 18,Aa 17 19,Aq 20 17,Ar 21 17,Bj 8,Af 4 8 20,Aa 9 21]
def vD:LSO:=[Aa 22 9,A0 23 22 0]
def vC:LSO:=[Aa 24 6,Aa 25 9,Aa 4 24,Aa 5 25]
def vB:LSO:=[Aa 26 0,As 27 4 8,Ay 28 21 26 27,A0 29 28 0]
def vA:LSO:=[Aa 30 6,Aa 4 30,Ac 5 4]
def vz:LSO:=[Ah 31 12 1,Aa 12 31]
def sW:LSO:=[Aa 32 1,Ae 33 32,Aa 4 33,Ac 5 0]
def gS:aS:=⟨34,(.seq (.sreg vI [])
 (.seq (.seq (.sreg vH [])
 (.block 0 (.loop (.seq (.sreg vG [])
 (.seq (.cond (tm 13) .skip
 (.exit 0))
 (.seq (.block 1 (.seq (.sreg vF Cz)
 (.seq (.sreg vE Cx)
 (.seq (.seq (.sreg vD Cp)
 (.cond (tm 23) (.seq (.sreg vC C2)
 .ret)
 .skip))
 (.seq (.sreg vB Cr)
 (.cond (tm 29) (.seq (.sreg vA Cv)
 .ret)
 .skip))))))
 (.sreg vz Cp)))))))
 (.seq (.sreg sW C2)
 .ret))),[(.tmp 4),(.tmp 5)]⟩
attribute [push_cast] vI vH vG vF vE vD vC vB vA vz sW
theorem uj:aT Tryz.prog (fun _ _=>1) 17=some gS.raw:=by kernel_rfl
def F1:LSO:=[Ap 2]
def F0:LSO:=[Ap 3]
def FZ:LSO:=[Aa 10 0,Aa 11 0,Aa 12 0,Aj 13 9 12,Ay 14 24 11 13,Bm 15 23 10 14 2,Ae 16 15,Ac 17 0]
def FY:LSO:=[Ak 18 17 16]
def FX:LSO:=[Al 19 1 15 17,Ab 20 1 19,Aa 5 20]
def FW:LSO:=[Aa 22 0,Aa 23 5,Ay 24 7 22 23,Aa 21 24,Aq 25 21,Ar 26 21,Aa 6 25,Aa 7 26]
def FV:LSO:=[Aa 28 6,Aa 29 7,
 o1 30 (.build [(.int .i64 0),(.sl [] 0 (some 0)),(.sl [] 0 (some 0)),(.sl [] 0 (some 0))] [(0,(1,(iv 1))),(1,(1,(tm 28))),(3,(1,(tm 29)))]),Aj 31 34 30,Aa 27 31,Aq 32 27,
 Ar 33 27,Aa 8 32,Aa 9 33]
def FU:LSO:=[Aa 34 3,Aa 35 8,Bb 36 35,B5 37 34 36,Aa 3 37]
def FT:LSO:=[Ah 38 17 1,Aa 17 38]
def FS:LSO:=[Aa 39 3,Aa 2 39]
def uI:aS:=⟨40,(.seq (.sreg F1 [])
 (.seq (.sreg F0 [])
 (.seq (.seq (.sreg FZ [true,true,true,false,false,false,false,false])
 (.block 0 (.loop (.seq (.sreg FY [])
 (.seq (.cond (tm 18) .skip
 (.exit 0))
 (.seq (.block 1 (.seq (.sreg FX Cq)
 (.seq (.sreg FW C9)
 (.seq (.sreg FV [false,true,false,false,false,false,false,false,false])
 (.sreg FU Cs)))))
 (.sreg FT Cp)))))))
 (.seq (.sreg FS Cp)
 .ret)))),[(.tmp 2)]⟩
attribute [push_cast] F1 F0 FZ FY FX FW FV FU FT FS
theorem Rf:aT Tryz.prog (fun _ _=>1) 18=some uI.raw:=by kernel_rfl
def HZ:LSO:=[Ap 2]
def HY:LSO:=[Ap 3]
def HX:LSO:=[Aa 8 0,Aj 9 40 8,Ae 10 9,Ac 11 0]
def HW:LSO:=[Ak 12 11 10]
def HV:LSO:=[Al 13 3 9 11,As 14 3 13,BA 5,Af 3 5 14]
def HU:LSO:=[Ad 16 1 5,Ab 17 1 16,Ad 18 2 5,Ab 19 1 18,
 o1 20 (.build [(.int .i64 0),(.sl [] 0 (some 0)),(.sl [] 0 (some 0)),(.sl [] 0 (some 0))] [(0,(1,(iv 1))),(1,(1,(tm 17))),(3,(1,(tm 19)))]),Aj 21 16 20,Aa 15 21,Aq 22 15,
 Ar 23 15,Aa 6 22,Aa 7 23]
def HT:LSO:=[Aa 24 3,Aa 25 6,Bb 26 25,B5 27 24 26,Aa 3 27]
def HS:LSO:=[Ah 28 11 1,Aa 11 28]
def HR:LSO:=[Aa 29 3,Aa 2 29]
def zc:aS:=⟨30,(.seq (.sreg HZ [])
 (.seq (.sreg HY [])
 (.seq (.seq (.sreg HX C4)
 (.block 0 (.loop (.seq (.sreg HW [])
 (.seq (.cond (tm 12) .skip
 (.exit 0))
 (.seq (.block 1 (.seq (.sreg HV Cq)
 (.seq (.sreg HU [false,true,false,false,false,false,false,false,false,false,false])
 (.sreg HT Cs))))
 (.sreg HS Cp)))))))
 (.seq (.sreg HR Cp)
 .ret)))),[(.tmp 2)]⟩
attribute [push_cast] HZ HY HX HW HV HU HT HS HR
theorem Sy:aT Tryz.prog (fun _ _=>1) 19=some zc.raw:=by kernel_rfl
def ru:LSO:=[Ap 2]
def rr:LSO:=[Ap 3]
def rq:LSO:=[Aa 6 0,Aa 7 0,Aa 8 0,Am 9 8,Ad 10 0 9,Ab 11 1 10,Ay 12 78 7 11,Bm 13 77 6 12 2,Ae 14 13,Ac 15 0]
def rp:LSO:=[Ak 16 15 14]
def rn:LSO:=[Al 17 1 13 15,Ab 18 1 17,Aa 5 18]
def rm:List (am×Kd) :=
 [Az 19 3,Az 20 0,AF 21 20 0 0,Aw 22 1 21,Ax 23 1 22 0 0,Az 24 0,Az 25 5,od 26 (.call 58 [(tm 24),(tm 25)]) (.read 0 0),od 27 (.iaddr 3 (tm 23) (tm 26)) (.read 0 0),
 BW 28 3 27 0 0,od 29 (.bslice false 3 1 [(.int .i64 0),(.sl [] 0 (some 0)),(.sl [] 0 (some 0))] [(0,(3,(tm 28)))]) (.read 0 0)]
def pT:List am :=
 [⟨(some 30),(.app 1 3 56 [(.int .i64 0),(.sl [] 0 (some 0)),(.sl [] 0 (some 0))] (tm 19) (tm 29)),none⟩,⟨(some 3),(.mv (tm 30)),none⟩]
def rl:LSO:=[Ah 31 15 1,Aa 15 31]
def rk:LSO:=[Aa 32 3,Aa 2 32]
def mF:aS:=⟨33,(.seq (.sreg ru [])
 (.seq (.sreg rr [])
 (.seq (.seq (.sreg rq CV)
 (.block 0 (.loop (.seq (.sreg rp [])
 (.seq (.cond (tm 16) .skip
 (.exit 0))
 (.seq (.block 1 (.seq (.sreg rn Cq)
 (.dregM rm pT CK)))
 (.sreg rl Cp)))))))
 (.seq (.sreg rk Cp)
 .ret)))),[(.tmp 2)]⟩
attribute [push_cast] ru rr rq rp rn rm pT rl rk
theorem Lg:aT Tryz.prog (fun _ _=>1) 40=some mF.raw:=by kernel_rfl
attribute [push_cast] aX gS uI zc mF
set_option maxHeartbeats 8000000
set_option maxRecDepth 100000
abbrev afb:=Int×Int×Nat
structure WQ (rs:List afb) (W:List Int):Prop where
 nd:(rs.map (·.1)).Nodup
 val:∀ r∈rs,r.2.1=(W.count r.1:Int)/\r.1∈W
 all:∀ id∈W,id∈rs.map (·.1)
theorem WQ.nil:WQ [] []:=⟨aj2,by simp,by simp⟩
theorem WQ.get {rs:List afb} {W:List Int} (h:WQ rs W) (id:Int):(rs.findIdx? (fun r=>decide (r.1=id))=none/\id ∉ W)\/∃ n,n<rs.length/\rs.findIdx? (fun r=>decide (r.1=id))=some n/\(rs.getD n (0,0,0)).1=id/\(rs.getD n (0,0,0)).2.1=(W.count id:Int):=by
 rcases hf:rs.findIdx? (fun r=>decide (r.1=id)) with _|n
 ·refine .inl ⟨hf,fun hw=>?_⟩;obtain ⟨r,hr,e⟩:=ahs.1 (h.all id hw);have hf2:=hf;rw [ajz] at hf2;have:=hf2 r hr;simp [e] at this
 ·have hf2:=hf;rw [List.findIdx?_eq_some_iff_getElem] at hf2;obtain ⟨hn,h1,_⟩:=hf2;rw [decide_eq_true_eq] at h1;have hg:rs.getD n (0,0,0)=rs[n]:=by simp [hn]
  refine .inr ⟨n,hn,hf,by rw [hg];exact h1,?_⟩;rw [hg,(h.val rs[n] (ain hn)).1,h1]
theorem WQ.new {rs:List afb} {W:List Int} (h:WQ rs W) {id:Int} (hi:id ∉ W) (a ck:Nat) (ha:0<a):WQ (rs++[(id,(a:Int),ck)]) (W++List.replicate a id):=by
 have hno:id ∉ rs.map (·.1):=fun hm=>by
  obtain ⟨r,hr,e⟩:=ahs.1 hm;exact hi (e ▸ (h.val r hr).2)
 refine ⟨?_,fun r hr=>?_,fun k hk=>?_⟩
 ·rw [ahN,ajm];refine ⟨h.nd,by simp,fun x hx y hy=>?_⟩;simp only [ahH,aif,ahI] at hy;rw [hy];exact fun e=>hno (e ▸ hx)
 ·rcases ahr.1 hr with hr|hr
  ·obtain ⟨h1,h2⟩:=h.val r hr;have hne:¬ id=r.1:=fun e=>hi (e ▸ h2)
   refine ⟨?_,aih _ h2⟩;rw [h1,List.count_append,aj4];simp [hne]
  ·rw [ahI.1 hr];refine ⟨?_,aiI _ (by simp;omega)⟩;simp only;rw [List.count_append,aj4,List.count_eq_zero.2 hi];simp
 ·rw [ahN];rcases ahr.1 hk with hk|hk
  ·exact aih _ (h.all k hk)
  ·rw [List.eq_of_mem_replicate hk];simp
theorem WQ.len {rs:List afb} {W ids:List Int} (h:WQ rs W) (hi:ids.Nodup) (he:∀ x,x∈W↔x∈ids):rs.length=ids.length:=by
 have hp:(rs.map (·.1)).Perm ids:=(List.perm_ext_iff_of_nodup h.nd hi).2 fun x=>by
  rw [<- he x];constructor
  ·intro hx;obtain ⟨r,hr,e⟩:=ahs.1 hx;exact e ▸ (h.val r hr).2
  ·exact h.all x
 have:=hp.length_eq
 rwa [ahF] at this
def lE (suf:List Rdn) (l:List aB):List aB:=match atE l suf with|some r=>scL l r 2|none=>[]
theorem aak {suf:List Rdn} {last:Int} {l:List aB} (ht:TOk suf last l):scT l (aY l suf) 2=(lE suf l).map (·.id):=by
 unfold lE aY;rcases h:atE l suf with _|r
 ·have:ux l 0=none:=by
   rcases he:ux l 0 with _|y
   ·rfl
   ·obtain ⟨e1,e2⟩:=abv he;have:=(ht.ids y e1).1;omega
  unfold scT;simp only [this];rfl
 ·exact Tn (ht.ent (cH h).2.1)
theorem UP {suf:List Rdn} {l:List aB} {x:aB} (h:x∈lE suf l):x∈l:=by
 unfold lE at h;split at h
 ·exact (ah5.1 ((aiZ _ _).mem_iff.1 h)).1
 ·cases h
theorem QL (suf:List Rdn) (l:List aB):(lE suf l).length<=l.length:=by
 unfold lE;split
 ·exact V5 _ _ _
 ·simp
theorem afL {suf:List Rdn} {last:Int} {l:List aB} (ht:TOk suf last l) {rt:Nat} {c:Option Nat} {b:AV} (hn:l.length<=1000000) {L:List Blk} (hL:L[rt]?=some (.cells [dnA suf,.sl (aA l) l.length c,b])) {K:afC} (h:K (.sl (aA (lE suf l)) (lE suf l).length none) L) :
  afB 40 [.ptr rt 0] L K:=by
 have ar:∀ X:List Blk,(L++X)[rt]?=some (.cells [dnA suf,.sl (aA l) l.length c,b]):=fun X=>abD hL
 have hsm:=ht.sok.m;obtain ⟨s,hs⟩:=aaR (aY l suf);obtain ⟨ws,hws⟩:=aaR (lE suf l);have hsc:=aak ht;rw [hs,hws] at hsc;have hwl:ws.length<=l.length:=by rw [<- hws];exact QL _ _
 have hwm:∀ x∈ws,x∈l:=fun x hx=>UP (by rw [hws];exact hx)
 rw [hws] at h;have hel:=db l;have kk1:Hid (∀ {X:List Blk} {K:afC},K (.int .i64 s) (L++X)->afB 78 [.ptr rt 0,dnA suf] (L++X) K):=@hid _ (by
  intro X K q;exact aen ht.ok hsm (by omega) (ar X) (by rw [hs];exact q))
 have kk2:Hid (∀ {X:List Blk} {K:afC},K (.sl ((ws.map (·.id)).map (AV.int .i64)) ws.length none) (L++X)->afB 77 [.ptr rt 0,.int .i64 s,.int .i64 2] (L++X) K):=@hid _ (by
  intro X K q;exact acu ht hn (ar X) (by rw [hsc,ahF];exact q))
 have kB:Hid (∀ (id:Int) {X:List Blk} {K:afC},K (.int .i64 (byI l id)) (L++X)->afB 58 [.ptr rt 0,.int .i64 id] (L++X) K):=@hid _ (by
  intro id X K q;exact Wa (by omega) (ar X) q)
 have hix:Hid (∀ x∈ws,∃ n,n<l.length/\byI l x.id=(n:Int)/\l.getD n default=x):=hid (fun x hx=>by
  rcases Uk l x.id with ⟨_,e2⟩|⟨n,hlt,e1,e2⟩
  ·rw [ht.ent (hwm x hx)] at e2;cases e2
  ·rw [ht.ent (hwm x hx)] at e2;simp only [aho] at e2;exact ⟨n,hlt,e1,e2.symm⟩)
 have hat:=hid (fun k (hk:k<l.length)=>gQ (l:=l) hk);obtain ⟨EC,hEC⟩:=aaR (aA l);rw [hEC] at hel ar hL hat;obtain ⟨AL,hAL⟩:=aaR ((ws.map (·.id)).map (AV.int .i64));rw [hAL] at kk2;have hall:AL.length=ws.length:=by rw [<- hAL];simp
 have hgt:Hid (∀ i,i<ws.length->AL.getD i .undef=.int .i64 (ws.getD i default).id):=hid (fun i h2=>by
  rw [<- hAL,ahE,ahE];simp [h2])
 have e0:=ar [];rw [ahO] at e0;have kk3:=@hid _ (fun {K:afC} (q:K (.int .i64 s) L)=>by have:=kk1.out (X:=[]) (K:=K);rw [ahO] at this;exact this q);have kk4:=@hid _ (fun {K:afC} (q:K (.sl AL ws.length none) L)=>by have:=kk2.out (X:=[]) (K:=K);rw [ahO] at this;exact this q);replace h:=hid h;clear ht hsm hs hws hsc hEC hAL hL kk1 kk2 hwm;refine acg Lg ?_;clear kk3 kk4 e0;refine bi (l:=[]) (n:=0) 3 3 rfl (ahQ 3).symm ?_;refine ah (fun m T' L'=>∃ (j:Nat) (C:List AV) (X:List Blk),m=ws.length - j/\j<=ws.length/\Hid (C=aA (ws.take j))/\T'=[(15,.int .i64 (j:Int)),(14,.int .i64 ws.length),(13,.sl AL ws.length none),(3,.gsl C j L.length 3),(0,.ptr rt 0)]/\L'=L++(.spare j 3::X)) (CutS (b:=by simp)) ⟨0,[],[],rfl,ahp _,hid rfl,rfl,by simp⟩ ?_;rintro _ _ _ ⟨j,C,X,rfl,hj,hC,rfl,rfl⟩;by_cases hjl:j<ws.length
 ·have j1:(j:Int)<(ws.length:Int):=by omega
  have j2:=ace j (by omega);have e1:=hgt.out j hjl;have hja:j<AL.length:=by omega
  have hxw:ws.getD j default∈ws:=by simp [hjl]
  obtain ⟨x,hx⟩:=aaR (ws.getD j default);rw [hx] at e1 hxw;obtain ⟨n,hnl,hb,hnx⟩:=hix.out x hxw;have n1:(n:Int)<(l.length:Int):=by omega
  have e6:=hat.out n hnl;rw [hnx] at e6;unfold rW atR at e6;have e7:n * 3+3<=EC.length:=by omega
  have kk1:Hid (∀ {X:List Blk} {K:afC},K (.int .i64 (n:Int)) (L++X)->afB 58 [.ptr rt 0,.int .i64 x.id] (L++X) K):=@hid _ (by
   intro X K q;exact kB.out x.id (by rw [hb];exact q))
  have htk:Hid (C++[.int .i64 x.id,dnA x.nm,.sl (aU x.av) x.av.length none]=aA (ws.take (j+1))):=hid (by
   have:ws[j]=x:=by rw [<- hx];simp [hjl]
   rw [ahK hjl,this,kl,<- hC.out];rfl)
  have fy1:AV.frzL (x.nm.map aw)=x.nm.map aw:=aO _;have fy2:=dp x.av;clear hx hxw hb hnx hC;refine wk ?_;exact aq _ _ _ (by omega) (CutL (b:=by simp)) ⟨j+1,_,_,rfl,hjl,htk,rfl,rfl⟩
 ·have hje:j=ws.length:=by omega
  subst hje;have j1:¬ (ws.length:Int)<(ws.length:Int):=by omega
  have e5:=fQ ws;rw [ahA] at hC;have hC2:=hC.out;subst hC2;clear hC;refine wk ?_;refine ay ?_;simp only [AV.frz,e5];refine ab ?_ h.out;simp only [AV.refs,Ui]
def uy (x:aB):Upd:=⟨1,x.nm,[],x.av⟩
def yG (ws:List aB):List (List UInt8):=ws.map fun x=>(wrU (uy x)).1
theorem af3 {L:List Blk} {iv mn mi:Nat} {nb bn:Int->Nat} {ck ci:Nat} {rs:List TKy} {suf:List Rdn} {last:Int} {l:List aB} (ht:TOk suf last l) (hln:l.length<=1000000) (hav:∀ x∈l,ae2 x.av) (hsu:∀ x∈l,ov (uy x)) (hc:bu L iv mn mi nb bn ck ci rs suf last l) {K:afC} (h:K (.sl ((yG (lE suf l)).map AV.str) (lE suf l).length none) L) :
  afB 18 [.ptr iv 0] L K:=by
 have hsb:=ht.sok.m.b;obtain ⟨s,hs⟩:=aaR (aY l suf);obtain ⟨ws,hws⟩:=aaR (lE suf l);have hsc:=aak ht;rw [hs,hws] at hsc;have hwl:ws.length<=l.length:=by rw [<- hws];exact QL _ _
 have hwm:∀ x∈ws,x∈l:=fun x hx=>UP (by rw [hws];exact hx)
 rw [hws] at h;have kk1:Hid (∀ {K:afC},K (dnA suf) L->afB 9 [.ptr iv 0] L K):=@hid _ (by intro K q;exact abY hsb hc q);have kk2:Hid (∀ {K:afC},K (.int .i64 s) L->afB 24 [.ptr iv 0,dnA suf] L K):=@hid _ (by
  intro K q;exact yY hsb ht hc (by rw [hs];exact q))
 obtain ⟨AL,hAL⟩:=aaR ((ws.map (·.id)).map (AV.int .i64));have kk3:Hid (∀ {K:afC},K (.sl AL ws.length none) L->afB 23 [.ptr iv 0,.int .i64 s,.int .i64 2] L K):=@hid _ (by
  intro K q;exact Td ht (by omega) hc (by rw [hsc,ahF,hAL];exact q))
 have hall:AL.length=ws.length:=by rw [<- hAL];simp
 have hgt:Hid (∀ i,i<ws.length->AL.getD i .undef=.int .i64 (ws.getD i default).id):=hid (fun i h2=>by
  rw [<- hAL,ahE,ahE];simp [h2])
 have kE:Hid (∀ x∈ws,∀ {X:List Blk} {K:afC},K (.tup [dnA x.nm,.sl (aU x.av) x.av.length none]) (L++X)->afB 7 [.ptr iv 0,.int .i64 x.id] (L++X) K):=hid (fun x hx {X K} q=>by
  refine WW ht hav (hc.app X) (fun e=>?_) (fun y e=>?_)
  ·rw [ht.ent (hwm x hx)] at e;cases e
  ·rw [ht.ent (hwm x hx)] at e;cases e;exact q)
 have kW:Hid (∀ x∈ws,∀ {c:Option Nat} {L:List Blk} {K:afC},K (.tup [.str (wrU (uy x)).1,.int .i64 (wrU (uy x)).2]) L->afB 34 [.agg [.int .i64 1,dnA x.nm,.sl [] 0 c,.sl (aU x.av) x.av.length none]] L K):=hid (fun x hx {c L K} q=>by
  refine dQ ?_;have e:AV.frzL [.agg [.int .i64 1,dnA x.nm,.sl [] 0 c,.sl (aU x.av) x.av.length none]]=[AV.agg (dO (uy x))]:=by
   simp only [AV.frzL,AV.frz,dnA,aO,dp,dO,uy];rfl
  rw [e];exact VY (u:=uy x) (ht.ok x (hwm x hx)).m.b ⟨by simp [uy],by simp [uy]⟩ (hsu x (hwm x hx)) q)
 replace h:=hid h;clear hav hsu hc ht hsb hs hws hsc hAL hwm;refine acg Rf ?_;clear kk1 kk2 kk3;refine bi (l:=[]) (n:=0) 3 1 rfl (ahQ 1).symm ?_;refine ah (fun m T' L'=>∃ (j:Nat) (C:List AV) (X:List Blk),m=ws.length - j/\j<=ws.length/\Hid (C=(yG (ws.take j)).map AV.str)/\T'=[(17,.int .i64 (j:Int)),(16,.int .i64 ws.length),(15,.sl AL ws.length none),(3,.gsl C j L.length 1),(0,.ptr iv 0)]/\L'=L++(.spare j 1::X)) (CutS (b:=by simp)) ⟨0,[],[],rfl,ahp _,hid rfl,rfl,by simp⟩ ?_;rintro _ _ _ ⟨j,C,X,rfl,hj,hC,rfl,rfl⟩;by_cases hjl:j<ws.length
 ·have j1:(j:Int)<(ws.length:Int):=by omega
  have j2:=ace j (by omega);have e1:=hgt.out j hjl;have hja:j<AL.length:=by omega
  have hxw:ws.getD j default∈ws:=by simp [hjl]
  obtain ⟨x,hx⟩:=aaR (ws.getD j default);rw [hx] at e1 hxw;have kk1:=@hid _ (fun {X:List Blk} {K:afC}=>kE.out x hxw (X:=X) (K:=K));have kk2:=@hid _ (fun {c:Option Nat} {L:List Blk} {K:afC}=>kW.out x hxw (c:=c) (L:=L) (K:=K));have htk:Hid (C++[.str (wrU (uy x)).1]=(yG (ws.take (j+1))).map AV.str):=hid (by
   have:ws[j]=x:=by rw [<- hx];simp [hjl]
   rw [ahK hjl,this];unfold yG at hC ⊢;rw [ahN,ahN,<- hC.out];rfl)
  obtain ⟨⟨w,we⟩,hw⟩:∃ q,wrU (uy x)=q:=⟨_,rfl⟩;rw [hw] at kk2 htk;clear hx hxw hC hw;refine wk ?_;exact aq _ _ _ (by omega) (CutL (b:=by simp)) ⟨j+1,_,_,rfl,hjl,htk,rfl,rfl⟩
 ·have hje:j=ws.length:=by omega
  subst hje;have j1:¬ (ws.length:Int)<(ws.length:Int):=by omega
  have e5:=lq (yG ws);rw [ahA] at hC;have hC2:=hC.out;subst hC2;clear hC;refine wk ?_;refine ay ?_;simp only [AV.frz,e5];refine ab ?_ h.out;simp only [AV.refs,qn]
theorem aes {L:List Blk} {rt:Nat} {c:Option Nat} {b:AV} {suf:List Rdn} {last:Int} {l:List aB} (ht:TOk suf last l) (hln:l.length<=1000000) (hsu:∀ x∈l,ov (uy x)) (hL:L[rt]?=some (.cells [dnA suf,.sl (aA l) l.length c,b])) {K:afC} (h:K (.sl ((yG (lE suf l)).map AV.str) (lE suf l).length none) L) :
  afB 19 [.ptr rt 0] L K:=by
 obtain ⟨ws,hws⟩:=aaR (lE suf l);have hwl:ws.length<=l.length:=by rw [<- hws];exact QL _ _
 have hwm:∀ x∈ws,x∈l:=fun x hx=>UP (by rw [hws];exact hx)
 rw [hws] at h;have kk1:Hid (∀ {K:afC},K (.sl (aA ws) ws.length none) L->afB 40 [.ptr rt 0] L K):=@hid _ (by
  intro K q;exact afL ht hln hL (by rw [hws];exact q))
 have kW:Hid (∀ x∈ws,∀ {c:Option Nat} {L:List Blk} {K:afC},K (.tup [.str (wrU (uy x)).1,.int .i64 (wrU (uy x)).2]) L->afB 16 [.agg [.int .i64 1,dnA x.nm,.sl [] 0 c,.sl (aU x.av) x.av.length none]] L K):=hid (fun x hx {c L K} q=>by
  refine dQ ?_;have e:AV.frzL [.agg [.int .i64 1,dnA x.nm,.sl [] 0 c,.sl (aU x.av) x.av.length none]]=[AV.agg (dO (uy x))]:=by
   simp only [AV.frzL,AV.frz,dnA,aO,dp,dO,uy];rfl
  rw [e];exact Tp (u:=uy x) (ht.ok x (hwm x hx)).m ⟨by simp [uy],by simp [uy]⟩ (hsu x (hwm x hx)) q)
 have hel:=db ws;have hat:=hid (fun k (hk:k<ws.length)=>gQ (l:=ws) hk);obtain ⟨EC,hEC⟩:=aaR (aA ws);rw [hEC] at hel hat kk1;replace h:=hid h;clear hsu ht hws hwm hL hEC;refine acg Sy ?_;clear kk1;refine bi (l:=[]) (n:=0) 3 1 rfl (ahQ 1).symm ?_;refine ah (fun m T' L'=>∃ (j:Nat) (C:List AV) (X:List Blk),m=ws.length - j/\j<=ws.length/\Hid (C=(yG (ws.take j)).map AV.str)/\T'=[(11,.int .i64 (j:Int)),(10,.int .i64 ws.length),(9,.sl EC ws.length none),(3,.gsl C j L.length 1)]/\L'=L++(.spare j 1::X)) (CutS (b:=by simp)) ⟨0,[],[],rfl,ahp _,hid rfl,rfl,by simp⟩ ?_;rintro _ _ _ ⟨j,C,X,rfl,hj,hC,rfl,rfl⟩;by_cases hjl:j<ws.length
 ·have j1:(j:Int)<(ws.length:Int):=by omega
  have j2:=ace j (by omega);have e6:=hat.out j hjl;have e7:j * 3+3<=EC.length:=by omega
  have hxw:ws.getD j default∈ws:=by simp [hjl]
  obtain ⟨x,hx⟩:=aaR (ws.getD j default);rw [hx] at e6 hxw;unfold rW atR at e6;have hbx:∀ b:Blk,(L++(.spare j 1::(X++[b])))[L.length+(X.length+1)]?=some b:=fun b=>by
   rw [ahu (by omega),show L.length+(X.length+1) - L.length=X.length+1 by omega,aii,ahu (ahn _)];simp
  have hsx:∀ b b':Blk,(L++(.spare j 1::(X++[b]))).set (L.length+(X.length+1)) b'=L++(.spare j 1::(X++[b'])):=fun b b'=>by
   rw [ahP _ _ (by omega),show L.length+(X.length+1) - L.length=X.length+1 by omega,aiB,ahP _ _ (ahn _)];simp
  have kk2:=@hid _ (fun {c:Option Nat} {L:List Blk} {K:afC}=>kW.out x hxw (c:=c) (L:=L) (K:=K));have htk:Hid (C++[.str (wrU (uy x)).1]=(yG (ws.take (j+1))).map AV.str):=hid (by
   have:ws[j]=x:=by rw [<- hx];simp [hjl]
   rw [ahK hjl,this];unfold yG at hC ⊢;rw [ahN,ahN,<- hC.out];rfl)
  obtain ⟨⟨w,we⟩,hw⟩:∃ q,wrU (uy x)=q:=⟨_,rfl⟩;rw [hw] at kk2 htk;clear hx hxw hC hw;refine wk ?_;exact aq _ _ _ (by omega) (CutL (b:=by simp)) ⟨j+1,_,_,rfl,hjl,htk,rfl,rfl⟩
 ·have hje:j=ws.length:=by omega
  subst hje;have j1:¬ (ws.length:Int)<(ws.length:Int):=by omega
  have e5:=lq (yG ws);rw [ahA] at hC;have hC2:=hC.out;subst hC2;clear hC;refine wk ?_;refine ay ?_;simp only [AV.frz,e5];refine ab ?_ h.out;simp only [AV.refs,qn]
end Go.Proofs.YtobihfefmlgaoaaGreat.Av
