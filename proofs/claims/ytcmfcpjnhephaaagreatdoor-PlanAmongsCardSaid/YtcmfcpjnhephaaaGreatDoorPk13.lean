/- Joined texts of the walk, made small by a program. -/
import Derived.Test.YtcmfcpjnhephaaaGreatDoorPk5
import Derived.Laws.Externs
import Derived.Test.YtcmfcpjnhephaaaGreatDoorPk7
import Derived.Test.YtcmfcpjnhephaaaGreatDoorPk9
import Derived.Test.YtcmfcpjnhephaaaGreatDoorPk4
import Derived.Shelf.SlIterI.Nil
import Derived.Lib.SlKeysI
import Derived.Test.YtcmfcpjnhephaaaGreatDoorPk10
import Derived.Test.YtcmfcpjnhephaaaGreatDoorPk12
import Derived.Test.YtcmfcpjnhephaaaGreatDoorRows
import Derived.KernelRfl
import Derived.Shelf.Spec.SlicesGrow
set_option linter.unusedSimpArgs false
set_option linter.unusedVariables false
namespace Go.Proofs.YtcmfcpjnhephaaaGreatDoor.Av
open Go Go.MapKept
variable {L:List Blk}{K:alc}
theorem ajY{P:Program}{f:FuncId}{fn:Func}(hf:P.funcs[f]?=some fn)(hb:fn.body.isSome=true)(hn:(fn.name == "runtime.NumGoroutine")=false)(args:Array Value)(w:World):(callFunc f args).run P w=.ok (.enter f args) w:=by
 simp only[callFunc,alo,run_program,alq,hf,hn];cases h:fn.body with
 |none=>simp[h]at hb
 |some c=>simp
theorem aa4{i ck:Nat}{es:List (AV×AV×Nat)}(hi:L[i]?=some (.map es ck))(h:K (.lmap L.length) (L++[.map es ck])):alb 40 [.lmap i] L K:=λw0 S0 E w vs hR hv=>by simp only[VRL]at hv;obtain⟨v,_,rfl,hv,rfl⟩:=hv;obtain⟨c,rs,hc,rfl,hb,hmr⟩:=Mf hR hi hv;refine .inl ⟨ajY Tryz.func40 rfl aoB _ _,(AnyW.maps_Clone Tryz.cloneM c.blk rs ck w hb).mono ?_⟩;rintro e w' ⟨rfl,rfl⟩;have hle:E.le {E with loc:=λj=>if j=L.length then some ⟨w.heap.size,0,0⟩else E.loc j}:=Env.le_loc _ (hR.fresh _ (ale _));have r1:=hR.push (.map rs ck) (.map es ck) ⟨w.heap.size,0,0⟩ rfl rfl ⟨⟨w.heap.size,0,0⟩,rs,aoA,aoA,hmr.mono hle⟩;refine⟨_,_,_,_,rfl,r1.1,h,?_,r1.2⟩;simp only[VR];exact⟨⟨w.heap.size,0,0⟩,aoA,rfl⟩
set_option maxHeartbeats 8000000
set_option maxRecDepth 100000
abbrev Ent:=Int×Bool×Nat
def WT(p:Ent):AV×AV×Nat:=(.int .i64 p.1,.bool p.2.1,p.2.2)
abbrev ig(xs:List Ent):List (AV×AV×Nat):=xs.map WT
theorem ad4(q:Nat->Bool)(xs:List Ent)(ck:Nat):Blk.refs q (.map (ig xs) ck)=true:=by simp[Blk.refs,WT,AV.refs]
theorem aac:∀(xs:List Ent) (p:Ent) (k:Nat),(xs.map (·.1)).Nodup->p∈xs->∃j,d8 (.int .i64 p.1) (ig xs) k=some (some (k+j,.bool p.2.1))/\(ig xs).eraseIdx j=ig (xs.filter λr=>decide (r.1≠p.1))
 |[],p,k,_,h=>by cases h
 | x::xs,p,k,hn,h=>by
   rw[alr,ame]at hn;by_cases hx:p.1=x.1
   .have hp:p=x:=by
     rcases alj.1 h with h|h
     .exact h
     .exact absurd (alg.2 ⟨p,h,hx⟩) hn.1
    subst hp;refine⟨0,by simp[ig,WT,d8,xT],?_⟩;have hf:xs.filter (λr=>decide (r.1≠p.1))=xs:=anC.2 λr hr=>by
     have:r.1≠p.1:=λe=>hn.1 (alg.2 ⟨r,hr,e⟩)
     simpa using this
    simp only[alr,List.eraseIdx_zero,List.tail_cons,anr,ne_eq,not_true_eq_false,decide_false,alx,if_false];simp only[ne_eq]at hf;rw[hf]
   .have hm:p∈xs:=by
     rcases alj.1 h with h|h
     .exact absurd (by rw[h]) hx
     .exact h
    obtain⟨j,h1,h2⟩:=aac xs p (k+1) hn.2 hm;refine⟨j+1,?_,?_⟩
    .simp only[ig,alr,WT,d8,xT,if_true,decide_eq_false hx];simp only[ig]at h1;rw[h1,show k+1+j=k+(j+1)by omega]
    .have hx':x.1≠p.1:=λe=>hx e.symm
     simp only[ig,alr,List.eraseIdx_cons_succ,anr,hx',ne_eq,not_false_eq_true,decide_true,if_true];simp only[ig,ne_eq]at h2;rw[h2]
theorem ah9{xs:List Ent}{p:Ent}{ck:Nat}{seen:List Nat}(hb:(xs.map (·.2.2)).Nodup)(hp:p∈xs):mat (ig xs) ck (seen++[p.2.2]) ck=some (.int .i64 p.1,.bool p.2.1,p.2.2):=by
 have key:∀xs:List Ent,(xs.map (·.2.2)).Nodup->p∈xs->(ig xs).find? (λe=>Nat.beq e.2.2 p.2.2)=some (WT p):=by
  intro xs;induction xs with
  |nil=>intro _ h;cases h
  | cons x xs ih =>
    intro hn h;rw[alr,ame]at hn;rcases alj.1 h with h|h
    .subst h;simp[ig,WT]
    .have hne:x.2.2≠p.2.2:=λe=>hn.1 (alg.2 ⟨p,h,e.symm⟩)
     have hbq:Nat.beq x.2.2 p.2.2=false:=by
      cases hh:Nat.beq x.2.2 p.2.2 with
      |false=>rfl
      |true=>exact absurd (aol hh) hne
     simp only[ig,alr,amt];rw[show Nat.beq (WT x).2.2 p.2.2=false from hbq];exact ih hn.2 h
 simp only[mat,List.getLast?_append,List.getLast?_singleton,Option.some_or,if_true];exact key xs hb hp
def agY(f:FuncId)(caps:List AV)(ok:List Blk->Prop)(q:Int->Bool):Prop:=∀(L:List Blk) (x:Int) (b:Bool) (K:AV->List Blk->Prop),ok L->K (.bool (q x)) L->alb f ([.int .i64 x,.bool b]++caps) L K
def G7(xs:List Ent)(q:Int->Bool)(seen:List Nat):List Ent:=xs.filter λp => !(seen.contains p.2.2&&q p.1)
theorem Me{X Y:Type}{f:X->Y}:∀{l:List X},(l.map f).Nodup->∀{a b:X},a∈l->b∈l->f a=f b->a=b
 | x::l,h,a,b,ha,hb,e=>by
   rw[alr,ame]at h;rcases alj.1 ha with h1|h1
   .rcases alj.1 hb with h2|h2
    .rw[h1,h2]
    .exact absurd (alg.2 ⟨b,h2,by rw[<- e,h1]⟩) h.1
   .rcases alj.1 hb with h2|h2
    .exact absurd (alg.2 ⟨a,h1,by rw[e,h2]⟩) h.1
    .exact Me h.2 h1 h2 e
theorem aeR{xs:List Ent}{q:Int->Bool}{seen:List Nat}{p:Ent}(hk:(xs.map (·.1)).Nodup)(hb:(xs.map (·.2.2)).Nodup)(hp:p∈xs)(hq:q p.1=true):(G7 xs q seen).filter (λr=>decide (r.1≠p.1))=G7 xs q (seen++[p.2.2]):=by
 unfold G7;rw[List.filter_filter];refine anU λr hr=>?_
 by_cases e:r=p;subst e;simp[hq];have e1:r.1≠p.1:=λh=>e (Me hk hr hp h)
 have e2:r.2.2≠p.2.2:=λh=>e (Me (f:=λx:Ent=>x.2.2) hb hr hp h)
 simp[e1,e2]
theorem ahA{xs:List Ent}{q:Int->Bool}{seen:List Nat}{p:Ent}(hb:(xs.map (·.2.2)).Nodup)(hp:p∈xs)(hq:q p.1=false):G7 xs q (seen++[p.2.2])=G7 xs q seen:=by
 unfold G7;refine anU λr hr=>?_
 by_cases e:r=p;subst e;simp[hq];have e2:r.2.2≠p.2.2:=λh=>e (Me (f:=λx:Ent=>x.2.2) hb hr hp h)
 simp[e2]
theorem aeS{xs:List Ent}{q:Int->Bool}{seen:List Nat}(h:∀e∈ig (G7 xs q seen),seen.contains e.2.2=true):G7 xs q seen=xs.filter λp => !q p.1:=by
 unfold G7 at h⊢;refine anU λr hr=>?_
 cases hq:q r.1 with
 |false=>simp
 | true =>
   have:seen.contains r.2.2=true:=by
    cases hs:seen.contains r.2.2 with
    |true=>rfl
    | false =>
      have:=h (WT r) (alg.2 ⟨r,alO.2 ⟨hr,by simp only[hs,amA,amX]⟩,rfl⟩);rw[show(WT r).2.2=r.2.2 from rfl,hs]at this;exact this
   simp only[this,alX]
theorem acR{xs:List Ent}{seen:List Nat}{p:Ent}(hp:p∈xs)(hs:seen.contains p.2.2=false):(xs.filter λr => !(seen++[p.2.2]).contains r.2.2).length<(xs.filter λr => !seen.contains r.2.2).length:=by
 have e:(xs.filter λr => !(seen++[p.2.2]).contains r.2.2)=(xs.filter λr => !seen.contains r.2.2).filter (λr=>decide (r.2.2≠p.2.2)):=by
  rw[List.filter_filter];refine anU λr _=>?_
  by_cases h:r.2.2=p.2.2<;>simp[h]
 rw[e];refine aor.2 ⟨p,alO.2 ⟨hp,by rw[hs];rfl⟩,aoA⟩
theorem acf{f:FuncId}{caps:List AV}{ok:List Blk->Prop}{q:Int->Bool}{xs:List Ent}{i ck:Nat}(hq:agY f caps ok q)(hok:∀l c y,ok (L.set i (.map l c)++[y]))(hk:(xs.map (·.1)).Nodup)(hb:(xs.map (·.2.2)).Nodup)(hc:∀p∈xs,p.2.2<ck)(hi:L[i]?=some (.map (ig xs) ck))(h:K (.tup []) (L.set i (.map (ig (xs.filter λp => !q p.1)) ck))):
  alb 42 [.lmap i,.func f caps] L K:=by
 have hil:i<L.length:=(ald.1 hi).1;have hset:L.set i (.map (ig xs) ck)=L:=by
  apply amN;intro j;rw[alC];split;rename_i e;subst e
  first|exact hi.symm|(rw[if_pos hil];exact hi.symm)
  rfl
 replace h:=hid h;replace hq:=hid hq;replace hok:=hid hok;replace hk:=hid hk;replace hb:=hid hb;replace hc:=hid hc;replace hset:=hid hset;refine ala eG ?_;have e0:G7 xs q []=xs:=by simp[G7]
 refine ah (λn T' L'=>∃(seen:List Nat),n=(xs.filter λr => !seen.contains r.2.2).length/\T'=[(7,.ptr L.length 0),(0,.lmap i),(1,.func f caps)]/\L'=L.set i (.map (ig (G7 xs q seen)) ck)++[.miter (some i) ck seen ck]) aoD ⟨[],rfl,rfl,by rw[e0,hset.o]⟩ ?_;clear hi e0;rintro _ _ _ ⟨seen,rfl,rfl,rfl⟩;have i1:∀A B,(L.set i A++[B])[L.length]?=some B:=λA B=>aoA
 have i2:∀A B,(L.set i A++[B])[i]?=some A:=λA B=>by rw[alm (by simpa using hil)];simp[hil]
 have i3:∀A B C,(L.set i A++[B]).set L.length C=L.set i A++[C]:=λA B C=>by have:=yi (L.set i A) B C [];rwa[aod]at this
 have i4:∀A B C,(L.set i A++[B]).set i C=L.set i C++[B]:=λA B C=>by rw[ama _ _ (by simpa using hil),amC]
 refine bu ?_;refine UY (i:=L.length) (j:=i) (es:=ig (G7 xs q seen)) aoB rfl (i1 _ _) (i2 _ _) (λe he=>?_) (ale _) (λhall=>?_) (λe he hs=>?_);obtain⟨p,hp,rfl⟩:=alg.1 he;exact hc.o p (alO.1 hp).1
 .have hfin:=h.o;rw[<- aeS hall]at hfin;replace hfin:=hid hfin;clear hall;refine sk ?_
  repeat' first
   |refine bu ?_
   | (first|refine bj aoB ?_|refine aJ aoB ?_|refine aM ?_|refine cN ?_|refine bE (fun _=>?_)|refine aC ?_|refine bo ?_)
     refine sm ?_
   | (first|refine a8 aoB ?_|refine ba ?_|refine aL ?_|refine bm ?_|refine bJ (aB ?_))
     refine sl ?_
   |exact bF
   |first|apply bG|apply be|apply bH|apply bf|apply bI|apply bg
   |refine aP ?_
   |refine aK ?_
   |first|refine aN rfl ?_|refine aO rfl ?_|refine ax rfl ?_ ?_|refine aT rfl (λ_=>?_) (λ_=>?_)|refine aS rfl (λ_=>?_) (λ_=>?_)
   |((first|refine au (λ_=>?_) (λ_=>?_)|refine aA (λ_=>?_) (λ_=>?_))<;>try refine sm ?_)
   |refine And.intro trivial ?_
   |refine And.intro aoz ?_
   |refine aY rfl (λ_=>?_) (λ_=>?_)
   |refine And.intro ?_ ?_
  exact .inl rfl;refine⟨True,[],rfl,trivial,?_⟩;refine fE (L0:=L) (L1:=L.set i (.map (ig (G7 xs q seen)) ck)) aoA (λhw k hk'=>?_) rfl hfin.o;rcases anA hk' with h1|h1;exact hw k h1;rw[h1];exact ad4 _ _ _
 obtain⟨p,hp,rfl⟩:=alg.1 he;clear he;have hpx:=(alO.1 hp).1;have hs':seen.contains p.2.2=false:=hs;have hlt:=hid (acR hpx hs');have hsub:(G7 xs q seen).Sublist xs:=ane;have hmat:=ah9 (ck:=ck) (seen:=seen) (List.Nodup.sublist (hsub.map (λx:Ent=>x.2.2)) hb.o) hp;obtain⟨jj,hj1,hj2⟩:=aac (G7 xs q seen) p 0 (List.Nodup.sublist (hsub.map (λx:Ent=>x.1)) hk.o) hp;have hy:=hid (λhq'=>aeR (seen:=seen) hk.o hb.o hpx (q:=q) hq');have hn:=hid (λhq'=>ahA (seen:=seen) hb.o hpx (q:=q) hq');rw[amy]at hj1;obtain⟨x,b,m⟩:=p;simp only[WT]at *;clear hs hs' hsub hp;simp only[i3];have hkf:bD .int (.int .i64 x)=true:=rfl;have hle:(L++[Blk.miter (some i) ck [] ck]).length<=(L.set i (Blk.map (ig (G7 xs q seen)) ck)++[Blk.miter (some i) ck (seen++[m]) ck]).length:=aoA;replace hle:=hid hle;refine aoH ?_;refine hq.o _ _ _ _ (hok.o _ _ _) ?_;refine sk ?_;rcases hqx:q x with _|_;have e1:=hid (hn.o hqx);refine wk ?_;refine aoE hlt.o aoD ⟨seen++[m],rfl,rfl,?_⟩;rw[e1.o];have e1:=hid (hy.o hqx);refine wk ?_;refine aoE hlt.o aoD ⟨seen++[m],rfl,rfl,?_⟩;rw[<- e1.o]
def ZW(es:List (AV×AV×Nat))(x:Int):Option Bool:=match d8 (.int .i64 x) es 0 with
 |some (some (_,.bool b))=>some (!b)
 |some none=>some true
 |_=>none
theorem aba{ip j ck:Nat}{es:List (AV×AV×Nat)}(q:Int->Bool)(hes:∀x,ZW es x=some (q x)):agY 43 [.ptr ip 0] (λL=>L[ip]?=some (.cells [.lmap j])/\L[j]?=some (.map es ck)) q:=λL x b K hok h=>by obtain⟨h1,h2⟩:=hok;replace h:=hid h;have hx:=hes x;clear hes;unfold ZW at hx;have hkf:bD .int (.int .i64 x)=true:=rfl;refine ac jt (by simp[dt]) ?_;simp only[dt,am];split at hx;rename_i jj y hm;simp only[alf]at hx;replace hx:=hid hx;refine wk ?_;have h':=h.o;rw[<- hx.o]at h';exact aa h';rename_i hm;simp only[alf]at hx;replace hx:=hid hx;refine wk ?_;have h':=h.o;rw[<- hx.o]at h';exact aa h';cases hx
theorem adA{ip:Nat}:agY 43 [.ptr ip 0] (λL=>L[ip]?=some (.cells [.nilmap])) (λ_=>true):=λL x b K hok h=>by replace h:=hid h;have hkf:bD .int (.int .i64 x)=true:=rfl;refine ala jt ?_;exact aa h.o
open Go Go.Proofs Go.RowKit Go.Maps Go.Sort Go.Shelf
theorem Xm(m:Nat):AnyZI.SortsIn Tryz.prog Tryz.sortedA_ren Fence.wide m :=
 ⟨λblk off cap ss W hH hblk hsz=>callsIn_wide.2 (Tryz.slices_Sort_int blk off cap ss W hH hblk hsz),
  λp cap W=>callsIn_wide.2 (Tryz.slices_Sort_int_none p cap W)⟩
set_option maxHeartbeats 2000000 in
theorem ade{H:Type}(b nn:Nat)(D0:DataW H)(R:Value->Option (DataW H×List MemPlace))(w:World)(hown:w.ownsMap Tryz.prog 3 R b nn D0)(hmax:Maps.size D0<=maxLen)(hbytes:Maps.size D0*8<=140737488355328):
  Calls Tryz.prog 44 #[.map (some b)] w λe w'=>∃(v:Value) (ss:List Int),e=.returned v/\ss.Perm (intKeys D0) /\
   w'.ownsRow w.heap.size 3 1 v ss.length ((ss.mergeSort (λx y=>decide (x<=y))).map encZ)/\(v=.slice none 0 0↔ss=[])/\Below w.heap.size w w':=by
 refine(callsIn_wide (n:=6)).1 ?_;have hbl:=hown.lt;have hseq:SeqGives Fence.wide 2 Tryz.prog 129 #[.pointer (some ⟨w.heap.size,0,none⟩)] encZ (λss=>ss.Perm (intKeys D0)) (Maps.size D0) (w.alloc (.cells #[.map (some b)] 101)):=
  AnyZI.keys_gives (ρ:=Tryz.keysA_ren) {Tryz.keysA with} Fence.wide _ trivial rfl aoz w.heap.size b nn D0 _ aoA aoA (by obtain⟨es,clock,hb,Ft,hs,hD⟩:=hown;exact⟨es,clock,(Below.heap_alloc _ _ b hbl).trans hb,Ft,hs,hD⟩)
 have cK:∀mb W,CallsIn Fence.wide 5 Tryz.prog 88 #[.map mb] W λe w'=>e=.returned (.func (.func 129) #[] #[.pointer (some ⟨W.heap.size,0,none⟩)])/\w'=W.alloc (.cells #[.map mb] 101):=λmb W=>AnyZI.keys_in Tryz.keysA Fence.wide 5 trivial rfl mb W
 have cS:=AnyZI.sorted_in Tryz.sortedA Fence.wide 5 trivial trivial trivial trivial rfl aoz (Xm _) (enters_of Tryz.func105 aoB rfl) 129 #[.pointer (some ⟨w.heap.size,0,none⟩)] trivial (enters_of Tryz.func129 aoB rfl) _ _ hmax hbytes _ hseq;change CallsIn _ _ Tryz.prog 55 _ _ _ at cS;have hfK:Fence.wide.fn 88:=trivial;have hfS:Fence.wide.fn 55:=trivial;refine callsIn_of_wp Tryz.func44 rfl trivial ?_ rfl;simp only[Tryz.ntmps44,anY,alp,al9,Nat.reduceAdd,Nat.reduceSub,Array.replicate_succ,Array.replicate_zero,List.push_toArray,List.append_toArray,alL,alN]
 gi_wp2_with (first
  |(gi_at_call 88;refine(cK _ _).mono ?_;rintro e w' ⟨rfl,rfl⟩)
  |(gi_at_call 55;refine cS.mono ?_;rintro e w' ⟨v,ss,rfl,hS,hrow,hnil,hb⟩))
 go_ret
 exact⟨v,ss,rfl,hS,ownsRow_base_a hrow aoA,hnil,((Below.refl _ w).alloc (ale _) _).trans (hb.mono aoA)⟩
theorem WJ(w:World):Calls Tryz.prog 44 #[.map none] w λe w'=>e=.returned (.slice none 0 0)/\Below w.heap.size w w':=by
 refine(callsIn_wide (n:=6)).1 ?_;have hseq:SeqGives Fence.wide 2 Tryz.prog 129 #[.pointer (some ⟨w.heap.size,0,none⟩)] encZ (λss:List Int=>ss=[]) 0 (w.alloc (.cells #[.map none] 101)):=
  AnyZI.keys_gives_nil (ρ:=Tryz.keysA_ren) {Tryz.keysA with} Fence.wide _ trivial rfl w.heap.size _ aoA aoA
 have cK:∀mb W,CallsIn Fence.wide 5 Tryz.prog 88 #[.map mb] W λe w'=>e=.returned (.func (.func 129) #[] #[.pointer (some ⟨W.heap.size,0,none⟩)])/\w'=W.alloc (.cells #[.map mb] 101):=λmb W=>AnyZI.keys_in Tryz.keysA Fence.wide 5 trivial rfl mb W
 have cS:=AnyZI.sorted_in Tryz.sortedA Fence.wide 5 trivial trivial trivial trivial rfl aoz (Xm _) (enters_of Tryz.func105 aoB rfl) 129 #[.pointer (some ⟨w.heap.size,0,none⟩)] trivial (enters_of Tryz.func129 aoB rfl) _ 0 (ali _) aoz _ hseq;change CallsIn _ _ Tryz.prog 55 _ _ _ at cS;have hfK:Fence.wide.fn 88:=trivial;have hfS:Fence.wide.fn 55:=trivial;refine callsIn_of_wp Tryz.func44 rfl trivial ?_ rfl;simp only[Tryz.ntmps44,anY,alp,al9,Nat.reduceAdd,Nat.reduceSub,Array.replicate_succ,Array.replicate_zero,List.push_toArray,List.append_toArray,alL,alN]
 gi_wp2_with (first
  |(gi_at_call 88;refine(cK _ _).mono ?_;rintro e w' ⟨rfl,rfl⟩)
  |(gi_at_call 55;refine cS.mono ?_;rintro e w' ⟨v,ss,rfl,rfl,hrow,hnil,hb⟩;obtain rfl:v=.slice none 0 0:=hnil.2 rfl))
 go_ret
 exact⟨rfl,((Below.refl _ w).alloc (ale _) _).trans (hb.mono aoA)⟩
theorem Rel.grownNew{w0:World}{S0:SB}{E:Env}{L:List Blk}{w w':World}(h:Rel w0 S0 E L w)(g:tP w w'):
  ∃E',E.le E'/\Rel w0 S0 E' L w'/\∀b o v,w.heap.size<=b->w'.cell? ⟨b,o,none⟩=some v->E'.mem b o=some v:=by
 have h':=h.grown g;have hle:E.le {E with mem:=λb o=>if w.heap.size<=b then w'.cell? ⟨b,o,none⟩else E.mem b o}:=⟨λb o v hv=>by show(if w.heap.size<=b then w'.cell? ⟨b,o,none⟩else E.mem b o)=some v;have:=h.mem_lt hv;rw[if_neg aoz];exact hv,λ_ _ x=>x,λ_ t ht=>⟨t,ht,.inl rfl⟩⟩
 refine⟨_,hle,⟨λb o v hv=>?_,λi k hk=>?_,h'.fresh,λi k c hk hl hc=>⟨λo=>?_,(h'.own i k c hk hl hc).2⟩,h'.inj,h'.tkfresh,λi n sz t d hi ht hd=>⟨λo ho=>?_,(h'.tkown i n sz t d hi ht hd).2⟩,h'.tkloc,h'.tkinj,h'.frame,h'.size,h'.os,h'.tape,h'.output,h'.glob.mono hle.mem,h'.gsz⟩,λb o v hb hv=>?_⟩;have hv:(if w.heap.size<=b then w'.cell? ⟨b,o,none⟩else E.mem b o)=some v:=hv;split at hv;exact hv;exact h'.mem b o v hv;rcases hl:k.live with _|_;exact bz.still (E:=E) hl rfl (λ_ _ _ _ _ _ _=>rfl) (h'.blk i k hk);exact bz.mono hle hl (h'.blk i k hk);have hc:E.loc i=some c:=hc;show(if w.heap.size<=c.blk then w'.cell? ⟨c.blk,o,none⟩else E.mem c.blk o)=none;have:=h.loc_lt hk hl hc;rw[if_neg aoz];exact(h.own i k c hk hl hc).1 o;have ht:E.tok i=some t:=ht;show(if w.heap.size<=d.blk then w'.cell? ⟨d.blk,o,none⟩else E.mem d.blk o)=none;have:=h.tok_lt hi ht hd;rw[if_neg aoz];exact(h.tkown i n sz t d hi ht hd).1 o ho;show(if w.heap.size<=b then w'.cell? ⟨b,o,none⟩else E.mem b o)=some v;rw[if_pos hb];exact hv
theorem Ye{P:Program}{f:FuncId}{fn:Func}(hf:P.funcs[f]?=some fn)(hb:fn.body.isSome=true)(hn:(fn.name == "runtime.NumGoroutine")=false){args:List AV}{r:AV}(hc:∀ (w0:World) (S0:SB) (E:Env) (w:World) (vs:List Value),Rel w0 S0 E L w->VRL E args vs->Calls P f ⟨vs⟩ w fun e w'=>∃ v,e=.returned v/\tP w w'/\∀ E':Env,E.le E'->(∀ b o v,w.heap.size<=b->w'.cell? ⟨b,o,none⟩=some v->E'.mem b o=some v)->VR E' r v)(hk:K r L):ad P f args L K:=fun w0 S0 E w vs hR hv=>by
 refine .inl ⟨?_,(hc w0 S0 E w vs hR hv).mono λe w' ⟨v,h1,h3,h2⟩=>by obtain⟨E',g1,g2,g3⟩:=hR.grownNew h3;exact⟨E',v,r,L,h1,g1,hk,h2 E' g1 g3,g2⟩⟩
 simp only[callFunc,alo,run_program,alq,hf,hn];cases h:fn.body with
 |none=>simp[h]at hb
 |some c=>simp
open Go.RowKit Go.Maps Go.Sort Go.MapKept in
theorem ae9{L:List Blk}{i ck:Nat}{es:List (AV×AV×Nat)}{ks:List Int}(hi:L[i]?=some (.map es ck))(hks:yp es=some ks)(hf:UO es ck ks=true){K:alc}(h:K (.sl ((eA ks).map (AV.int .i64)) ks.length none) L):alb 44 [.lmap i] L K:=by
 refine Ye Tryz.func44 rfl aoB (λw0 S0 E w vs hR hv=>?_) h;simp only[VRL]at hv;obtain⟨v,_,rfl,hv,rfl⟩:=hv;obtain⟨c,rs,hc,rfl,hb,hm⟩:=Mf hR hi hv;obtain⟨hk1,hk2⟩:=XE hm hks;simp only[UO,alk,aln,decide_eq_true_eq]at hf;obtain⟨⟨⟨⟨f1,f2⟩,f3⟩,f4⟩,f5⟩:=hf;have hlen:rs.size=es.length:=by have:=aq.len hm;simpa using this
 have hkl:ks.length=es.length:=by have:=congrArg List.length hk1;simp at this;omega
 have hkey:∀(k:Int),k∈ks->keyOf Tryz.prog 3 (.int .i64 k)=some (.int .i64 k):=λk hk=>by
  have hw:(Lit.int .i64 k).wf=true:=by have:=f1 k hk;simp only[Lit.wf,alk,decide_eq_true_eq];exact this
  unfold keyOf mapKey;rw[show(Tryz.prog).underlying 3=some (.int .i64)from Tryz.underlying3];simp[hw]
 have hmem:∀x∈rs.toList,∃k,k∈ks/\x.key=.int .i64 k:=λx hx=>by have:x.key∈rs.toList.map (·.key):=alg.2 ⟨x,hx,rfl⟩;rw[hk1]at this;obtain⟨k,h1,h2⟩:=alg.1 this;exact⟨k,h1,h2.symm⟩
 have hrd:∀x∈rs.toList,∀k,k∈ks->x.key=.int .i64 k->Go.WideElems.rd Tryz.prog 3 (λ_=>some ((.nil:DataW Unit),[])) x=some (.int .i64 k,.nil):=λx hx k hk e=>by simp[Go.WideElems.rd,e,hkey k hk]
 have hown:w.ownsMap Tryz.prog 3 (λ_=>some ((.nil:DataW Unit),[])) c.blk rs.size (.map ((rs.toList.map (Go.WideElems.rg Tryz.prog 3 (λ_=>some ((.nil:DataW Unit),[])))).foldr DataW.insert [])):=by refine⟨rs,ck,hb,⟨by simp only[maxLen];omega,⟨λx hx=>?_,?_,?_⟩,λx hx=>?_⟩,ale _,rfl⟩;have:x.born∈rs.toList.map (·.born):=alg.2 ⟨x,hx,rfl⟩;rw[hk2]at this;obtain⟨e,h1,h2⟩:=alg.1 this;rw[<- h2];exact f4 e h1;rw[hk2];exact Xz f3;rw[hk1];exact List.Pairwise.map (Value.int .i64) (λa b hab e=>hab (by simpa using e)) (Xx f2);obtain⟨k,h1,h2⟩:=hmem x hx;exact⟨_,hrd x hx k h1 h2⟩
 have hperm:(intKeys (.map ((rs.toList.map (Go.WideElems.rg Tryz.prog 3 (λ_=>some ((.nil:DataW Unit),[])))).foldr DataW.insert []))).Perm ks:=by
  have e1:(rs.toList.map (Go.WideElems.rg Tryz.prog 3 (λ_=>some ((.nil:DataW Unit),[])))).map (λp=>_root_.Go.intOf p.1)=ks:=by
   have e2:rs.toList.map (λx=>_root_.Go.intOf ((Go.WideElems.rg Tryz.prog 3 (λ_=>some ((.nil:DataW Unit),[]))) x).1)=rs.toList.map λx=>(match x.key with|.int _ n=>n|_=>0):=by
    refine amV λx hx=>?_
    obtain⟨k,h1,h2⟩:=hmem x hx;rw[Go.WideElems.rg_of (hrd x hx k h1 h2),h2];rfl
   simp only[alR,anM];rw[e2];have e3:(rs.toList.map (·.key)).map (λv:Value=>match v with|.int _ n=>n|_=>0)=ks:=by rw[hk1,alR];exact List.map_id' ks
   simp only[alR,anM]at e3;exact e3
  have:=(WideShapes.sorted_perm (rs.toList.map (Go.WideElems.rg Tryz.prog 3 (λ_=>some ((.nil:DataW Unit),[]))))).map (λp=>_root_.Go.intOf p.1);rw[e1]at this;exact this
 have hsz:Maps.size (.map ((rs.toList.map (Go.WideElems.rg Tryz.prog 3 (λ_=>some ((.nil:DataW Unit),[])))).foldr DataW.insert []))=rs.size:=by rw[Maps.size_eq,(WideShapes.sorted_perm _).length_eq];simp
 refine(ade c.blk rs.size _ _ w hown (by rw[hsz];simp only[maxLen];omega) (by rw[hsz];omega)).mono ?_;rintro e w' ⟨v,ss,rfl,hS,hrow,hnil,hbel⟩;refine⟨v,rfl,⟨λb hb=>hbel.block b hb,hbel.size,hbel.os,hbel.tape,hbel.output⟩,λE' hE hnew=>?_⟩;have hp:ss.Perm ks:=hS.trans hperm;have hms:ss.mergeSort (λx y=>decide (x<=y))=eA ks:=by rw[<- XK];exact mergeSort_of_perm_i hp
 rw[hms]at hrow;have hl2:ss.length=ks.length:=hp.length_eq;simp only[VR];rcases hrow.2 with⟨rfl,hz⟩|⟨g,cap,cur,rfl,hg,hcur,h1,h2,h3,h4⟩;refine⟨none,0,by rw[hl2]at hz;rw[hz],aoz,(λk hk=>by cases hk),.inl ⟨aoz,rfl,?_⟩⟩;have:(eA ks).length=0:=by rw[(cX ks).length_eq];omega
 rw[alS.1 this];rfl;refine⟨some ⟨g,0,none⟩,cap,by rw[hl2],aoz,(λk hk=>by cases hk),.inr ⟨g,0,rfl,VRC.of_get λj a ha=>?_⟩⟩;obtain⟨z,hz,rfl⟩:=alI.1 (al3 ..▸ha);refine⟨.int .i64 z,?_,by simp[VR]⟩;refine hnew g (0+j) _ hg ?_;have hj:j<(eA ks).length:=(ald.1 hz).1;have h5:(cur.toList.take (ss.length*1))[j]?=some (Value.int .i64 z):=by rw[h4,al3,hz];rfl
 rw[List.getElem?_take]at h5;split at h5;simp only[World.cell?,hcur];simpa using h5;cases h5
theorem aaM(h:K (.sl [] 0 (some 0)) L):alb 44 [.nilmap] L K:=by refine Ye Tryz.func44 rfl aoB (λw0 S0 E w vs hR hv=>?_) h;simp only[VRL,VR]at hv;obtain⟨_,_,rfl,rfl,rfl⟩:=hv;refine(WJ w).mono ?_;rintro e w' ⟨rfl,hbel⟩;refine⟨_,rfl,⟨λb hb=>hbel.block b hb,hbel.size,hbel.os,hbel.tape,hbel.output⟩,λE' hE hnew=>?_⟩;simp only[VR];exact⟨none,0,rfl,ale _,(λk hk=>by cases hk;rfl),.inl aoA⟩
abbrev iq(l:List Int):AV:=.sl (l.map (AV.int .i64)) l.length none
structure Sj(l:List aQ):Prop where
 len:l.length<=1000
 rng:∀e∈l,-9223372036854775808<=e.1/\e.1<=9223372036854775807
def Pt(tm:TMp)(l:List aQ)(n:List UInt8):List Int:=match bB tm (af n)with
 |none=>[]
 |some _=>lG l (af n)
def WR(tm:TMp)(l:List aQ)(n v:List UInt8):List Int:=match bB tm (af n)with
 |none=>[]
 |some ty=>ad3 (ed tm) l (af n) ty.2.1 v
def aid(tm:TMp)(l:List aQ)(n:List UInt8)(ps:List Pc):List Int:=match bB tm (af n)with
 |none=>[]
 |some ty=>Lf (ed tm) l (af n) ty.2.1 ps
theorem ab8{l:List aQ}(h:Sj l){f:List UInt8}:(∀x∈lG l f,-9223372036854775808<=x/\x<=9223372036854775807)/\(lG l f).length<=1000:=by refine⟨λx hx=>?_,?_⟩;obtain⟨a,h1,_⟩:=pU.1 hx;exact h.rng _ h1;unfold lG;rw[alU];exact alF (amQ _ _) h.len
theorem ain{tys:List (List UInt8×Int)}{l:List aQ}(h:Sj l){k:aU}:(∀x∈fP tys l k,-9223372036854775808<=x/\x<=9223372036854775807)/\(fP tys l k).length<=1000:=by refine⟨λx hx=>?_,?_⟩;obtain⟨a,h1,_⟩:=ic.1 hx;exact h.rng _ h1;unfold fP;rw[alU];exact alF (amQ _ _) h.len
theorem YF{L:List Blk}{b:Nat}{P:Int->Prop}(h:sc L b P){l:List Int}(hl:l.Pairwise (· < ·))(hp:∀x,P x↔x∈l)(hi:(∀x∈l,-9223372036854775808<=x/\x<=9223372036854775807)/\l.length<=1000){K:alc}(hk:K (iq l) L):alb 44 [.lmap b] L K:=by obtain⟨es,ck,ks,h1,h2,h3,h4,h5⟩:=h.rise hl hp hi.1 hi.2;refine ae9 h1 h2 h3 ?_;rw[h4,h5];exact hk
theorem RV{L:List Blk}{it:Nat}{tm:TMp}{l:List aQ}{B:Nat->Prop}(ho:IxO L it tm l B){n:List UInt8}(hn:aR n){K:alc}(h:K (.bool (bB tm (af n)).isSome) L):alb 11 [.ptr it 0,.str n] L K:=by
 obtain⟨im,ie,ip,ii,em,ec,pm,pc,dm,dc,h1,h2,h3,h4⟩:=ho;obtain⟨f,hf⟩:=ak7 (af n);have kk1:Hid (Ctr Tryz.prog 38 [.str n] (.str f)):=@hid _ (by intro L K q;exact fO hn (by rw[hf];exact q));rw[hf]at h;have hst:∀X,(L++X)[it]?=some (.cells [.lmap im,.lmap ie,.lmap ip,.lmap ii]):=λX=>(h1.more X).st
 have hty:∀X,(L++X)[im]?=some (.map (a7 AV.str tyV tm) tm.length):=λX=>(h1.more X).ty
 have hst0:=h1.st;have hty0:=h1.ty;have hks:bD .str (.str f)=true:=rfl;rcases c7 (va:=tyV) rb h1.tok f lI with⟨j,⟨w1,w2,w3,w4⟩,q1,q2,_⟩|⟨q1,q2,_⟩;rw[q1]at h;simp only[amu]at h;replace h:=hid h;clear h1 h2 h3 h4 q1;refine ala p5 ?_;refine⟨aF (kk1.o ⟨rfl,rfl⟩) rfl,?_⟩;refine wk ?_;exact ae rfl h.o;rw[q1]at h;simp only[amM]at h;replace h:=hid h;clear h1 h2 h3 h4 q1;refine ala p5 ?_;refine⟨aF (kk1.o ⟨rfl,rfl⟩) rfl,?_⟩;refine wk ?_;exact ae rfl h.o
theorem afU{L:List Blk}{it:Nat}{tm:TMp}{l:List aQ}{B:Nat->Prop}(ho:IxO L it tm l B)(hi:Sj l){n:List UInt8}(hn:aR n){K:alc}(h:K (iq (Pt tm l n)) L):alb 14 [.ptr it 0,.str n] L K:=by
 have kk1:Hid (∀{K:alc},K (.bool (bB tm (af n)).isSome) L->alb 11 [.ptr it 0,.str n] L K):=@hid _ (λ{K} q=>RV ho hn q);have hr:=ho.rise;obtain⟨im,ie,ip,ii,em,ec,pm,pc,dm,dc,h1,h2,h3,h4⟩:=ho;unfold Pt at h;obtain⟨f,hf⟩:=ak7 (af n);have kk2:Hid (Ctr Tryz.prog 38 [.str n] (.str f)):=@hid _ (by intro L K q;exact fO hn (by rw[hf];exact q));rw[hf]at h kk1;have hst:=h1.st;have hpr:=h1.pr;have hks:bD .str (.str f)=true:=rfl;cases hg:bB tm f with
 | none =>
   rw[hg]at h kk1;simp only[amM]at kk1;replace h:=hid h;clear h1 h2 h3 h4 hg hr;refine ala il ?_;exact aW (aa h.o)
 | some ty =>
   rw[hg]at h kk1;simp only[amu]at kk1;have hfm:f∈pm.map (·.1):=(h1.pk f).2 (by obtain⟨c,hc⟩:=f9 hg;exact alg.2 ⟨_,hc,rfl⟩)
   obtain⟨j,b,q1,q2,_⟩:=rQ (va:=AV.lmap) rb 0 h1.pok.keys hfm;rw[amy]at q2;obtain⟨R,hR⟩:=ak7 (lG l f);have kk3:Hid (∀{K:alc},K (iq R) L->alb 44 [.lmap b] L K):=@hid _ (λ{K} q=>YF (h1.ps f b q1) (xL hr) (λx=>Iff.rfl) (ab8 hi) (by rw[hR];exact q));simp only[hR]at h;replace h:=hid h;clear h1 h2 h3 h4 hg hr q1 hfm hR;refine ala il ?_;exact aa h.o
theorem aij{L:List Blk}{it:Nat}{tm:TMp}{l:List aQ}{B:Nat->Prop}(ho:IxO L it tm l B)(hi:Sj l){n v:List UInt8}(hn:aR n){K:alc}(h:K (iq (WR tm l n v)) L):alb 18 [.ptr it 0,.str n,.str v] L K:=by
 have kk1:Hid (∀{K:alc},K (.bool (bB tm (af n)).isSome) L->alb 11 [.ptr it 0,.str n] L K):=@hid _ (λ{K} q=>RV ho hn q);have hr:=ho.rise;obtain⟨im,ie,ip,ii,em,ec,pm,pc,dm,dc,h1,h2,h3,h4⟩:=ho;unfold WR at h;obtain⟨f,hf⟩:=ak7 (af n);have kk2:Hid (Ctr Tryz.prog 38 [.str n] (.str f)):=@hid _ (by intro L K q;exact fO hn (by rw[hf];exact q));rw[hf]at h kk1;have hst:=h1.st;have hty:=h1.ty;have hid':=h1.ids;have hks:bD .str (.str f)=true:=rfl;rcases c7 (va:=tyV) rb h1.tok f lI with⟨j,⟨w1,w2,w3,w4⟩,q1,q2,_⟩|⟨q1,q2,_⟩
 rotate_left
 rw[q1]at h kk1;simp only[amM]at kk1;replace h:=hid h;clear h1 h2 h3 h4 hr q1;refine ala dJ ?_;exact aW (aa h.o);rw[q1]at h kk1;simp only[amu]at kk1;simp only[ad3]at h;have kN:Hid (Ctr Tryz.prog 48 [.int .i64 w2,.str v] (RO (cj w2 v))):=@hid _ (λ{L K} q=>PG q);rcases hno:cj w2 v with _|m;rw[hno]at kN h;have kk3:Hid (Ctr Tryz.prog 48 [.int .i64 w2,.str v] (.tup [.str [],.bool false])):=@hid _ (λ{L K} q=>kN.o q);replace h:=hid h;clear h1 h2 h3 h4 hr q1 kN hno;refine ala dJ ?_;exact aW (aa h.o);rw[hno]at kN h;simp only at h;have kk3:Hid (Ctr Tryz.prog 48 [.int .i64 w2,.str v] (.tup [.str m,.bool true])):=@hid _ (λ{L K} q=>kN.o q);have hk3:bD (.st [.str,.bool,.str]) (.agg [.str f,.bool false,.str m])=true:=rfl;obtain⟨R,hR⟩:=ak7 (fP (ed tm) l (f,false,m));rcases c7 (va:=AV.lmap) xU h1.dok (f,false,m) 0 with⟨j',b,p1,p2,_⟩|⟨p1,p2,_⟩;have kk4:Hid (∀{K:alc},K (iq R) L->alb 44 [.lmap b] L K):=@hid _ (λ{K} q=>YF (h1.ds _ b p1) (SI hr) (λx=>Iff.rfl) (ain hi) (by rw[hR];exact q));simp only[hR]at h;simp only[p9]at p2;replace h:=hid h;clear h1 h2 h3 h4 hr q1 kN hno p1 hR;refine ala dJ ?_;exact aa h.o;have hRn:R=[]:=by rw[<- hR];have:=h1.dn _ p1;exact aom.2 this
 have kk4:Hid (Ctr Tryz.prog 44 [.nilmap] (.sl [] 0 (some 0))):=@hid _ (λ{L K} q=>aaM q);simp only[hR,hRn]at h;simp only[p9]at p2;replace h:=hid h;clear h1 h2 h3 h4 hr q1 kN hno p1 hR hRn;refine ala dJ ?_;exact aW (aa h.o)
theorem adL{xs:List (bc Int Bool)}{ck:Nat}(h:cW xs ck)(ht:∀e∈xs,e.2.1=true)(x:Int):ZW (a7 (AV.int .i64) AV.bool xs) x=some (!(xs.map (·.1)).contains x):=by
 unfold ZW;rcases c7 (va:=AV.bool) ta h x true with⟨j,w,q1,q2,_,q4⟩|⟨q1,q2,_,q4⟩;have hw:w=true:=by obtain⟨c,hc⟩:=f9 q1;exact ht _ hc
 simp only[q2,hw];rw[alQ.2 q4];simp only[q2];have:(xs.map (·.1)).contains x=false:=by
  cases hc:(xs.map (·.1)).contains x with
  |false=>rfl
  |true=>exact absurd (alQ.1 hc) q4
 rw[this];rfl
structure LkS(l:List aQ)(f:List UInt8)(ys:List (bc Int Bool))(ck:Nat)(M:Int->Prop):Prop where
 ok:cW ys ck
 tr:∀e∈ys,e.2.1=true
 mem:∀x,x∈ys.map (·.1)↔x∈lG l f/\M x
theorem LkS.iff{l:List aQ}{f:List UInt8}{ys:List (bc Int Bool)}{ck:Nat}{M M':Int->Prop}(h:LkS l f ys ck M)(e:∀x,M x↔M' x):LkS l f ys ck M':=⟨h.ok,h.tr,λx=>by rw[h.mem,e]⟩
theorem LkS.del{l:List aQ}{f:List UInt8}{ys:List (bc Int Bool)}{ck:Nat}{M:Int->Prop}(h:LkS l f ys ck M)(q:Int->Bool):LkS l f (ys.filter λp => !q p.1) ck (λx=>M x/\q x=false):=by refine⟨h.ok.filter _,λe he=>h.tr e (alO.1 he).1,λx=>?_⟩;rw[alg];constructor;rintro⟨e,he,rfl⟩;obtain⟨h1,h2⟩:=alO.1 he;obtain⟨h3,h4⟩:=(h.mem e.1).1 (alg.2 ⟨e,h1,rfl⟩);exact⟨h3,h4,by simpa using h2⟩;rintro⟨h1,h2,h3⟩;obtain⟨e,he,rfl⟩:=alg.1 ((h.mem x).2 ⟨h1,h2⟩);exact⟨e,alO.2 ⟨he,by simpa using h3⟩,rfl⟩
theorem Mj(t:List UInt8):(af t).length=t.length:=by unfold af;simp
theorem afV{L:List Blk}{it:Nat}{tm:TMp}{l:List aQ}{B:Nat->Prop}(ho:IxO L it tm l B)(hi:Sj l){n:List UInt8}(hn:aR n){ps:List Pc}(hps:ps.length<=1000/\∀p∈ps,p.2.length<=100000){cap:Option Nat}{K:alc}(h:K (iq (aid tm l n ps)) L):alb 13 [.ptr it 0,.str n,.sl (ir ps) ps.length cap] L K:=by
 have kk1:Hid (∀{K:alc},K (.bool (bB tm (af n)).isSome) L->alb 11 [.ptr it 0,.str n] L K):=@hid _ (λ{K} q=>RV ho hn q);have hr:=ho.rise;obtain⟨im,ie,ip,ii,em,ec,pm,pc,dm,dc,h1,h2,h3,h4⟩:=ho;unfold aid at h;obtain⟨f,hf⟩:=ak7 (af n);have kk2:Hid (Ctr Tryz.prog 38 [.str n] (.str f)):=@hid _ (by intro L K q;exact fO hn (by rw[hf];exact q));rw[hf]at h kk1;have hst:=h1.st;have hpr:=h1.pr;have hks:bD .str (.str f)=true:=rfl;rcases c7 (va:=tyV) rb h1.tok f lI with⟨j,⟨w1,w2,w3,w4⟩,q1,q2,_⟩|⟨q1,_⟩
 rotate_left
 rw[q1]at h kk1;simp only[amM]at kk1;replace h:=hid h;clear h1 h2 h3 h4 hr q1;refine ala nN ?_;exact aW (aa h.o)
 .rw[q1]at h kk1;simp only[amu]at kk1;simp only at h;have hfm:f∈pm.map (·.1):=(h1.pk f).2 (by obtain⟨c,hc⟩:=f9 q1;exact alg.2 ⟨_,hc,rfl⟩)
  obtain⟨jb,b,y1,y2,_⟩:=rQ (va:=AV.lmap) rb 0 h1.pok.keys hfm;rw[amy]at y2;obtain⟨xs,ck,s1,s2,s3,s4⟩:=h1.ps f b y1;have kk3:Hid (∀{K:alc},K (.lmap L.length) (L++[lY xs ck])->alb 40 [.lmap b] L K):=@hid _ (λ{K} q=>aa4 s1 q);replace h:=hid h;replace hps:=hid hps;replace h1:=hid h1;replace s4:=hid s4;replace s3:=hid s3;replace s2:=hid s2;replace hr:=hid hr;replace hi:=hid hi;clear h2 h3 h4 q1 hfm y1 s1;have hpl:=K9 ps;obtain⟨PS,hPS⟩:=ak7 (ir ps);have hat:=hid (λk (q:k<ps.length)=>Md q);rw[hPS]at hat hpl⊢;clear hPS;refine ala nN ?_;obtain⟨tys,htys⟩:=ak7 (ed tm);rw[htys]at h h1;obtain⟨ex,hex⟩:=ak7 (decide (w2=2));refine ah (λm T' L'=>∃(i:Nat) (ys:List (bc Int Bool)) (X:List Blk),m=ps.length-i/\i<=ps.length/\Hid (LkS l f ys ck λx=>∀p∈ps.take i,∀g∈bq (pcT ex p),x∈fP tys l (f,true,g))/\T'=[(30,.int .i64 (i:Int)),(29,.int .i64 ps.length),(28,.sl PS ps.length cap),(8,.lmap L.length),(7,.str f),(0,.ptr it 0)]/\L'=L++(lY ys ck::X)) aoD ⟨0,xs,[],rfl,ali _,hid ⟨s2.o,s3.o,λx=>by rw[s4.o];simp⟩,rfl,rfl⟩ ?_;clear kk1 kk2 kk3 hn s2 s3 s4;rintro _ _ _ ⟨i,ys,X0,rfl,hi2,hS,rfl,rfl⟩;have aX:∀(X:List Blk){i:Nat}{b:Blk},L[i]?=some b->(L++X)[i]?=some b:=λX {i b} e=>ak8 e
  have a1:∀X,(L++X)[it]?=some (.cells [.lmap im,.lmap ie,.lmap ip,.lmap ii]):=λX=>aX X hst
  have a2:∀X,(L++X)[im]?=some (.map (a7 AV.str tyV tm) tm.length):=λX=>aX X h1.o.ty
  have a3:∀X,(L++X)[ii]?=some (.map (a7 p9 AV.lmap dm) dc):=λX=>aX X h1.o.ids
  by_cases hlt:i<ps.length
  .have hpb:=hps.o.1;have j1:(i:Int)<(ps.length:Int):=aoz;have j2:=ak9 i aoz;have e3:=hat.o i hlt;have e4:i*2+2<=PS.length:=(by rw[hpl];omega);obtain⟨⟨k,t⟩,hp⟩:∃p,ps.getD i (0,[])=p:=⟨_,rfl⟩;have htb:=hps.o.2 (k,t) (by rw[<- hp];simp[hlt]);simp only at htb;rw[hp]at e3;simp only[pcA]at e3;have htk:ps.take (i+1)=ps.take i++[(k,t)]:=(by rw[aly hlt,<- hp];simp[hlt]);obtain⟨t',ht'⟩:=ak7 (pcT ex (k,t));have hpt:t'.length<=100000:=by rw[<- ht'];unfold pcT;split;exact htb;rw[Mj];exact htb
   have kk1:Hid (Ctr Tryz.prog 41 [.str t'] (G9 (bq t'))):=@hid _ (λ{L K} q=>acr hpt q);have hgb:(bq t').length<=100000:=(by rw[fZ];omega);have hrt:aR t:=(by unfold aR;omega);have kk2:Hid (ex=false->∀{L:List Blk}{K:alc},K (.str t') L->alb 38 [.str t] L K):=@hid _ (λhe {L K} q=>fO hrt (by rw[<- ht',he]at q;exact q));have htt:ex=true->t'=t:=λhe=>by rw[<- ht',he];rfl
   replace htk:=hid htk;replace ht':=hid ht';obtain⟨gs,hgs⟩:=ak7 (bq t');rw[hgs]at kk1 hgb;replace hgs:=hid hgs;replace hgb:=hid hgb;clear hp htb hpt hrt hpb;have hcase:(∃e:w2=2,t'=t)\/(¬w2=2/\Hid (Ctr Tryz.prog 38 [.str t] (.str t'))):=by
    cases hx:ex with
    |true=>exact .inl ⟨of_decide_eq_true (hex.trans hx),htt hx⟩
    |false=>exact .inr ⟨of_decide_eq_false (hex.trans hx),@hid _ (λ{L K} q=>kk2.o hx q)⟩
   clear kk2 htt;replace hex:=hid hex;rcases hcase with⟨hw,rfl⟩|⟨hw,kk2⟩
   all_goals
    refine wk ?_;refine ah (λm T' L'=>∃(j:Nat) (ys:List (bc Int Bool)) (X:List Blk),m=gs.length-j/\j<=gs.length/\Hid (X0.length+1<=X.length)/\Hid (LkS l f ys ck λx=>(∀p∈ps.take i,∀g∈bq (pcT ex p),x∈fP tys l (f,true,g))/\∀g∈gs.take j,x∈fP tys l (f,true,g))/\T'=[(49,.int .i64 (j:Int)),(48,.int .i64 gs.length),(47,.sl (gs.map AV.str) gs.length none),(30,.int .i64 (i:Int)),(29,.int .i64 ps.length),(28,.sl PS ps.length cap),(8,.lmap L.length),(7,.str f),(0,.ptr it 0)]/\L'=L++(lY ys ck::X)) aoD ⟨0,ys,_,rfl,ali _,hid aoA,hid (hS.o.iff λx=>aoA),rfl,rfl⟩ ?_;clear hS kk1;rintro _ _ _ ⟨j,ys,X,rfl,hj,hXl,hS,rfl,rfl⟩;by_cases hjg:j<gs.length
    .have hgb2:=hgb.o;have g1:(j:Int)<(gs.length:Int):=aoz;have g2:=ak9 j aoz;have g3:(gs.map AV.str).getD j .undef=.str (gs.getD j []):=(by simp[hjg]);have g4:j<(gs.map AV.str).length:=(by simpa using hjg);obtain⟨g,hg⟩:=ak7 (gs.getD j []);have htj:gs.take (j+1)=gs.take j++[g]:=(by rw[aly hjg,<- hg];simp[hjg]);rw[hg]at g3;replace htj:=hid htj;obtain⟨GS,hGS⟩:=ak7 (gs.map AV.str);rw[hGS]at g3 g4⊢;clear hg hgb2;have hk3:bD (.st [.str,.bool,.str]) (.agg [.str f,.bool true,.str g])=true:=rfl;rcases c7 (va:=AV.lmap) xU h1.o.dok (f,true,g) 0 with⟨j',b2,p1,p2,_⟩|⟨p1,p2,_⟩
     .obtain⟨zs,ck2,z1,z2,z3,z4⟩:=h1.o.ds _ b2 p1;have hqx:∀x,(!(zs.map (·.1)).contains x)=false↔x∈fP tys l (f,true,g):=λx=>by have e:=z4 x;simp only at e;simp[e]
      have hes:=adL z2 z3;obtain⟨q,hq⟩:∃q:Int->Bool,(λx => !(zs.map (·.1)).contains x)=q:=⟨_,rfl⟩;have hqx2:∀x,q x=false↔x∈fP tys l (f,true,g):=λx=>by rw[<- hq];exact hqx x
      have hes2:∀x,ZW (a7 (AV.int .i64) AV.bool zs) x=some (q x):=λx=>by rw[<- hq];exact hes x
      clear hq hqx hes;have hS2:=hid ((hS.o.del q).iff (M':=λx=>(∀p∈ps.take i,∀g∈bq (pcT ex p),x∈fP tys l (f,true,g))/\∀g∈gs.take (j+1),x∈fP tys l (f,true,g)) λx=>by
       rw[htj.o,and_assoc];refine and_congr_right λ_=>?_
       rw[hqx2 x];simp only[alh,alB];constructor
       .rintro⟨q1,q2⟩ y (hy|rfl)
        .exact q1 y hy
        .exact q2
       .intro u;exact⟨λy hy=>u y (.inl hy),u g (.inr rfl)⟩)
      have kk1:Hid (∀{K:alc},K (.tup []) (L++(lY (ys.filter λp => !q p.1) ck::(X++[.cells [.lmap b2]])))->alb 42 [.lmap L.length,.func 43 [.ptr (L.length+(X.length+1)) 0]] (L++(lY ys ck::(X++[.cells [.lmap b2]]))) K):=@hid _ (λ{K} u=>by
       refine acf (xs:=ys) (ck:=ck) (q:=q) (aba (j:=b2) (ck:=ck2) _ hes2) (λl c y=>⟨?_,?_⟩) hS.o.ok.keys hS.o.ok.born hS.o.ok.lt (by rw[re];rfl) ?_
       .rw[yi,alv,alH aoz,show L.length+(X.length+1)-L.length=X.length+1 by omega,alN,amW,alv];exact re _ _ _
       .rw[yi,alv,alm (ald.1 z1).1];exact z1
       .rw[yi];exact u)
      simp only[p9]at p2;clear z1 z2 z3 z4 p1 hS hqx2 hes2;refine wk ?_;rw[<- hGS];exact aoE aoz (CutL (b:=by simp;have:=hXl.o;omega)) ⟨j+1,_,X++[.cells [.lmap b2]],rfl,hjg,hid (by simp;have:=hXl.o;omega),hS2,rfl,rfl⟩
     .obtain⟨q,hq⟩:∃q:Int->Bool,(λ_=>true)=q:=⟨_,rfl⟩;have hS2:=hid ((hS.o.del q).iff (M':=λx=>(∀p∈ps.take i,∀g∈bq (pcT ex p),x∈fP tys l (f,true,g))/\∀g∈gs.take (j+1),x∈fP tys l (f,true,g)) λx=>by
       constructor
       .rintro⟨_,u⟩;rw[<- hq]at u;cases u
       .rintro⟨_,u⟩;exact absurd (u g (by rw[htj.o];simp)) (h1.o.dn _ p1 x))
      have kk1:Hid (∀{K:alc},K (.tup []) (L++(lY (ys.filter λp => !q p.1) ck::(X++[.cells [.nilmap]])))->alb 42 [.lmap L.length,.func 43 [.ptr (L.length+(X.length+1)) 0]] (L++(lY ys ck::(X++[.cells [.nilmap]]))) K):=@hid _ (λ{K} u=>by
       refine acf (xs:=ys) (ck:=ck) (q:=q) (by rw[<- hq];exact adA) (λl c y=>?_) hS.o.ok.keys hS.o.ok.born hS.o.ok.lt (by rw[re];rfl) ?_
       .rw[yi,alv,alH aoz,show L.length+(X.length+1)-L.length=X.length+1 by omega,alN,amW,alv];exact re _ _ _
       .rw[yi];exact u)
      simp only[p9]at p2;clear p1 hS hq;refine wk ?_;rw[<- hGS];exact aoE aoz (CutL (b:=by simp;have:=hXl.o;omega)) ⟨j+1,_,X++[.cells [.nilmap]],rfl,hjg,hid (by simp;have:=hXl.o;omega),hS2,rfl,rfl⟩
    .have hje:j=gs.length:=aoz;subst hje;have g1:¬(gs.length:Int)<(gs.length:Int):=aoz;have hS2:=hid (hS.o.iff (M':=λx=>∀p∈ps.take (i+1),∀g∈bq (pcT ex p),x∈fP tys l (f,true,g)) λx=>by rw[htk.o,alt];simp only[alh,alB];constructor;rintro⟨q1,q2⟩ p (hp|rfl);exact q1 p hp;rw[ht'.o,hgs.o];exact q2;intro q;refine⟨λp hp=>q p (.inl hp),?_⟩;have:=q _ (.inr rfl);rw[ht'.o,hgs.o]at this;exact this)
     clear hS;refine wk ?_;exact aoE aoz aoC ⟨i+1,_,_,rfl,hlt,hS2,rfl,rfl⟩
  have hie:i=ps.length:=aoz;subst hie;have j1:¬(ps.length:Int)<(ps.length:Int):=aoz;have hlr:(Lf tys l f w2 ps).Pairwise (· < ·):=by unfold Lf;exact List.Pairwise.sublist ane (xL hr.o)
  have hlm:∀x,x∈ys.map (·.1)↔x∈Lf tys l f w2 ps:=λx=>by rw[hS.o.mem,alt];unfold Lf;rw[alO,hex];simp only[aln,alQ]
  have hln:(∀x∈Lf tys l f w2 ps,-9223372036854775808<=x/\x<=9223372036854775807)/\(Lf tys l f w2 ps).length<=1000:=by obtain⟨g1,g2⟩:=ab8 hi.o (f:=f);unfold Lf;exact⟨λx hx=>g1 x (alO.1 hx).1,alF (amQ _ _) g2⟩
  obtain⟨R,hR⟩:=ak7 (Lf tys l f w2 ps);rw[hR]at hlr hlm hln h;have kk1:Hid (∀{K:alc},K (iq R) (L++(lY ys ck::X0))->alb 44 [.lmap L.length] (L++(lY ys ck::X0)) K):=@hid _ (λ{K} q=>YF (P:=λx=>x∈ys.map (·.1)) ⟨ys,ck,aoA,hS.o.ok,hS.o.tr,λx=>Iff.rfl⟩ hlr hlm hln q);clear hlr hlm hln hR hS aX hst a1 a2 a3;refine wk ?_;exact ae (by simp only[AV.refs,dT]) h.o
def akx(v:Int):Int:=if v=0 then 1 else if v=1 then 0 else 2
inductive Flt where
 |mk (kind:Int) (attr val:List UInt8) (ps:List Pc) (kids:List Flt)
def Flt.kind:Flt->Int
 |.mk k _ _ _ _=>k
def Flt.attr:Flt->List UInt8
 |.mk _ a _ _ _=>a
def Flt.val:Flt->List UInt8
 |.mk _ _ v _ _=>v
def Flt.ps:Flt->List Pc
 |.mk _ _ _ p _=>p
def Flt.kids:Flt->List Flt
 |.mk _ _ _ _ l=>l
abbrev ZC:Flt:=.mk 0 [] [] [] []
instance:Inhabited Flt:=⟨ZC⟩
mutual
def fA:Flt->List AV
 |.mk k a v ps ks=>[.int .i64 k,.str a,.str v,.sl (ir ps) ps.length none,.sl (fsA ks) (fsN ks) none]
def fsA:List Flt->List AV
 |[]=>[]
 |f::l=>fA f++fsA l
def fsN:List Flt->Nat
 |[]=>0
 |_::l=>fsN l+1
end
theorem agr:∀l:List Flt,fsN l=l.length
 |[]=>rfl
 |_::l=>by simp only[fsN,alp,agr l]
theorem Lp(k:Int)(a v:List UInt8)(ps:List Pc)(ks:List Flt):fA (.mk k a v ps ks)=[.int .i64 k,.str a,.str v,.sl (ir ps) ps.length none,.sl (fsA ks) ks.length none]:=by rw[fA,agr]
theorem Lq(f:Flt):fA f=[.int .i64 f.kind,.str f.attr,.str f.val,.sl (ir f.ps) f.ps.length none,.sl (fsA f.kids) f.kids.length none]:=by obtain⟨k,a,v,ps,ks⟩:=f;exact Lp k a v ps ks
theorem UP:∀l:List Flt,(fsA l).length=l.length*5
 |[]=>rfl
 |n::l=>by simp only[fsA,alw,UP l,Lq,alp,al9];omega
theorem YN:∀{l:List Flt}{k:Nat},k<l.length->((fsA l).drop (k*5)).take 5=fA (l.getD k ZC)
 |n::l,0,_=>by simp[fsA,Lq]
 | n::l,k+1,h=>by
   have ih:=@YN l k (by simpa using h);have e:(fsA (n::l)).drop ((k+1)*5)=(fsA l).drop (k*5):=by rw[fsA,List.drop_append,Lq];simp only[alp,al9];rw[amU (by simp;omega),alL];congr 1;omega
   rw[e,ih];rfl
theorem ah6(l:List Pc):AV.frzL (ir l)=ir l:=by
 induction l with
 |nil=>rfl
 | cons a l ih =>
   rw[AV.frzL_eq]at ih⊢;simp only[ir,amm,alM]at ih⊢;rw[ih];rfl
mutual
theorem agw:∀n:Flt,AV.frzL (fA n)=fA n
 |.mk k a v ps ks=>by have ih:=acs ks;simp only[fA,AV.frzL,AV.frz,ih,ah6]
theorem acs:∀l:List Flt,AV.frzL (fsA l)=fsA l
 |[]=>rfl
 |n::l=>by have h1:=agw n;have h2:=acs l;rw[AV.frzL_eq]at h1 h2⊢;rw[fsA,alM,h1,h2]
end
def Tr(v:Int):Prop:=v=0\/v=1\/v=2
theorem akW{v:Int}(h:Tr v):akx (akx v)=v:=by rcases h with rfl|rfl|rfl<;>decide
mutual
theorem R3{P:Flt->Prop}(h:∀k a v ps ks,(∀x∈ks,P x)->P (.mk k a v ps ks)):∀f,P f
 |.mk k a v ps ks=>h k a v ps ks (aab h ks)
theorem aab{P:Flt->Prop}(h:∀k a v ps ks,(∀x∈ks,P x)->P (.mk k a v ps ks)):∀(l:List Flt),∀x∈l,P x
 |[],x,hx=>by cases hx
 | f::r,x,hx=>by
   rcases alj.1 hx with e|e
   .rw[e];exact R3 h f
   .exact aab h r x e
end
mutual
def FlB(A V N T M:Nat):Flt->Prop
 |.mk _ a v ps ks=>a.length<=A/\v.length<=V/\ps.length<=N/\(∀p∈ps,p.2.length<=T)/\ks.length<=M/\W6 A V N T M ks
def W6(A V N T M:Nat):List Flt->Prop
 |[]=>True
 |f::r=>FlB A V N T M f/\W6 A V N T M r
end
theorem Sk{A V N T M:Nat}:∀{l:List Flt},W6 A V N T M l->∀x∈l,FlB A V N T M x
 |[],_,x,hx=>by cases hx
 | f::r,h,x,hx=>by
   rw[W6]at h;rcases alj.1 hx with rfl|e
   .exact h.1
   .exact Sk h.2 x e
theorem Y6{A V N T M:Nat}:∀{l:List Flt},(∀x∈l,FlB A V N T M x)->W6 A V N T M l
 |[],_=>by rw[W6];trivial
 |f::r,h=>by rw[W6];exact⟨h f aoA,Y6 λx hx=>h x (by simp[hx])⟩
abbrev aha:Flt->Prop:=FlB 140737488351232 140737488351232 9223372036854775807 140737488351232 9223372036854775807
abbrev WF:Flt->Prop:=FlB 140737488351232 3000 20 100 60
end Go.Proofs.YtcmfcpjnhephaaaGreatDoor.Av
set_option maxRecDepth 100000
namespace Go.Proofs.YtcmfcpjnhephaaaGreatDoor.Av
open Go
def FV:LSO:=[A4 3 0,Ag 6]
def FU:LSO:=[Aa 11 1,Ar 12 11,Ab 13 1 12,Af 14 13 1,Ar 15 11,Ai 1 15 14]
def FT:LSO:=[Aa 16 1,Ar 17 16,Ab 18 1 17,A3 19 18 60,Aa 20 19,.grp none 20 false
 [Aj 21 20 2,A9 22 20 21 64]
 23 (tm 22),Aa 24 23,.grp none 24 false
 [AK 25 24 2 3,AF 26 24 1 25,Bv 27 24 26,A9 28 24 27 3000]
 29 (tm 28),Aa 30 29,.grp none 30 false
 [AK 31 30 3 3,AF 32 30 1 31,Bc 33 30 32,A9 34 30 33 20]
 35 (tm 34),Aa 36 35,.grp none 36 false
 [AK 37 36 4 3,AF 38 36 1 37,Bc 39 36 38,A9 40 36 39 60]
 41 (tm 40)]
def FS:LSO:=[Ag 6]
def FR:LSO:=[Ac 42 3 3,Ab 43 1 42,Ak 44 43,Ad 45 0]
def FQ:LSO:=[Al 46 45 44]
def FP:LSO:=[An 47 2 43 45,Ap 48 2 47,BH 8,Ai 2 8 48]
def FO:LSO:=[Ac 49 1 8,Ab 50 1 49,Ax 51 50,A3 52 51 100]
def FN:LSO:=[Ag 6]
def FM:LSO:=[Af 53 45 1,Aa 45 53]
def xH:LSO:=[Ac 54 4 3,Ab 55 1 54,Ak 56 55,Ad 57 0]
def xG:LSO:=[Al 58 57 56]
def xF:LSO:=[An 59 5 55 57,Ap 60 5 59,AX 10,Ai 5 10 60]
def xE:LSO:=[Ap 61 5 10,Aa 62 1,Aa 63 2,Af 64 63 1,AA 65 57 61 62 64,Ay 66 65]
def xD:LSO:=[Ag 6]
def xC:LSO:=[Af 67 57 1,Aa 57 67]
def xB:LSO:=[Az 6]
def tJ:aG:=⟨68,(aos FV [] (aos FU C6 (.seq (aos FT CF (aou 41 (.sreg FS []))) (.seq (aos FR CD (aov 0 (aos FQ [] (.seq (aow 46 0) (.seq (.block 1 (aos FP Cv (aos FO Cw (aou 52 (.sreg FN []))))) (.sreg FM Cu)))))) (.seq (aos xH CD (aov 2 (aos xG [] (.seq (aow 58 2) (.seq (.block 3 (aos xF Cv (aos xE Cy (aou 66 (.sreg xD []))))) (.sreg xC Cu)))))) (aos xB [] .ret)))))),[(.tmp 6)]⟩
attribute [push_cast] FV FU FT FS FR FQ FP FO FN FM xH xG xF xE xD xC xB
theorem Ti:aox 57=aoy tJ:=aoB
def F8:LSO:=[A4 1 0,Ag 2]
def F7:LSO:=[o1 3 (.alloc [(.int .i64 0)]),Bd 1 3 0]
def F6:LSO:=[Ap 4 5 1,BG 5 57 4 3 1,Aa 2 5]
def tL:aG:=⟨6,(aos F8 [] (aos F7 [] (aos F6 Cv .ret))),[(.tmp 2)]⟩
attribute [push_cast] F8 F7 F6
theorem Tk:aox 25=aoy tL:=aoB
attribute [push_cast] tL
variable {L:List Blk}{K:alc}
set_option maxHeartbeats 8000000
set_option maxRecDepth 100000
theorem ac3:∀(f:Flt),aha f->∀{p:Nat}{n d:Int}{L:List Blk}{K:alc},L[p]?=some (.cells [.int .i64 n])->0<=n->n<=60->1<=d->d<=65->(∀(b:Bool) (m:Int),0<=m->m<=61->(b=true->m<=60/\WF f)->K (.bool b) (L.set p (.cells [.int .i64 m]))) ->
  alb 57 [.agg (fA f),.ptr p 0,.int .i64 d] L K:=by
 refine R3 λk a v ps ks ih hrd p n d L K hL hn0 hn1 hd0 hd1 h=>?_
 simp only[FlB]at hrd;obtain⟨r1,r2,r3,r4,r5,r6⟩:=hrd;replace r6:=hid (Sk r6);replace ih:=hid ih;have hp:p<L.length:=(ald.1 hL).1;have f1:∀X:List Blk,(L++X)[p]?=some (.cells [.int .i64 n]):=λX=>by rw[alm hp];exact hL
 have f2:∀(X:List Blk) A,(L++X).set p A=L.set p A++X:=λX A=>ama _ _ hp
 have f3:∀(X:List Blk) A,(L.set p A++X)[p]?=some A:=λX A=>by rw[alm (by simpa using hp),alC,if_pos rfl,if_pos hp]
 have f4:∀A:Blk,(L.set p A).length=L.length:=λA=>aoA
 have f5:∀(X:List Blk) A,(L.set p A++X)[L.length]?=X[0]?:=λX A=>by rw[alH aoA];simp
 have f6:∀(X:List Blk) A k,(L.set p A++X)[L.length+k]?=X[k]?:=λX A k=>by rw[alH aoA];simp
 have f7:∀(X:List Blk) A k C,(L.set p A++X).set (L.length+k) C=L.set p A++X.set k C:=λX A k C=>by rw[al4 _ _ aoA];simp
 have f8:∀(X:List Blk) A C,(L.set p A++X).set p C=L.set p C++X:=λX A C=>by rw[ama _ _ (by simpa using hp),amC]
 have g0:IntKind.i64.wrap (n+1)=n+1:=ab aoz aoz;have g9:IntKind.i64.wrap (d+1)=d+1:=ab aoz aoz;have fin:∀(X:List Blk) (b:Bool) (m:Int),K (.bool b) (L.set p (.cells [.int .i64 m]))->Fin L (.bool b) (L.set p (.cells [.int .i64 m])++X) K:=λX b m hk =>
  fE (f4 _) (λhh k hk'=>by rcases anA hk' with e|e;exact hh k e;subst e;rfl) rfl hk
 replace fin:=hid fin;replace h:=hid h;rw[Lp];refine ac Ti (by simp[tJ]) ?_;simp only[tJ,am];obtain⟨PS,hPS⟩:∃P,P=ir ps:=⟨_,rfl⟩;obtain⟨KS,hKS⟩:∃P,P=fsA ks:=⟨_,rfl⟩;rw[<- hPS,<- hKS];replace hPS:=hid hPS;replace hKS:=hid hKS
 repeat' first
  |refine bu ?_
  | (first|refine bj aoB ?_|refine aJ aoB ?_|refine aM ?_|refine cN ?_|refine bE (fun _=>?_)|refine aC ?_|refine bo ?_)
    refine sm ?_
  | (first|refine a8 aoB ?_|refine ba ?_|refine aL ?_|refine bm ?_|refine bJ (aB ?_))
    refine sl ?_
  |exact bF
  |first|apply bG|apply be|apply bH|apply bf|apply bI|apply bg
  |refine aP ?_
  |refine aK ?_
  |first|refine aN rfl ?_|refine aO rfl ?_|refine ax rfl ?_ ?_|refine aT rfl (λ_=>?_) (λ_=>?_)|refine aS rfl (λ_=>?_) (λ_=>?_)
  |((first|refine au (λ_=>?_) (λ_=>?_)|refine aA (λ_=>?_) (λ_=>?_))<;>try refine sm ?_)
  |refine And.intro trivial ?_
  |refine And.intro aoz ?_
  |refine aY rfl (λ_=>?_) (λ_=>?_)
  |refine And.intro ?_ ?_
 rename_i hx;exact fin.o _ _ _ (h.o false (n+1) aoz aoz (λe=>by cases e));rename_i hx;have b1:n+1<=60/\d<=64/\v.length<=3000/\ps.length<=20/\ks.length<=60:=by
  refine⟨?_,?_,?_,?_,?_⟩;exact ang.1 λe=>hx (.inl (.inl (.inl (.inl e))))
  exact ang.1 λe=>hx (.inl (.inl (.inl (.inr e))))
  have:=ang.1 λe=>hx (.inl (.inl (.inr e)));omega
  have:=ang.1 λe=>hx (.inl (.inr e));omega
  have:=ang.1 λe=>hx (.inr e);omega
 clear hx;obtain⟨b1,b2,b3,b4,b5⟩:=b1;obtain⟨B,hB⟩:=ak7 (Blk.cells [AV.int IntKind.i64 k,AV.str a,AV.str v,AV.sl PS ps.length none,AV.sl KS ks.length none]);rw[hB];refine ah (λm T' L'=>∃(i:Nat) (X:List Blk),m=ps.length-i/\i<=ps.length/\(∀x∈ps.take i,x.2.length<=100)/\T'=[(45,.int .i64 (i:Int)),(44,.int .i64 ps.length),(43,.sl PS ps.length none),(3,.ptr L.length 0),(1,.ptr p 0),(2,.int .i64 d)]/\L'=L.set p (.cells [.int .i64 (n+1)])++(B::X)) aoD ⟨0,[],rfl,ali _,aoA,rfl,rfl⟩ ?_;rintro _ _ _ ⟨i,X,rfl,hi,hI,rfl,rfl⟩;by_cases hlt:i<ps.length
 .have g1:(i:Int)<(ps.length:Int):=aoz;have g2:=ak9 i aoz;have e3:=Md hlt;have e4:i*2+2<=PS.length:=(by rw[hPS.o,K9];omega);obtain⟨⟨x,t⟩,ha⟩:∃a,ps.getD i (0,[])=a:=⟨_,rfl⟩;have htk:ps.take (i+1)=ps.take i++[(x,t)]:=(by rw[aly hlt,show ps[i]=(x,t)by rw[<- ha];simp[hlt]]);rw[ha,<- hPS.o]at e3;simp only[pcA]at e3;replace hI:=hid hI;clear ha;replace htk:=hid htk;clear hPS
  repeat' first
   |refine bu ?_
   | (first|refine bj aoB ?_|refine aJ aoB ?_|refine aM ?_|refine cN ?_|refine bE (fun _=>?_)|refine aC ?_|refine bo ?_)
     refine sm ?_
   | (first|refine a8 aoB ?_|refine ba ?_|refine aL ?_|refine bm ?_|refine bJ (aB ?_))
     refine sl ?_
   |exact bF
   |first|apply bG|apply be|apply bH|apply bf|apply bI|apply bg
   |refine aP ?_
   |refine aK ?_
   |first|refine aN rfl ?_|refine aO rfl ?_|refine ax rfl ?_ ?_|refine aT rfl (λ_=>?_) (λ_=>?_)|refine aS rfl (λ_=>?_) (λ_=>?_)
   |((first|refine au (λ_=>?_) (λ_=>?_)|refine aA (λ_=>?_) (λ_=>?_))<;>try refine sm ?_)
   |refine And.intro trivial ?_
   |refine And.intro aoz ?_
   |refine aY rfl (λ_=>?_) (λ_=>?_)
   |refine And.intro ?_ ?_
  rename_i hx;exact fin.o _ _ _ (h.o false (n+1) aoz aoz (λe=>by cases e));rename_i hx;refine aoE aoz aoC ⟨i+1,_,rfl,hlt,?_,rfl,rfl⟩;rw[htk.o];intro y hy;rcases alh.1 hy with e|e;exact hI.o y e;rw[alB]at e;subst e;have hx2:¬(100:Int)<(t.length:Int):=hx;show t.length<=100;omega
 have hke:i=ps.length:=aoz;subst hke;have g1:¬(ps.length:Int)<(ps.length:Int):=aoz;rw[alt]at hI;replace hI:=hid hI;subst hB;refine wk ?_;obtain⟨B,hB⟩:=ak7 (Blk.cells [AV.int IntKind.i64 k,AV.str a,AV.str v,AV.sl PS ps.length none,AV.sl KS ks.length none]);rw[hB];refine ah (λm T' L'=>∃(i:Nat) (y:Int) (Y:List Blk),m=ks.length-i/\i<=ks.length/\0<=y/\y<=60/\X.length<=Y.length/\(∀x∈ks.take i,WF x)/\T'=[(57,.int .i64 (i:Int)),(56,.int .i64 ks.length),(55,.sl KS ks.length none),(3,.ptr L.length 0),(1,.ptr p 0),(2,.int .i64 d)]/\L'=L.set p (.cells [.int .i64 y])++(B::Y)) aoD ⟨0,n+1,_,rfl,ali _,aoz,b1,ale _,aoA,rfl,rfl⟩ ?_;rintro _ _ _ ⟨i,y,Y,rfl,hi,hy0,hy1,hXY,hJ,rfl,rfl⟩;by_cases hlt:i<ks.length;have g1:(i:Int)<(ks.length:Int):=aoz;have g2:=ak9 i aoz;have e3:=YN hlt;have e4:i*5+5<=KS.length:=by rw[hKS.o,UP];omega
 obtain⟨q,hq⟩:=ak7 (ks.getD i ZC);have hqm:q∈ks:=by rw[<- hq];simp[hlt]
 have htk:ks.take (i+1)=ks.take i++[q]:=by rw[aly hlt,show ks[i]=q by rw[<- hq];simp[hlt]]
 have hih:∀{p:Nat}{n d:Int}{L:List Blk}{K:alc},L[p]?=some (.cells [.int .i64 n])->0<=n->n<=60->1<=d->d<=65->(∀(b:Bool) (m:Int),0<=m->m<=61->(b=true->m<=60/\WF q)->K (.bool b) (L.set p (.cells [.int .i64 m])))->alb 57 [.agg (fA q),.ptr p 0,.int .i64 d] L K:=λa b c d e f=>ih.o q hqm (r6.o q hqm) a b c d e f
 replace hih:=@hid _ @hih;rw[hq,<- hKS.o]at e3;obtain⟨qk,qa,qv,qp,qs⟩:=q;rw[Lp]at e3;simp only[Lp]at hih;replace hJ:=hid hJ;replace htk:=hid htk;clear hq hqm;clear hKS;refine wk ?_;refine hih.o (f3 _ _) hy0 hy1 aoz aoz λb m hm0 hm1 hb=>?_
 rw[f8];cases b with
 | false =>
   clear hb;refine aoH ?_;exact fin.o _ _ _ (h.o false m hm0 hm1 (λe=>by cases e))
 | true =>
   obtain⟨hb1,hb2⟩:=hb rfl;replace hb2:=hid hb2;clear hb;refine aoH ?_;refine aoE aoz (CutL (b:=by simp;omega)) ⟨i+1,m,_,rfl,hlt,hm0,hb1,by simp;omega,?_,rfl,rfl⟩;rw[htk.o];intro z hz;rcases alh.1 hz with e|e
   .exact hJ.o z e
   .rw[alB]at e;subst e;exact hb2.o
 have hke:i=ks.length:=aoz;subst hke;have g1:¬(ks.length:Int)<(ks.length:Int):=aoz;rw[alt]at hJ;replace hJ:=hid hJ;refine wk ?_;refine fin.o _ _ _ (h.o true y hy0 aoz λ_=>⟨hy1,?_⟩);simp only[WF,FlB];exact⟨r1,b3,b4,hI.o,b5,Y6 hJ.o⟩
theorem aeq{f:Flt}(hf:aha f)(h:∀b:Bool,(b=true->WF f)->K (.bool b) L):
  alb 25 [.agg (fA f)] L K:=by
 obtain⟨k,a,v,ps,ks⟩:=f;have h2:=λ{p:Nat}{n d:Int}{L:List Blk}{K:alc}=>ac3 (.mk k a v ps ks) hf (p:=p) (n:=n) (d:=d) (L:=L) (K:=K)
 replace h:=hid h;replace h2:=@hid _ @h2;clear hf;rw[Lp]at *;refine ala Tk ?_;refine h2.o (show _=some (Blk.cells [AV.int .i64 0])by simp) aoz aoz aoz aoz λb m _ _ hb=>?_
 have h':=hid (h.o b λe=>(hb e).2);simp only[al4 _ _ (aoh _ _),aoj,anK,an9];clear hb;refine aoH ?_;exact ae rfl h'.o
structure ai9(mt jn:List (List Int)->List Int):Prop where
 mtM:∀ls x,x∈mt ls↔ls≠[]/\∀l∈ls,x∈l
 jnM:∀ls x,x∈jn ls↔∃l∈ls,x∈l
 mtR:∀ls,(mt ls).Pairwise (· < ·)
 jnR:∀ls,(jn ls).Pairwise (· < ·)
def fN(wide:Int):Option (List Int)->Option (List Int)
 |none=>none
 |some l=>if wide<(l.length:Int)then none else some l
def az:List (Option (List Int))->List (List Int)
 |[]=>[]
 |none::r=>az r
 |some l::r=>l::az r
def Ww(mt jn:List (List Int)->List Int)(k:Int)(os:List (Option (List Int))):Option (List Int):=
 if k=0 then(if az os=[]then none else some (mt (az os)))else if os.all Option.isSome=true then some (jn (az os))else none
mutual
def aem(mt jn:List (List Int)->List Int)(leaf:Int->List UInt8->List UInt8->List Pc->Option (List Int))(wide:Int):Flt->Option (List Int)
 |.mk k a v ps ks=>fN wide (if k=0\/k=1 then Ww mt jn k (Ya mt jn leaf wide ks)else leaf k a v ps)
def Ya(mt jn:List (List Int)->List Int)(leaf:Int->List UInt8->List UInt8->List Pc->Option (List Int))(wide:Int):List Flt->List (Option (List Int))
 |[]=>[]
 |f::r=>aem mt jn leaf wide f::Ya mt jn leaf wide r
end
theorem Zr:∀{l m:List Int},l.Pairwise (· < ·)->(∀x∈l,x∈m)->l.length<=m.length
 |[],m,_,_=>aoA
 | a::l,m,h,hs=>by
   rw[al2]at h;have ha:=hs a aoA;have:=Zr (l:=l) (m:=m.erase a) h.2 λx hx=>(List.mem_erase_of_ne (λe=>by have:=h.1 x hx;omega)).2 (hs x (by simp[hx]))
   have h2:=List.length_erase_of_mem ha;have h3:=List.length_pos_of_mem ha;simp only[alp];omega
theorem adD{mt jn:List (List Int)->List Int}(hp:ai9 mt jn){k:Int}{os:List (Option (List Int))}{m:List Int}(h:Ww mt jn k os=some m):m.Pairwise (· < ·):=by unfold Ww at h;split at h;split at h;cases h;cases h;exact hp.mtR _;split at h;cases h;exact hp.jnR _;cases h
def ach(tys:List (List UInt8×Int))(ty:List UInt8->Option Int)(L:List aQ)(k:Int)(a v:List UInt8)(ps:List Pc):Option (List Int):=match ty (af a)with
 |none=>none
 |some syn=>if k=3\/k=8 then some (ad3 tys L (af a) syn v)else if k=7 then some (lG L (af a))else if k=4/\syn<=3/\qX ps=true then some (Lf tys L (af a) syn ps)else none
end Go.Proofs.YtcmfcpjnhephaaaGreatDoor.Av
set_option maxRecDepth 100000
namespace Go.Proofs.YtcmfcpjnhephaaaGreatDoor.Av
open Go
def gR:List aj :=
 [⟨(some 2),(.mv (.av (.sl [] 0 (some 0)))),none⟩]
def gQ:List aj :=
 [⟨(some 3),(.mv (tm 0)),none⟩,⟨(some 4),(.slnil false (tm 3)),none⟩]
def gP:List aj :=
 [⟨(some 2),(.mv (.av (.sl [] 0 (some 0)))),none⟩]
def gO:List aj :=
 [⟨(some 5),(.bslice false 1 0 [] []),none⟩,⟨(some 6),(.mv (tm 0)),none⟩,⟨(some 7),(.app 2 1 8 [(.int .i64 0)] (tm 5) (tm 6)),none⟩,⟨(some 2),(.mv (tm 7)),none⟩]
def cV:aG:=⟨8,(.seq (.region gR) (.seq (.seq (.region gQ) (aou 4 (.region gP))) (.seq (.region gO) .ret))),[(.tmp 2)]⟩
attribute [push_cast] gR gQ gP gO
theorem gF:aI Tryz.prog (λr i=>if r=3/\i=2 then 2 else 1) 114=some cV.raw:=aoB
def eR:List aj :=
 [⟨(some 4),(.mv (.av (.sl [] 0 (some 0)))),none⟩]
def eQ:List aj :=
 [⟨(some 8),(.mv (tm 0)),none⟩,⟨(some 9),(.mv (tm 1)),none⟩,⟨(some 10),(.call 116 [(tm 8),(tm 9)]),none⟩,⟨(some 5),(.mv (tm 10)),none⟩]
def eP:List aj :=
 [⟨(some 11),(.mv (tm 5)),none⟩,⟨(some 12),(.bin .eql (tm 11) (iv (-1))),none⟩]
def eO:List aj :=
 [⟨(some 13),(.mv (tm 0)),none⟩,⟨(some 4),(.mv (tm 13)),none⟩]
def eN:List aj :=
 [⟨(some 14),(.mv (tm 5)),none⟩,⟨(some 15),(.bin .add (tm 14) (iv 1)),none⟩,⟨(some 6),(.mv (tm 15)),none⟩]
def eM:List aj :=
 [⟨(some 16),(.mv (tm 6)),none⟩,⟨(some 17),(.mv (tm 0)),none⟩,⟨(some 18),(.len false (tm 17)),none⟩,⟨(some 19),(.bin .lss (tm 16) (tm 18)),none⟩]
def eL:List aj :=
 [⟨(some 22),(.mv (tm 0)),none⟩,⟨(some 23),(.mv (tm 6)),none⟩,⟨(some 24),(.iaddr 1 (tm 22) (tm 23)),none⟩,⟨(some 25),(.load false 1 (tm 24)),none⟩,⟨(some 7),(.mv (tm 25)),none⟩]
def eK:List aj :=
 [⟨(some 26),(.mv (tm 1)),none⟩,⟨(some 27),(.mv (tm 7)),none⟩,⟨(some 28),(.callv (tm 26) [(tm 27)]),none⟩,⟨(some 29),(.un .not (tm 28)),none⟩]
def eJ:List aj :=
 [⟨(some 30),(.mv (tm 0)),none⟩,⟨(some 31),(.mv (tm 5)),none⟩,⟨(some 32),(.mv (tm 7)),none⟩,⟨(some 33),(.iaddr 1 (tm 30) (tm 31)),none⟩,⟨none,(.store 1 (tm 33) (tm 32)),none⟩]
def eI:List aj :=
 [⟨(some 34),(.mv (tm 5)),none⟩,⟨(some 35),(.bin .add (tm 34) (iv 1)),none⟩,⟨(some 5),(.mv (tm 35)),none⟩]
def ek:List aj :=
 [⟨(some 20),(.mv (tm 6)),none⟩,⟨(some 21),(.bin .add (tm 20) (iv 1)),none⟩,⟨(some 6),(.mv (tm 21)),none⟩]
def eh:List aj :=
 [⟨(some 36),(.mv (tm 0)),none⟩,⟨(some 37),(.mv (tm 5)),none⟩,⟨(some 38),(.slV 1 (tm 36) (some (tm 37)) none none),none⟩,⟨none,(.clear 1 [(.int .i64 0)] (tm 38)),none⟩]
def eg:List aj :=
 [⟨(some 39),(.mv (tm 0)),none⟩,⟨(some 40),(.mv (tm 5)),none⟩,⟨(some 41),(.slV 1 (tm 39) none (some (tm 40)) none),none⟩,⟨(some 4),(.mv (tm 41)),none⟩]
def cm:aG:=⟨42,(.seq (.region eR) (.seq (.region eQ) (.seq (.seq (.region eP) (aou 12 (.region eO))) (.seq (.seq (.region eN) (aov 0 (.seq (.seq (.region eM) (aow 19 0)) (.seq (.block 1 (.seq (.region eL) (.seq (.region eK) (aot 29 (.seq (.region eJ) (.region eI)) .skip)))) (.region ek))))) (.seq (.region eh) (.seq (.region eg) .ret)))))),[(.tmp 4)]⟩
attribute [push_cast] eR eQ eP eO eN eM eL eK eJ eI ek eh eg
theorem eC:aox 67=aoy cm:=aoB
def fq:List aj :=
 [⟨(some 4),(.mv (iv 0)),none⟩]
def fp:List aj :=
 [⟨(some 6),(.mv (tm 0)),none⟩,⟨(some 7),(.len false (tm 6)),none⟩,⟨(some 8),(.mv (iv 0)),none⟩]
def fo:List aj :=
 [⟨(some 9),(.bin .lss (tm 8) (tm 7)),none⟩]
def fm:List aj :=
 [⟨(some 10),(.mv (tm 8)),none⟩,⟨(some 5),(.mv (tm 10)),none⟩]
def fk:List aj :=
 [⟨(some 11),(.mv (tm 1)),none⟩,⟨(some 12),(.mv (tm 0)),none⟩,⟨(some 13),(.mv (tm 5)),none⟩,⟨(some 14),(.iaddr 1 (tm 12) (tm 13)),none⟩,⟨(some 15),(.load false 1 (tm 14)),none⟩,
 ⟨(some 16),(.callv (tm 11) [(tm 15)]),none⟩]
def fj:List aj :=
 [⟨(some 17),(.mv (tm 5)),none⟩,⟨(some 4),(.mv (tm 17)),none⟩]
def fi:List aj :=
 [⟨(some 18),(.bin .add (tm 8) (iv 1)),none⟩,⟨(some 8),(.mv (tm 18)),none⟩]
def fh:List aj :=
 [⟨(some 4),(.mv (iv (-1))),none⟩]
def cv:aG:=⟨19,(.seq (.region fq) (.seq (.seq (.region fp) (aov 0 (.seq (.region fo) (.seq (aow 9 0) (.seq (.block 1 (.seq (.region fm) (.seq (.region fk) (aou 16 (.region fj))))) (.region fi)))))) (.seq (.region fh) .ret))),[(.tmp 4)]⟩
attribute [push_cast] fq fp fo fm fk fj fi fh
theorem eT:aox 116=aoy cv:=aoB
end Go.Proofs.YtcmfcpjnhephaaaGreatDoor.Av
set_option maxRecDepth 100000
namespace Go.Proofs.YtcmfcpjnhephaaaGreatDoor.Av
open Go
def JI:LSO:=[Ah 2]
def JH:LSO:=[Aa 4 0,Am 5 114 4,Aa 3 5]
def JG:LSO:=[Aa 6 3,Am 7 105 6]
def JF:LSO:=[Aa 8 3,Am 9 115 8,Aa 2 9]
def fa:aG:=⟨10,(aos JI [] (aos JH Cv (aos JG C3 (aos JF Cv .ret)))),[(.tmp 2)]⟩
attribute [push_cast] JI JH JG JF
theorem qg:aox 66=aoy fa:=aoB
def N9:LSO:=[Ah 2]
def N8:LSO:=[Aa 7 0,Ak 8 7,Ao 9 8 0]
def N7:LSO:=[Ah 2]
def N6:LSO:=[Aa 10 0,o1 11 (.iaddr 1 (tm 10) (iv 0)),Ab 12 1 11,Am 13 66 12,Aa 3 13]
def N5:LSO:=[Aa 14 0,o1 15 (.slV 1 (tm 14) (some (iv 1)) none none),Ak 16 15,Ad 17 0]
def N4:LSO:=[Al 18 17 16]
def N3:LSO:=[An 19 1 15 17,Ab 20 1 19,Aa 5 20]
def N2:LSO:=[Aa 21 5,Am 22 66 21,o1 6 (.alloc [(.sl [] 0 (some 0))]),Ai 1 6 22]
def N1:LSO:=[Aa 23 3,o1 24 (.mkfn 68 [(tm 6)]),Aq 25 67 23 24,Aa 3 25]
def N0:LSO:=[Af 26 17 1,Aa 17 26]
def JT:LSO:=[Aa 27 3,Aa 2 27]
def LH:aG:=⟨28,(aos N9 [] (.seq (aos N8 Cv (aou 9 (.sreg N7 []))) (aos N6 Cx (.seq (aos N5 CD (aov 0 (aos N4 [] (.seq (aow 18 0) (.seq (.block 1 (aos N3 Cv (aos N2 Cv (.sreg N1 Cw)))) (.sreg N0 Cu)))))) (aos JT Cu .ret))))),[(.tmp 2)]⟩
attribute [push_cast] N9 N8 N7 N6 N5 N4 N3 N2 N1 N0 JT
theorem Wj:aox 29=aoy LH:=aoB
def FA:LSO:=[Ag 3]
def Fz:LSO:=[Ab 7 1 1,Aa 8 0,Aq 9 69 7 8,Aa 6 9,As 10 6,Aw 11 6,Aa 4 10,Aa 5 11]
def Fy:LSO:=[Aa 12 5,Ay 13 12,Aa 3 13]
def tH:aG:=⟨14,(aos FA [] (aos Fz C2 (aos Fy Cv .ret))),[(.tmp 3)]⟩
attribute [push_cast] FA Fz Fy
theorem Tg:aox 68=aoy tH:=aoB
def Ob:LSO:=[Ah 2]
def Oa:LSO:=[Aa 3 0,Am 4 153 3,Am 5 66 4,Aa 2 5]
def LI:aG:=⟨6,(aos Ob [] (aos Oa Cw .ret)),[(.tmp 2)]⟩
attribute [push_cast] Ob Oa
theorem Wk:aox 108=aoy LI:=aoB
def gC:LSO:=[Ah 2]
def gB:LSO:=[Ad 3 0]
def gA:LSO:=[Aa 9 0,Ak 10 9,Ad 11 0]
def gz:LSO:=[Al 12 11 10]
def gy:LSO:=[An 13 1 9 11,Ab 14 1 13,Aa 5 14]
def gx:LSO:=[Aa 15 3,Aa 16 5,Ak 17 16,AY 18 15 17,Aa 3 18]
def gw:LSO:=[Aa 19 3,AD 20 19 0]
def gv:LSO:=[o1 21 (.mkif 9 (.av (.str [108,101,110,32,111,117,116,32,111,102,32,114,97,110,103,101]))),
 .op ⟨none,.bad,none⟩]
def gu:LSO:=[Af 22 11 1,Aa 11 22]
def gr:LSO:=[Aa 23 3,o1 24 (.call 190 [(.av (.sl [] 0 (some 0))),(tm 23)]),Aa 6 24]
def fX:LSO:=[Aa 25 0,Ak 26 25,Ad 27 0]
def fW:LSO:=[Al 28 27 26]
def fV:LSO:=[An 29 1 25 27,Ab 30 1 29,Aa 8 30]
def fU:LSO:=[Aa 31 6,Aa 32 8,Bj 33 31 32,Aa 6 33]
def fT:LSO:=[Af 34 27 1,Aa 27 34]
def fS:LSO:=[Aa 35 6,Aa 2 35]
def eD:aG:=⟨36,(aos gC [] (aos gB [] (.seq (aos gA [] (aov 0 (aos gz [] (.seq (aow 12 0) (.seq (.block 1 (aos gy Cv (aos gx Cx (aos gw Cu (aot 20 (.sreg gv CA) .skip))))) (.sreg gu Cu)))))) (aos gr Cv (.seq (aos fX [] (aov 2 (aos fW [] (.seq (aow 28 2) (.seq (.block 3 (aos fV Cv (.sreg fU Cw))) (.sreg fT Cu)))))) (aos fS Cu .ret)))))),[(.tmp 2)]⟩
attribute [push_cast] gC gB gA gz gy gx gw gv gu gr fX fW fV fU fT fS
theorem rU:aox 153=aoy eD:=aoB
def KL:LSO:=[Ag 4]
def KK:LSO:=[Aa 6 0,Ak 7 6,Aa 8 1,Ak 9 8,BV 10 7 9]
def KJ:LSO:=[Ag 4]
def KI:LSO:=[Aa 11 0,Ak 12 11,Ad 13 0]
def KH:LSO:=[Al 14 13 12]
def KG:LSO:=[Aa 15 13,Aa 5 15]
def KF:LSO:=[Aa 16 0,Aa 17 5,An 18 1 16 17,Ab 19 1 18,Aa 20 1,Aa 21 5,An 22 1 20 21,Ab 23 1 22,BV 24 19 23]
def KE:LSO:=[Ag 4]
def KD:LSO:=[Af 25 13 1,Aa 13 25]
def KC:LSO:=[Az 4]
def yU:aG:=⟨26,(aos KL [] (.seq (aos KK Cx (aou 10 (.sreg KJ []))) (.seq (aos KI Cz (aov 0 (aos KH [] (.seq (aow 14 0) (.seq (.block 1 (aos KG Cu (.seq (.sdreg KF [.pure,.pure,(.read 0 0),(.read 0 0),.pure,.pure,(.read 0 0),(.read 0 0)] CG) (aou 24 (.sreg KE []))))) (.sreg KD Cu)))))) (aos KC [] .ret)))),[(.tmp 4)]⟩
attribute [push_cast] KL KK KJ KI KH KG KF KE KD KC
theorem UF:aox 22=aoy yU:=aoB
end Go.Proofs.YtcmfcpjnhephaaaGreatDoor.Av
set_option maxRecDepth 100000
namespace Go.Proofs.YtcmfcpjnhephaaaGreatDoor.Av
open Go
variable {L L' X:List Blk}{i n b:Nat}{xs ys m:List Int}{rest caps:List AV}{f:FuncId}{cp cap:Option Nat}{ok:List Blk->Prop}{q:Int->Bool}{v:AV}{ls:List (List Int)}
def Qy:LSO:=[Ag 4]
def Qx:LSO:=[Aa 7 0,Ak 8 7,Ad 9 0]
def Qw:LSO:=[Al 10 9 8]
def Qv:LSO:=[An 11 1 7 9,Ab 12 1 11,Aa 6 12]
def Qu:LSO:=[Aa 13 6,Aa 14 1,AC 15 13 14]
def Qt:LSO:=[Az 4]
def Qs:LSO:=[Af 16 9 1,Aa 9 16]
def Qr:LSO:=[Ag 4]
def PY:aG:=⟨17,(aos Qy [] (.seq (aos Qx [] (aov 0 (aos Qw [] (.seq (aow 10 0) (.seq (.block 1 (aos Qv Cv (aos Qu Cv (aou 15 (.sreg Qt []))))) (.sreg Qs Cu)))))) (aos Qr [] .ret))),[(.tmp 4)]⟩
attribute [push_cast] Qy Qx Qw Qv Qu Qt Qs Qr
theorem WU:aox 110=aoy PY:=aoB
def MJ:LSO:=[Ah 4]
def MI:LSO:=[Ah 5]
def MH:LSO:=[Ag 6]
def MG:LSO:=[Aa 9 0,Ak 10 9,Ad 11 0]
def MF:LSO:=[Al 12 11 10]
def ME:LSO:=[An 13 1 9 11,Ab 14 1 13,Aa 8 14]
def MD:LSO:=[Aa 15 8,Aa 16 1,AC 17 15 16]
def MC:LSO:=[Aa 18 0,Aa 4 18]
def MB:LSO:=[Aa 19 6,Ay 20 19,Aa 21 20,.grp none 21 true
 [Ae 22 21 1,Ae 23 21 8,Bn 24 21 22 23]
 25 (tm 24)]
def MA:LSO:=[Aa 26 5,Aa 27 1,Bq 28 27,Bj 29 26 28,Aa 5 29]
def Hh:LSO:=[Az 6]
def Hg:LSO:=[Aa 30 5,Aa 31 8,Bq 32 31,Bj 33 30 32,Aa 5 33]
def Hf:LSO:=[Af 34 11 1,Aa 11 34]
def He:LSO:=[Aa 35 6,Ay 36 35]
def Hd:LSO:=[Aa 37 5,Aa 38 1,Bq 39 38,Bj 40 37 39,Aa 5 40]
def Hc:LSO:=[Aa 41 5,Aa 4 41]
def Lv:aG:=⟨42,(aos MJ [] (aos MI [] (aos MH [] (.seq (aos MG [] (aov 0 (aos MF [] (.seq (aow 12 0) (.seq (.block 1 (aos ME Cv (.seq (aos MD Cv (aou 17 (.sreg MC Cu))) (.seq (aos MB Cw (aot 25 (aos MA Cx (.sreg Hh [])) .skip)) (.sreg Hg Cx))))) (.sreg Hf Cu)))))) (.seq (aos He Cu (aot 36 (.sreg Hd Cx) .skip)) (aos Hc Cu .ret)))))),[(.tmp 4)]⟩
attribute [push_cast] MJ MI MH MG MF ME MD MC MB MA Hh Hg Hf He Hd Hc
theorem V9:aox 111=aoy Lv:=aoB
def HB:LSO:=[Ah 2]
def HA:LSO:=[Ah 3]
def Hz:LSO:=[Aa 8 0,Ak 9 8,Ad 10 0]
def Hy:LSO:=[Al 11 10 9]
def Hx:LSO:=[An 12 1 8 10,Ab 13 1 12,Aa 5 13]
def Hw:LSO:=[Aa 14 5,Ak 15 14,Ad 16 0]
def Hv:LSO:=[Al 17 16 15]
def Hu:LSO:=[An 18 1 14 16,Ab 19 1 18,Aa 7 19]
def Ht:LSO:=[Aa 20 3,Aa 21 7,Aq 22 111 20 21,Aa 3 22]
def Hs:LSO:=[Af 23 16 1,Aa 16 23]
def zo:LSO:=[Af 24 10 1,Aa 10 24]
def zn:LSO:=[Aa 25 3,Aa 2 25]
def yE:aG:=⟨26,(aos HB [] (aos HA [] (.seq (aos Hz [] (aov 0 (aos Hy [] (.seq (aow 11 0) (.seq (.block 1 (aos Hx Cv (aos Hw [] (aov 2 (aos Hv [] (.seq (aow 17 2) (.seq (.block 3 (aos Hu Cv (.sreg Ht Cw))) (.sreg Hs Cu)))))))) (.sreg zo Cu)))))) (aos zn Cu .ret)))),[(.tmp 2)]⟩
attribute [push_cast] HB HA Hz Hy Hx Hw Hv Hu Ht Hs zo zn
theorem Uq:aox 61=aoy yE:=aoB
def Hr:LSO:=[Ah 2]
def Hq:LSO:=[Ah 3]
def Hp:LSO:=[Aa 9 0,Am 10 61 9,Ak 11 10,Ad 12 0]
def Ho:LSO:=[Al 13 12 11]
def Hn:LSO:=[An 14 1 10 12,Ab 15 1 14,Aa 5 15]
def Hm:LSO:=[Az 6]
def Hl:LSO:=[Aa 16 0,Ak 17 16,Ad 18 0]
def Hk:LSO:=[Al 19 18 17]
def Hj:LSO:=[An 20 1 16 18,Ab 21 1 20,Aa 8 21]
def Hi:LSO:=[Aa 22 6,Aa 23 22,.grp none 23 true
 [Ae 24 23 8,Ae 25 23 5,B4 26 23 110 24 25]
 27 (tm 26),Aa 6 27]
def zm:LSO:=[Af 28 18 1,Aa 18 28]
def zl:LSO:=[Aa 29 6]
def zk:LSO:=[Aa 30 3,Aa 31 5,Bq 32 31,Bj 33 30 32,Aa 3 33]
def zj:LSO:=[Af 34 12 1,Aa 12 34]
def zi:LSO:=[Aa 35 3,Aa 2 35]
def yD:aG:=⟨36,(aos Hr [] (aos Hq [] (.seq (aos Hp CD (aov 0 (aos Ho [] (.seq (aow 13 0) (.seq (.block 1 (aos Hn Cv (aos Hm [] (.seq (aos Hl [] (aov 2 (aos Hk [] (.seq (aow 19 2) (.seq (.block 3 (aos Hj Cv (.sreg Hi Cw))) (.sreg zm Cu)))))) (aos zl [] (aot 29 (.sreg zk Cx) .skip)))))) (.sreg zj Cu)))))) (aos zi Cu .ret)))),[(.tmp 2)]⟩
attribute [push_cast] Hr Hq Hp Ho Hn Hm Hl Hk Hj Hi zm zl zk zj zi
theorem Up:aox 60=aoy yD:=aoB
attribute [push_cast] cV cm cv fa tH LI eD PY Lv yE yD
open Go Go.Sort
variable {L:List Blk}{K:alc}
theorem Sp{k:Blk}(h:L[i]?=some k):L.set i k=L:=by apply amN;intro j;rw[alC];split;rename_i e;subst e;have hi:=(ald.1 h).1;rw[if_pos hi,h];rfl
theorem Rel.putInts{w0:World}{S0:SB}{E:Env}{w:World}(h:Rel w0 S0 E L w){d:List Int}{c:Loc}(hi:L[i]?=some (.cells (bx xs++rest)))(hc:E.loc i=some c)(hd:d.length=xs.length)(q:Nat):
  Rel w0 S0 E (L.set i (.cells (bx d++rest))) (putRow (Value.int .i64) (Sort.ahead w q) c.blk c.off d.toArray):=by
 obtain⟨c',cs,ty,fr,h1,h2,h3,h4,h5,h6⟩:=h.blk i _ hi;rw[hc]at h1;cases h1;have hlt:c.blk<w.heap.size:=(ami.1 h2).1;have e1:(putRow (Value.int .i64) (Sort.ahead w q) c.blk c.off d.toArray).heap[c.blk]?=some (.cells (putCells (Value.int .i64) c.off d.toArray cs) ty fr):=by simp[putRow,mapBlock,Sort.ahead,anf,h2,onCells]
 have hlen:(bx xs++rest).length=xs.length+rest.length:=aoA;refine h.turn (k':=.cells (bx d++rest)) hi rfl hc aoA (λb hb=>?_) rfl rfl rfl ⟨c,_,ty,fr,hc,e1,by simp[putCells,h3],?_,λj a ha=>?_,h6⟩ (λ_ _ e=>by cases e);have:c.blk≠b:=λe=>hb e.symm
 simp[putRow,mapBlock,Sort.ahead,anf,this];rw[hlen]at h4;simp only[alw,alU,hd];omega;rw[hlen]at h4;have hj:j<d.length+rest.length:=by have:=(ald.1 ha).1;simpa using this
 have hcs:c.off+j<cs.size:=aoz;have ep:(putCells (Value.int .i64) c.off d.toArray cs)[c.off+j]?=some (if c.off<=c.off+j/\c.off+j<c.off+d.length then Value.int .i64 (d.toArray[c.off+j-c.off]!)else cs[c.off+j]):=by simp[putCells,hcs]
 by_cases hjd:j<d.length;have ea:a=.int .i64 d[j]:=by rw[alm (by simpa using hjd)]at ha;simpa[hjd]using ha.symm
 subst ea;refine⟨_,ep,?_⟩;rw[if_pos aoz,show c.off+j-c.off=j by omega];simp[VR,hjd];have ha':(bx xs++rest)[j]?=some a:=by rw[alH (by simp;omega)]at ha⊢;simpa[hd]using ha
 obtain⟨v,g1,g2⟩:=h5 j a ha';refine⟨v,?_,g2⟩;rw[ep,if_neg aoz,<- g1];simp[hcs]
theorem Xh{w0:World}{S0:SB}{E:Env}{w:World}(h:Rel w0 S0 E L w){c:Loc}(hi:L[i]?=some (.cells (bx xs++rest)))(hc:E.loc i=some c):
  Holds (Value.int .i64) w c.blk c.off xs.toArray/\c.blk<w.heap.size:=by
 obtain⟨c',cs,ty,fr,h1,h2,h3,h4,h5,h6⟩:=h.blk i _ hi;rw[hc]at h1;cases h1;refine⟨λj hj=>?_,(ami.1 h2).1⟩;have hj':j<xs.length:=by simpa using hj
 obtain⟨v,g1,g2⟩:=h5 j (.int .i64 xs[j]) (by rw[alm (by simpa using hj')];simp[hj']);simp only[VR]at g2;subst g2;refine⟨by simp[World.cell?,h2,g1,hj'],?_⟩;have h7:=h6 (c.off+j) aoz (by simp only[alw,alU]at h4;omega);simp only[World.frozen?,h2];obtain⟨f1,f2⟩:=fr;simp only at h7;simp only[anw,decide_eq_false_iff_not];omega
theorem rT{P:Program}{fn:Func}(hf:P.funcs[f]?=some fn)(hb:fn.body.isSome=true)(hn:(fn.name == "runtime.NumGoroutine")=false)(args:Array Value)(w:World):(callFunc f args).run P w=.ok (.enter f args) w:=by
 simp only[callFunc,alo,run_program,alq,hf,hn];cases h:fn.body with
 |none=>simp[h]at hb
 |some c=>simp
theorem ajl(hx:xs≠[])(hn:xs.length<=1000000)(hL:L[i]?=some (.cells (bx xs++rest)))(h:K (.tup []) (L.set i (.cells (bx (eA xs)++rest)))):
  alb 105 [.lsl i 0 xs.length cp 1] L K:=λw0 S0 E w vs hR hv=>by
 simp only[VRL,VR]at hv;obtain⟨_,_,rfl,⟨c,rc,d,hc,rfl,hd,hle,_,_⟩,rfl⟩:=hv;have hpos:0<xs.length:=amv.2 hx;have hd':d=c.off:=by have:=hd aoz;omega
 subst hd';obtain⟨hH,hlt⟩:=Xh hR hL hc;refine .inl ⟨rT Tryz.func105 rfl aoB _ _,(Tryz.slices_Sort_int c.blk c.off rc xs w hH hlt aoz).mono ?_⟩;rintro e w' ⟨rfl,q,os,rfl⟩;have r1:=hR.putInts hL hc (d:=eA xs) ((cX xs).length_eq) q;rw[XK];refine⟨E,_,_,_,rfl,.refl E,h,by simp[VR,VRL],r1.grown ?_⟩;exact⟨λb hb=>an5 hb,by simp[grow],rfl,rfl,rfl⟩
theorem ahC(h:K (.tup []) L):alb 105 [.sl [] 0 cap] L K :=
 da Tryz.func105 rfl aoB (λw0 S0 E w vs hR hv=>by simp only[VRL,VR]at hv;obtain⟨_,_,rfl,⟨p,c,rfl,_⟩,rfl⟩:=hv;exact(Tryz.slices_Sort_int_none p c w).mono λe w' ⟨he,hw⟩=>⟨_,he,by simp[VR,VRL],by subst hw;exact tP.refl _⟩) h
def lO(xs:List Int):List Int:=Lib.compact xs
def dN(n:Nat):List AV:=bx (List.replicate n 0)
theorem abF(xs:List Int):(lO xs).length<=xs.length:=by unfold lO Lib.compact Lib.compactUpTo;rw[alU];have:=amQ (Lib.keeps xs.toArray) (List.range xs.length);simpa using this
theorem aec(hx:xs≠[])(hn:xs.length<=1000000)(hL:L[i]?=some (.cells (bx xs++rest)))(h:∀z,K (.lsl i 0 (lO xs).length none 1) (L.set i (.cells (bx (lO xs)++(dN z++rest))))):
  alb 115 [.lsl i 0 xs.length none 1] L K:=λw0 S0 E w vs hR hv=>by
 simp only[VRL,VR]at hv;obtain⟨_,_,rfl,⟨c,rc,d,hc,rfl,hd,hle,_,hsz⟩,rfl⟩:=hv;have hpos:0<xs.length:=amv.2 hx;have hd':d=c.off:=by have:=hd aoz;omega
 subst hd';obtain⟨hH,hlt⟩:=Xh hR hL hc;have hcl:=abF xs;refine .inl ⟨rT Tryz.func115 rfl aoB _ _,(Tryz.slices_Compact_int c.blk c.off rc xs w hH aoz hle).mono ?_⟩;rintro e w' ⟨rfl,q,rfl⟩;have r1:=hR.putInts hL hc (d:=Lib.compact xs++List.replicate (xs.length-(Lib.compact xs).length) 0) (by simp only[lO]at hcl;simp;omega) q;refine⟨E,_,_,_,rfl,.refl E,h (xs.length-(Lib.compact xs).length),?_,?_⟩;simp only[VR];exact⟨c,rc,c.off,hc,rfl,λ_=>aoz,by simp only[lO]at hcl⊢;omega,(λk hk=>by cases hk),hsz⟩;simpa[bx,dN,lO]using r1
theorem abE(h:K (.sl [] 0 cap) L):alb 115 [.sl [] 0 cap] L K :=
 da Tryz.func115 rfl aoB (λw0 S0 E w vs hR hv=>by simp only[VRL]at hv;obtain⟨v,_,rfl,hv,rfl⟩:=hv;have hv':=hv;simp only[VR]at hv;obtain⟨p,c,rfl,_⟩:=hv;exact(Tryz.slices_Compact_int_empty p c w).mono λe w' ⟨he,hw⟩=>⟨_,he,hv',by subst hw;exact tP.refl _⟩) h
theorem ak1{x:Int}(hn:ys.length<=1000000)(hs:ys.Pairwise (·<=·))(h:K (.tup [.int .i64 (ys.countP (·<x):Nat),.bool (ys.contains x)]) L):
  alb 69 [.sl (bx ys) ys.length cap,.int .i64 x] L K :=
 da Tryz.func69 rfl aoB (λw0 S0 E w vs hR hv=>by
  simp only[VRL,VR]at hv;obtain⟨_,_,rfl,⟨p,c,rfl,hle,_,hp⟩,_,_,rfl,rfl,rfl⟩:=hv;by_cases hy:ys=[];subst hy;exact(Tryz.slices_BinarySearch_int_empty p c x w).mono λe w' ⟨he,hw⟩=>⟨_,he,by simp[VR,VRL],by subst hw;exact tP.refl _⟩
  rcases hp with⟨e0,_⟩|⟨b,o,rfl,hcells⟩;exact absurd (alS.1 e0) hy;refine(Tryz.slices_BinarySearch_int b o ys.length c ys x w (ale _) aoz (λj hj=>?_) (by simpa using hs)).mono λe w' ⟨he,q,hw⟩=>⟨_,he,by simp[VR,VRL],by subst hw;exact⟨λ_ _=>rfl,ale _,rfl,rfl,rfl⟩⟩
  obtain⟨v,g1,g2⟩:=hcells.get (i:=j) (a:=.int .i64 ys[j]) (by simp[hj]);simp only[VR]at g2;subst g2;have:=hR.mem _ _ _ g1;rw[this];simp[hj]) h
open Go Go.Sort Go.Proofs
theorem ahp(z:Array Value):∀k,(Builtin.zeroCells z k).size=k*z.size:=by intro k;simp[Builtin.zeroCells]
theorem af2:∃i0,Tryz.prog.info? 3=some i0/\i0.zero=some (.int .i64 0)/\i0.size=1/\i0.bytes=8:=by
 have h:(Tryz.prog.info? 3).map (λi=>(i.zero,i.size,i.bytes))=some (some (.int .i64 0),1,8):=aoB;cases hi:Tryz.prog.info? 3 with
 |none=>rw[hi]at h;cases h
 | some i0 =>
   rw[hi]at h;simp only[alz,alf,als]at h;exact⟨i0,rfl,h⟩
theorem aip(h:K (.sl [] 0 (some 0)) L):alb 190 [.sl [] 0 (some 0),.int .i64 0] L K :=
 da Tryz.func190 rfl aoB (λw0 S0 E w vs hR hv=>by simp only[VRL]at hv;obtain⟨v,_,rfl,hv,_,_,rfl,h2,rfl⟩:=hv;have hv':=hv;simp only[VR]at hv h2;obtain⟨p,c,rfl,_,h3,_⟩:=hv;have hc:c=0:=h3 0 rfl;subst hc;subst h2;exact(Any8.slices_Grow_room Tryz.growI p 0 0 0 w (ale _) aoz aoz aoz).mono λe w' ⟨he,hw⟩=>⟨_,he,hv',by subst hw;exact tP.refl _⟩) h
theorem ajV(h0:0<n)(hn:n<=4000000)(h:K (.lsl L.length 0 0 none 1) (L++[.cells []])):alb 190 [.sl [] 0 (some 0),.int .i64 (n:Int)] L K:=λw0 S0 E w vs hR hv=>by
 simp only[VRL,VR]at hv;obtain⟨_,_,rfl,⟨p,c,rfl,_,h3,_⟩,_,_,rfl,rfl,rfl⟩:=hv;have hc:c=0:=h3 0 rfl;subst hc;obtain⟨i0,i1,i2,i3,i4⟩:=af2;refine .inl ⟨rT Tryz.func190 rfl aoB _ _,(Any8.slices_Grow_grow Tryz.growI i0 (.int .i64 0) i1 i2 aoz p 0 0 n [] w (ale _) aoz (by rw[i4];omega) aoz aoA (λ_=>rfl) (λa _ j v hj=>by simp at hj)).mono ?_⟩;rintro e w' ⟨rfl,rfl⟩;have r0:Rel w0 S0 E L w.drew:=hR.grown ⟨λ_ _=>rfl,ale _,rfl,rfl,rfl⟩
 let cs:Array Value:=([]:List Value).toArray++Builtin.zeroCells (Value.int .i64 0).cells (0+n-0)++Builtin.zeroCells (Value.int .i64 0).cells (grownCap w (0+n) 0 3-(0+n))
 have hcs:cs.size=n+(grownCap w (0+n) 0 3-n):=by simp only[cs,Array.size_append,ahp];have:(Value.int .i64 0).cells.size=1:=rfl;rw[this];simp
 have r1:=r0.push (.cells cs 3) (.cells []) ⟨w.heap.size,0,cs.size⟩ rfl rfl ⟨⟨w.heap.size,0,cs.size⟩,cs,3,(0,0),aoA,(show(w.heap.push (Obj.cells cs 3))[w.heap.size]?=some (Obj.cells cs 3 (0,0))by simp),rfl,aoA,(λj a ha=>by simp at ha),λo _ _=>aoz⟩;refine⟨_,_,_,_,rfl,r1.1,h,?_,r1.2⟩;simp only[VR];exact⟨⟨w.heap.size,0,cs.size⟩,grownCap w (0+n) 0 3,0,aoA,rfl,λ_=>rfl,ali _,(λk hk=>by cases hk),by simp only[hcs];omega⟩
set_option maxHeartbeats 8000000
set_option maxRecDepth 100000
theorem abG(h:K (.sl [] 0 (some 0)) L):alb 114 [.sl [] 0 cap] L K:=by
 refine ac gF (by simp[cV]) ?_;simp only[cV,am]
 repeat' first
  |refine bu ?_
  | (first|refine bj aoB ?_|refine aJ aoB ?_|refine aM ?_|refine cN ?_|refine bE (fun _=>?_)|refine aC ?_|refine bo ?_)
    refine sm ?_
  | (first|refine a8 aoB ?_|refine ba ?_|refine aL ?_|refine bm ?_|refine bJ (aB ?_))
    refine sl ?_
  |exact bF
  |first|apply bG|apply be|apply bH|apply bf|apply bI|apply bg
  |refine aP ?_
  |refine aK ?_
  |first|refine aN rfl ?_|refine aO rfl ?_|refine ax rfl ?_ ?_|refine aT rfl (λ_=>?_) (λ_=>?_)|refine aS rfl (λ_=>?_) (λ_=>?_)
  |((first|refine au (λ_=>?_) (λ_=>?_)|refine aA (λ_=>?_) (λ_=>?_))<;>try refine sm ?_)
  |refine And.intro trivial ?_
  |refine And.intro aoz ?_
  |refine aY rfl (λ_=>?_) (λ_=>?_)
  |refine And.intro ?_ ?_
 all_goals (first|refine ae rfl (Kto h ?_)|refine aa (Kto h ?_)|refine ae (by simp only[AV.refs,AV.refsL, *];rfl) (Kto h ?_)|refine aW (ae rfl (Kto h ?_))|(trace_state;fail))
 all_goals (first|(simp[*];done)|(simp[*];omega)|(simp[*];intros;omega)|(simp_all[Hid,Hid];done)|(simp_all[Hid,Hid];omega))
theorem X4(h0:xs.length≠0)(hn:xs.length<=1000000)(h:K (.lsl L.length 0 xs.length none 1) (L++[.cells (bx xs)])):
  alb 114 [.sl (bx xs) xs.length cap] L K:=by
 refine ala gF ?_;refine UV L.length (.cells (bx xs)) rfl (ale _) aoA (by simp[AV.refs]) (dT xs) ?_;simpa[AV.ren]using h
def Y0(f:FuncId)(caps:List AV)(ok:List Blk->Prop)(q:Int->Bool):Prop:=∀(L:List Blk) (x:Int) (K:AV->List Blk->Prop),ok L->K (.bool (q x)) L->alb f ([.int .i64 x]++caps) L K
theorem aim(hq:Y0 f caps ok q)(hok:ok L)(hn:xs.length<=1000000)(hL:L[i]?=some (.cells (bx xs++rest)))(h1:(∀j,j<xs.length->q (xs.getD j 0)=false)->K (.int .i64 (-1)) L)(h2:∀k:Nat,k<xs.length->(∀j,j<k->q (xs.getD j 0)=false)->q (xs.getD k 0)=true->K (.int .i64 k) L):alb 116 [.lsl i 0 xs.length cp 1,.func f caps] L K:=by
 refine ac eT (by simp[cv]) ?_;simp only[cv,am];replace hq:=hid hq;replace h1:=hid h1;replace h2:=hid h2;refine wk ?_;refine ah (λn T' L'=>∃k:Nat,n=xs.length-k/\k<=xs.length/\T'=[(8,.int .i64 (k:Int)),(7,.int .i64 xs.length),(0,.lsl i 0 xs.length cp 1),(1,.func f caps)]/\L'=L /\
  ∀j,j<k->q (xs.getD j 0)=false) (CutS (b:=ale _)) ⟨0,rfl,ali _,rfl,rfl,aoA⟩ ?_
 rintro _ _ _ ⟨k,rfl,hk,rfl,rfl,hr⟩;replace hr:=hid hr;by_cases hlt:k<xs.length;have g1:(k:Int)<(xs.length:Int):=aoz;have g2:=ak9 k aoz;have g7:(xs.map (AV.int .i64)++rest).getD k .undef=.int .i64 (xs.getD k 0):=by rw[alD,alm (by simp;omega)];simp[hlt]
 refine wk ?_;refine hq.o _ _ _ hok ?_;refine sk ?_;rcases hqk:q (xs.getD k 0)with _|_;refine wk ?_;refine aoE ?_ (CutL (b:=ale _)) ⟨k+1,rfl,hlt,rfl,rfl,λj hj=>?_⟩;omega;rcases alA j k with h|h;exact hr.o j h;have:j=k:=aoz;subst this;exact hqk;refine wk ?_;exact aa (h2.o k hlt hr.o hqk);have g1:¬(k:Int)<(xs.length:Int):=aoz;refine wk ?_;exact aa (h1.o λj hj=>hr.o j aoz)
theorem aiy(hq:Y0 f caps ok q)(hok:∀l,ok (L.set i (.cells l)))(hn:xs.length<=1000000)(hL:L[i]?=some (.cells (bx xs)))(h:∀z,K (.lsl i 0 (xs.filter λx => !q x).length none 1) (L.set i (.cells (bx (xs.filter λx => !q x)++bx (List.replicate z 0))))):
  alb 67 [.lsl i 0 xs.length none 1,.func f caps] L K:=by
 have hi:i<L.length:=(ald.1 hL).1;have hset:∀c,(L.set i c)[i]?=some c:=λc=>by simp[hi]
 have hok0:ok L:=by have:=hok (bx xs);rwa[Sp hL]at this
 replace hq:=hid hq;replace hok:=hid hok;refine ala eC ?_;refine aim (rest:=[]) hq.o hok0 hn (by simpa using hL) (λhno=>?_) (λa ha hpre hqa=>?_);have hf:xs.filter (λx => !q x)=xs:=anC.2 λx hx=>by obtain⟨j,hj,rfl⟩:=aml.1 hx;have:=hno j hj;simp[hj]at this;simp[this]
 have h0:=h 0;rw[hf]at h0;simp only[List.replicate_zero,amH,alJ,Sp hL]at h0;replace h0:=hid h0;clear h hf hno;refine aoH ?_;exact aa h0.o
 .replace h:=hid h;replace hpre:=hid hpre;replace hqa:=hid hqa;have g1:(a:Int)≠-1:=aoz;have g2:=ak9 a aoz;refine aoH ?_;have hfx:∀j,j<xs.length->xs.take (j+1)=xs.take j++[xs.getD j 0]:=λj hj=>by rw[aly hj];simp[hj]
  replace hfx:=hid hfx;refine ah (λn T' L'=>∃(a j:Nat) (cs:List Int),n=xs.length-j/\a<j/\j<=xs.length/\cs.length=xs.length/\T'=[(6,.int .i64 (j:Int)),(5,.int .i64 (a:Int)),(0,.lsl i 0 xs.length none 1),(1,.func f caps)]/\L'=L.set i (.cells (bx cs)) /\
   cs.take a=(xs.take j).filter (λx => !q x)/\cs.drop j=xs.drop j) (n0:=xs.length-(a+1)) (T0:=[(6,.int .i64 ((a+1:Nat):Int)),(5,.int .i64 (a:Int)),(0,.lsl i 0 xs.length none 1),(1,.func f caps)]) (L0:=L.set i (.cells (bx xs))) (by rw[Sp hL];exact CutS (b:=ale _))
   ⟨a,a+1,xs,rfl,aoz,ha,rfl,rfl,rfl,?_,rfl⟩ ?_
  rw[hfx.o a ha,am5];have h1:(xs.take a).filter (λx => !q x)=xs.take a:=anC.2 λx hx=>by obtain⟨j,hj,rfl⟩:=aml.1 hx;rw[amJ]at hj;have hj2:j<xs.length:=aoz;have:=hpre.o j aoz;simp[hj2]at this;simp[this]
  have h2:q (xs[a]?.getD 0)=true:=(by have:=hqa.o;simpa using this);simp[h1,h2];clear ha hpre hqa g1 g2;clear a;rintro _ _ _ ⟨a,j,cs,rfl,haj,hj,hcs,rfl,rfl,hta,hdr⟩;replace hta:=hid hta;replace hdr:=hid hdr;replace hcs:=hid hcs;by_cases hlt:j<xs.length
  .have g1:(j:Int)<(xs.length:Int):=aoz;have g2:=ak9 j aoz;have g3:=ak9 a aoz;have hcj:cs.getD j 0=xs.getD j 0:=by have:=congrArg (λl=>l[0]?) hdr.o;simp only[al5,amE]at this;rw[alD,alD,this]
   have g4:(cs.map (AV.int .i64)).getD j .undef=.int .i64 (xs.getD j 0):=by rw[<- hcj];simp[show j<cs.length by rw[hcs.o];exact hlt]
   have g5:List.take a (cs.map (AV.int .i64))++AV.int .i64 (xs.getD j 0)::List.drop (a+1) (cs.map (AV.int .i64))=(cs.set a (xs.getD j 0)).map (AV.int .i64):=by rw[List.set_eq_take_append_cons_drop,if_pos (by rw[hcs.o];omega)];simp
   have g6:cs.length=xs.length:=hcs.o;replace hcj:=hid hcj;refine wk ?_;refine hq.o _ _ _ (hok.o _) ?_;refine sk ?_;rcases hqk:q (xs.getD j 0)with _|_
   .repeat' first
     |refine bu ?_
     | (first|refine bj aoB ?_|refine aJ aoB ?_|refine aM ?_|refine cN ?_|refine bE (fun _=>?_)|refine aC ?_|refine bo ?_)
       simp(config:={maxSteps:=2000000}) only[amC,Kon,push_cast,reduceIte,Nat.reduceEqDiff,Nat.reduceAdd,Nat.reduceMul,Nat.reduceSub,Nat.reduceLT,Nat.reduceLeDiff,Int.reduceLT,Int.reduceLE,Int.reduceAdd,Int.reduceSub,Int.reduceNeg,Int.reduceToNat,Int.reduceEq,reduceCtorEq, *]
     | (first|refine a8 aoB ?_|refine ba ?_|refine aL ?_|refine bm ?_|refine bJ (aB ?_))
       refine sl ?_
     |exact bF
     |first|apply bG|apply be|apply bH|apply bf|apply bI|apply bg
     |refine aP ?_
     |refine aK ?_
     |first|refine aN rfl ?_|refine aO rfl ?_|refine ax rfl ?_ ?_|refine aT rfl (λ_=>?_) (λ_=>?_)|refine aS rfl (λ_=>?_) (λ_=>?_)
     |((first|refine au (λ_=>?_) (λ_=>?_)|refine aA (λ_=>?_) (λ_=>?_))<;>try simp(config:={maxSteps:=2000000}) only[amC,Kon,push_cast,reduceIte,Nat.reduceEqDiff,Nat.reduceAdd,Nat.reduceMul,Nat.reduceSub,Nat.reduceLT,Nat.reduceLeDiff,Int.reduceLT,Int.reduceLE,Int.reduceAdd,Int.reduceSub,Int.reduceNeg,Int.reduceToNat,Int.reduceEq,reduceCtorEq, *])
     |refine And.intro trivial ?_
     |refine And.intro aoz ?_
     |refine aY rfl (λ_=>?_) (λ_=>?_)
     |refine And.intro ?_ ?_
    refine aoE ?_ aoC ⟨a+1,j+1,cs.set a (xs.getD j 0),rfl,aoz,hlt,by simp[g6],rfl,rfl,?_,?_⟩;omega;have hk:=hqk;rw[hfx.o j hlt,am5,<- hta.o,List.set_eq_take_append_cons_drop,if_pos aoz];simp only[anr,hk,amX,if_true,List.filter_nil];rw[List.take_append];have:(cs.take a).length=a:=(by simp;omega);rw[amb (l:=cs.take a) aoz];simp[this];rw[List.drop_set_of_lt aoz];have:=congrArg (List.drop 1) hdr.o;simpa[anL,Nat.add_comm]using this
   refine wk ?_;refine aoE ?_ aoC ⟨a,j+1,cs,rfl,aoz,hlt,by simp[g6],rfl,rfl,?_,?_⟩;omega;have hk:=hqk;rw[hfx.o j hlt,am5,<- hta.o];simp only[anr,hk,amR,alx,if_false,List.filter_nil,alJ];have:=congrArg (List.drop 1) hdr.o;simpa[anL,Nat.add_comm]using this
  .have g1:¬(j:Int)<(xs.length:Int):=aoz;have g6:cs.length=xs.length:=hcs.o;have hrep:∀k,dV [AV.int .i64 0] k=(List.replicate k (0:Int)).map (AV.int .i64):=by
    intro k;induction k with
    |zero=>rfl
    |succ k ih=>simp[dV,ih,List.replicate_succ]
   have hjx:j=xs.length:=aoz;have ht2:cs.take a=xs.filter (λx => !q x):=(by rw[hta.o,hjx,alt]);have hla:(xs.filter λx => !q x).length=a:=(by rw[<- ht2];simp;omega);have ht3:List.take a (cs.map (AV.int .i64))=(xs.filter λx => !q x).map (AV.int .i64):=(by rw[<- List.map_take,ht2]);have hd:List.drop (a+(xs.length-a)) (cs.map (AV.int .i64))=[]:=amU (by simp;omega);have hfin:=h.o (xs.length-a);rw[hla]at hfin;replace hfin:=hid hfin;clear hjx ht2 hla
   repeat' first
    |refine bu ?_
    | (first|refine bj aoB ?_|refine aJ aoB ?_|refine aM ?_|refine cN ?_|refine bE (fun _=>?_)|refine aC ?_|refine bo ?_)
      simp(config:={maxSteps:=2000000}) only[amC,hrep,aoo,Kon,push_cast,reduceIte,Nat.reduceEqDiff,Nat.reduceAdd,Nat.reduceMul,Nat.reduceSub,Nat.reduceLT,Nat.reduceLeDiff,Int.reduceLT,Int.reduceLE,Int.reduceAdd,Int.reduceSub,Int.reduceNeg,Int.reduceToNat,Int.reduceEq,reduceCtorEq, *]
    | (first|refine a8 aoB ?_|refine ba ?_|refine aL ?_|refine bm ?_|refine bJ (aB ?_))
      refine sl ?_
    |exact bF
    |first|apply bG|apply be|apply bH|apply bf|apply bI|apply bg
    |refine aP ?_
    |refine aK ?_
    |first|refine aN rfl ?_|refine aO rfl ?_|refine ax rfl ?_ ?_|refine aT rfl (λ_=>?_) (λ_=>?_)|refine aS rfl (λ_=>?_) (λ_=>?_)
    |((first|refine au (λ_=>?_) (λ_=>?_)|refine aA (λ_=>?_) (λ_=>?_))<;>try simp(config:={maxSteps:=2000000}) only[amC,hrep,aoo,Kon,push_cast,reduceIte,Nat.reduceEqDiff,Nat.reduceAdd,Nat.reduceMul,Nat.reduceSub,Nat.reduceLT,Nat.reduceLeDiff,Int.reduceLT,Int.reduceLE,Int.reduceAdd,Int.reduceSub,Int.reduceNeg,Int.reduceToNat,Int.reduceEq,reduceCtorEq, *])
    |refine And.intro trivial ?_
    |refine And.intro aoz ?_
    |refine aY rfl (λ_=>?_) (λ_=>?_)
    |refine And.intro ?_ ?_
   exact aa hfin.o
theorem RW(h:K (.int .i64 (-1)) L):alb 116 [.sl [] 0 cap,.func f caps] L K:=by
 refine ala eT ?_;refine ah (λn T' L'=>n=0/\T'=[(8,.int .i64 0),(7,.int .i64 0)]/\L'=L) (CutS (b:=ale _)) ⟨rfl,rfl,rfl⟩ ?_;rintro _ _ _ ⟨rfl,rfl,rfl⟩;refine wk ?_
 all_goals (first|refine ae rfl (Kto h ?_)|refine aa (Kto h ?_)|refine ae (by simp only[AV.refs,AV.refsL, *];rfl) (Kto h ?_)|refine aW (ae rfl (Kto h ?_))|(trace_state;fail))
 all_goals (first|(simp[*];done)|(simp[*];omega)|(simp[*];intros;omega)|(simp_all[Hid,Hid];done)|(simp_all[Hid,Hid];omega))
theorem agC(h:K (.sl [] 0 cap) L):alb 67 [.sl [] 0 cap,.func f caps] L K:=by
 refine ac eC (by simp[cm]) ?_;simp only[cm,am]
 repeat' first
  |refine bu ?_
  | (first|refine bj aoB ?_|refine aJ aoB ?_|refine aM ?_|refine cN ?_|refine bE (fun _=>?_)|refine aC ?_|refine bo ?_|refine RW ?_|refine bh (RW ⟨rfl,rfl⟩) (RW ⟨rfl,rfl⟩) ?_|refine aF (RW ⟨rfl,rfl⟩) ?_)
    refine sm ?_
  | (first|refine a8 aoB ?_|refine ba ?_|refine aL ?_|refine bm ?_|refine bJ (aB ?_))
    refine sl ?_
  |exact bF
  |first|apply bG|apply be|apply bH|apply bf|apply bI|apply bg
  |refine aP ?_
  |refine aK ?_
  |first|refine aN rfl ?_|refine aO rfl ?_|refine ax rfl ?_ ?_|refine aT rfl (λ_=>?_) (λ_=>?_)|refine aS rfl (λ_=>?_) (λ_=>?_)
  |((first|refine au (λ_=>?_) (λ_=>?_)|refine aA (λ_=>?_) (λ_=>?_))<;>try refine sm ?_)
  |refine And.intro trivial ?_
  |refine And.intro aoz ?_
  |refine aY rfl (λ_=>?_) (λ_=>?_)
  |refine And.intro ?_ ?_
 all_goals (first|refine ae rfl (Kto h ?_)|refine aa (Kto h ?_)|refine ae (by simp only[AV.refs,AV.refsL, *];rfl) (Kto h ?_)|refine aW (ae rfl (Kto h ?_))|(trace_state;fail))
 all_goals (first|(simp[*];done)|(simp[*];omega)|(simp[*];intros;omega)|(simp_all[Hid,Hid];done)|(simp_all[Hid,Hid];omega))
theorem ajZ(hq:Y0 f caps ok q)(hok:∀l,ok (L.set i (.cells l)))(hn:xs.length<=1000000)(hL:L[i]?=some (.cells (bx xs++rest)))(h:∀z,K (.lsl i 0 (xs.filter λx => !q x).length none 1) (L.set i (.cells (bx (xs.filter λx => !q x)++dN z)))):
  alb 67 [.lsl i 0 xs.length none 1,.func f caps] L K:=by
 have hi:i<L.length:=(ald.1 hL).1;refine abU hL (aiy hq (λl=>?_) hn (by simp[hi]) λz=>?_);rw[amC];exact hok l;rw[amC];exact h z
def bS(xs:List Int):List Int:=lO (eA xs)
theorem V5:bS []=[]:=by have e:eA []=[]:=alS.1 (cX ([]:List Int)).length_eq;have:=abF [];unfold bS;rw[e];exact alS.1 (by simpa using this)
theorem aak(xs:List Int):(bS xs).length<=xs.length:=by have:=abF (eA xs);have h2:=(cX xs).length_eq;unfold bS;omega
theorem Zk(hx:xs≠[])(hn:xs.length<=1000000)(h:K (.tup []) (L++[.cells (bx (eA xs))])):
  alb 105 [.lsl L.length 0 xs.length none 1] (L++[.cells (bx xs)]) K :=
 ajl (rest:=[]) hx hn aoA (by simpa using h)
theorem V4(hl:n=xs.length)(hx:xs≠[])(hn:xs.length<=1000000)(h:∀z,K (.lsl L.length 0 (lO xs).length none 1) (L++[.cells (bx (lO xs)++dN z)])):
  alb 115 [.lsl L.length 0 n none 1] (L++[.cells (bx xs)]) K:=by
 subst hl;exact aec (rest:=[]) hx hn aoA λz=>by simpa using h z
theorem ZO(h:xs≠[]):eA xs≠[]:=λe=>h (by have:=(cX xs).length_eq;rw[e]at this;exact alS.1 this.symm)
theorem agM(h0:xs≠[])(hn:xs.length<=1000000)(h:∀z,K (.lsl L.length 0 (bS xs).length none 1) (L++[.cells (bx (bS xs)++dN z)])):
  alb 66 [.sl (bx xs) xs.length cap] L K:=by
 have hl:xs.length≠0:=λe=>h0 (alS.1 e)
 have h1:=hid (ZO h0);have h2:=hid (cX xs).length_eq;replace h:=hid h;replace h0:=hid h0;refine ala qg ?_;refine X4 hl hn ?_;refine aoH ?_;refine Zk h0.o hn ?_;refine aoH ?_;refine V4 h2.o.symm h1.o (by rw[h2.o];exact hn) λz=>?_
 refine aoH ?_;refine UV L.length (.cells (bx (lO (eA xs))++dN z)) rfl (ale _) aoA (by simp[AV.refs]) ?_ ?_;simp only[Blk.refs,dN,<- alM,dT];simpa[AV.ren,bS]using h.o z
theorem aal(h:K (.sl [] 0 (some 0)) L):
  alb 66 [.sl [] 0 cap] L K:=by
 replace h:=hid h;refine ala qg ?_;refine abG ?_;refine aoH ?_;refine ahC ?_;refine aoH ?_;refine abE ?_;refine aoH ?_;exact aa h.o
theorem ai1{z:Nat}:(AV.lsl L.length 0 ys.length none 1).snap L.length (bx ys++dN z)=.sl (bx ys) ys.length none:=by simp[AV.snap,List.take_append,dN]
theorem agN(hn:xs.length<=1000000)(h:∀cap',K (.sl (bx (bS xs)) (bS xs).length cap') L):
  alb 66 [.sl (bx xs) xs.length cap] L K:=by
 by_cases h0:xs=[];subst h0;have h':=h (some 0);rw[V5]at h';exact aal h';have hl:xs.length≠0:=λe=>h0 (alS.1 e)
 have h1:=hid (ZO h0);have h2:=hid (cX xs).length_eq;replace h:=hid h;replace h0:=hid h0;refine ala qg ?_;refine X4 hl hn ?_;refine aoH ?_;refine Zk h0.o hn ?_;refine aoH ?_;refine V4 h2.o.symm h1.o (by rw[h2.o];exact hn) λz=>?_
 refine aoH ?_;refine LQ (i:=L.length) (l:=bx (lO (eA xs))++dN z) aoA ?_;rw[ai1,show(L++[Blk.cells (bx (lO (eA xs))++dN z)]).set L.length .dead=L++[.dead]by simp];exact ae (by simp only[AV.refs,dT]) (h.o none)
theorem aa3{ip:Nat}(hn:ys.length<=1000000)(hs:ys.Pairwise (·<=·)):Y0 68 [.ptr ip 0] (λL=>L[ip]?=some (.cells [.sl (bx ys) ys.length cap])) (λx => !(ys.contains x)):=λL x K hok h=>by replace h:=hid h;replace hs:=hid hs;refine ala Tg ?_;refine ak1 hn hs.o ?_;refine aoH ?_;exact aa h.o
theorem Ue(xs:List Int):(lO xs).Sublist xs:=by
 unfold lO Lib.compact Lib.compactUpTo;have h:(List.range xs.length).map (λj=>xs.toArray[j]!)=xs:=by apply List.ext_getElem aoA;intro j h1 h2;simp[h2]
 have:=(ane (p:=Lib.keeps xs.toArray) (l:=List.range xs.length)).map (λj=>xs.toArray[j]!);rwa[h]at this
theorem aeg(xs:List Int):(bS xs).Pairwise (·<=·):=(xW xs).sublist (Ue _)
def Own(L:List Blk)(m:List Int)(v:AV)(L':List Blk):Prop:=(v=.sl [] 0 (some 0)/\m=[]/\L'=L)\/∃z,v=.lsl L.length 0 m.length none 1/\L'=L++[.cells (bx m++dN z)]
def W5(L:List Blk)(m:List Int)(v:AV)(L':List Blk):Prop:=(v=.sl [] 0 (some 0)/\m=[]/\∃X,L'=L++X)\/∃z X,v=.lsl L.length 0 m.length none 1/\L'=L ++ .cells (bx m++dN z)::X
theorem Own.x(h:Own L m v L'):W5 L m v L':=by rcases h with⟨h1,h2,h3⟩|⟨z,h1,h2⟩;exact .inl ⟨h1,h2,[],by simp[h3]⟩;exact .inr ⟨z,[],h1,h2⟩
theorem W5.len(h:W5 L m v L'):L.length<=L'.length:=by rcases h with⟨_,_,X,rfl⟩|⟨z,X,_,rfl⟩<;>simp
theorem acz(hn:xs.length<=1000000)(h:∀v L',Own L (bS xs) v L'->K v L'):
  alb 66 [.sl (bx xs) xs.length cap] L K:=by
 by_cases h0:xs=[];subst h0;exact aal (h _ _ (.inl ⟨rfl,V5,rfl⟩));exact agM h0 hn λz=>h _ _ (.inr ⟨z,rfl,rfl⟩)
abbrev bO(l:List Int):AV:=.sl (bx l) l.length none
theorem UK{ls:List (List Int)}{k:Nat}(h:k<ls.length):(ls.map bO).getD k .undef=bO (ls.getD k []):=by simp[h]
theorem XT{ls:List (List Int)}{k:Nat}(h:k<ls.length):(ls.take (k+1)).flatten=(ls.take k).flatten++ls.getD k []:=by rw[aly h,List.flatten_append];simp[h]
theorem act(ls:List (List Int))(k:Nat):(ls.take k).flatten.length<=ls.flatten.length:=by
 have h:ls.flatten=(ls.take k).flatten++(ls.drop k).flatten:=by rw[<- List.flatten_append,amZ]
 rw[h];simp
theorem agH(hn:ls.length<=1000000)(ht:ls.flatten.length<=1000000)(h:∀cap',K (.sl (bx ls.flatten) ls.flatten.length cap') L):
  alb 153 [.sl (ls.map bO) ls.length cap] L K:=by
 replace h:=hid h;have htk:=hid (λk=>@XT ls k);have hle:=hid (act ls);have hat:=hid (λk=>@UK ls k);refine ala rU ?_;refine ah (λn T' L'=>∃k:Nat,n=ls.length-k/\k<=ls.length/\T'=[(11,.int .i64 (k:Int)),(10,.int .i64 ls.length),(9,.sl (ls.map bO) ls.length cap),(3,.int .i64 ((ls.take k).flatten.length:Int)),(2,.sl [] 0 (some 0)),(0,.sl (ls.map bO) ls.length cap)]/\L=L') (CutS (b:=ale _)) ⟨0,rfl,ali _,rfl,rfl⟩ ?_;rintro _ _ _ ⟨k,rfl,hk,rfl,rfl⟩;by_cases hlt:k<ls.length;have g1:(k:Int)<(ls.length:Int):=aoz;have g2:=ak9 k aoz;have e1:=htk.o k hlt;have e2:=hat.o k hlt;have e3:=hle.o (k+1);obtain⟨l,hl⟩:=ak7 (ls.getD k []);rw[hl]at e1 e2;have e4:(ls.take (k+1)).flatten.length=(ls.take k).flatten.length+l.length:=by rw[e1,alw]
 rw[e4]at e3;obtain⟨m,hm⟩:=ak7 ((ls.take k).flatten.length);rw[hm]at e3 e4⊢;replace e1:=hid e1;replace hm:=hid hm;replace hl:=hid hl;have g3:IntKind.i64.wrap ((m:Int)+(l.length:Int))=(m:Int)+(l.length:Int):=ab aoz aoz;have g4:¬((m:Int)+(l.length:Int)<0):=aoz;refine wk ?_;exact aoE aoz (CutL (b:=ale _)) ⟨k+1,rfl,hlt,rfl,rfl⟩;have hke:k=ls.length:=aoz;subst hke;clear hlt hk;have g1:¬(ls.length:Int)<(ls.length:Int):=aoz;obtain⟨m,hm⟩:=ak7 (ls.flatten.length);rw[alt,hm];rw[hm]at h ht;rcases amD m with h0|hpos;subst h0;have hnil:=hid (alS.1 hm);refine wk ?_;refine aip ?_;refine aoH ?_;refine bt (l:=[]) (n:=0) 6 1 rfl (alG 1).symm ?_;refine ah (λn T' L'=>∃k:Nat,n=ls.length-k/\k<=ls.length/\T'=[(27,.int .i64 (k:Int)),(26,.int .i64 ls.length),(25,.sl (ls.map bO) ls.length cap),(6,.gsl [] 0 L.length 1)]/\L'=L++[.spare 0 1]) aoD ⟨0,rfl,ali _,rfl,rfl⟩ ?_;rintro _ _ _ ⟨k,rfl,hk,rfl,rfl⟩;by_cases hlt:k<ls.length;have g1:(k:Int)<(ls.length:Int):=aoz;have g2:=ak9 k aoz;have e2:=hat.o k hlt;have e3:ls.getD k []=[]:=List.flatten_eq_nil_iff.1 hnil.o _ (by rw[alD,alu hlt];exact al6 _);rw[e3]at e2;replace e2:(ls.map bO).getD k .undef=.sl [] 0 none:=e2;clear e3;refine wk ?_;exact aoE aoz aoC ⟨k+1,rfl,hlt,rfl,rfl⟩;have hke:k=ls.length:=aoz;subst hke;have g1:¬(ls.length:Int)<(ls.length:Int):=aoz;refine wk ?_;refine aW (ae (by rfl) ?_);have:=h.o none;rw[hnil.o]at this;exact this;refine wk ?_;refine ajV hpos aoz ?_;refine aoH ?_;refine ah (λn T' L'=>∃(k i:Nat) (X:List Blk) (c:List Int),n=ls.length-k/\k<=ls.length/\Hid (c=(ls.take k).flatten)/\c.length<=m/\i=L.length+X.length/\T'=[(27,.int .i64 (k:Int)),(26,.int .i64 ls.length),(25,.sl (ls.map bO) ls.length cap),(6,.lsl i 0 c.length none 1)]/\L'=L++(X++[.cells (bx c)])) aoD ⟨0,L.length,[],[],rfl,ali _,hid rfl,ali _,rfl,rfl,rfl⟩ ?_;rintro _ _ _ ⟨k,i,X,c,rfl,hk,hc,hcm,hi,rfl,rfl⟩;have hget:(L++(X++[Blk.cells (bx c)]))[i]?=some (.cells (bx c)):=by subst hi;simp
 replace hi:=hid hi;by_cases hlt:k<ls.length;have g1:(k:Int)<(ls.length:Int):=aoz;have g2:=ak9 k aoz;have e1:=htk.o k hlt;have e2:=hat.o k hlt;have e3:=hle.o (k+1);obtain⟨l,hl⟩:=ak7 (ls.getD k []);rw[hl]at e1 e2;rw[<- hc.o]at e1;have e4:c.length+l.length<=m:=by rw[e1,alw,hm]at e3;exact e3
 have hones:(l.map (AV.int .i64)).all AV.one=true:=by simp[AV.one]
 have e5:(c.length+l.length)*8<=140737488355328:=aoz;have e6:c.length+l.length<=140737488355328:=aoz;replace e1:=hid e1;replace hl:=hid hl;clear e3;have hdead:(L++(X++[Blk.cells (bx c)])).set i .dead=L++(X++[.dead]):=by rw[hi.o];simp
 have hlen:(L++(X++[Blk.dead])).length=i+1:=by rw[hi.o];simp;omega
 refine wk ?_;refine aoE ?_ aoC ⟨k+1,i+1,X++[.dead],c++l,rfl,hlt,hid e1.o.symm,by simpa using e4,by rw[hi.o];simp;omega,rfl,?_⟩;omega;simp[amb];have hke:k=ls.length:=aoz;subst hke;have g1:¬(ls.length:Int)<(ls.length:Int):=aoz;refine wk ?_;refine LQ (i:=i) (l:=bx c) hget ?_;rw[show(L++(X++[Blk.cells (bx c)])).set i .dead=L++(X++[.dead])by rw[hi.o];simp];have e:=hc.o;rw[alt]at e;have hs:(AV.lsl i 0 c.length none 1).snap i (bx c)=.sl (bx c) c.length none:=by simp[AV.snap,amb]
 rw[hs];refine ae (by simp only[AV.refs,dT]) ?_;have:=h.o none;rw[<- e]at this;rw[<- e]at hm;rw[hm];exact this
theorem W5.fin{K:alc}(ho:W5 L m v L')(h:∀v L',Own L m v L'->K v L'):Fin L v L' K:=by rcases ho with⟨rfl,h2,X,rfl⟩|⟨z,X,rfl,rfl⟩;exact ae rfl (h _ _ (.inl ⟨rfl,h2,rfl⟩));refine UV L.length (.cells (bx m++dN z)) rfl (ale _) aoA (by simp[AV.refs]) ?_ ?_;simp only[Blk.refs,dN,<- alM,dT];simpa[AV.ren]using h _ _ (.inr ⟨z,rfl,rfl⟩)
theorem WG{L0:List Blk}{l:List AV}{Q:AV->List Blk->Prop}(h:Fin L0 (.sl l n none) L Q):Fin L0 (.sl l n cp) L Q:=λw0 S0 E0 E w v h0 hn hw hR hv=>by refine h w0 S0 E0 E w v h0 hn hw hR ?_;simp only[VR]at hv⊢;obtain⟨p,c,h1,h2,_,h4⟩:=hv;exact⟨p,c,h1,h2,aoA,h4⟩
theorem W5.finF{K:alc}(ho:W5 L m v L')(h:K (bO m) L):Fin L v L' K:=by rcases ho with⟨rfl,rfl,X,rfl⟩|⟨z,X,rfl,rfl⟩;exact WG (ae rfl h);refine LQ (i:=L.length) (l:=bx m++dN z) aoA ?_;rw[ai1,show(L++Blk.cells (bx m++dN z)::X).set L.length .dead=L++Blk.dead::X by simp];exact ae (by simp only[AV.refs,dT]) h
theorem ajN(hn:ls.length<=1000000)(ht:ls.flatten.length<=1000000)(h:∀v L',W5 L (bS ls.flatten) v L'->Fin L v L' K):
  alb 108 [.sl (ls.map bO) ls.length cap] L K:=by
 replace h:=hid h;refine ala Wk ?_;refine agH hn ht λcap'=>?_
 refine aoH ?_;refine acz ht λv L' ho=>?_
 refine aoH ?_;exact h.o v L' ho.x
theorem aii(hn:ls.length<=1000000)(ht:ls.flatten.length<=1000000)(h:K (bO (bS ls.flatten)) L):
 alb 108 [.sl (ls.map bO) ls.length cap] L K:=ajN hn ht λ_ _ ho=>ho.finF h
def jC(o l:List Int):List Int:=o.filter λx => !(!((bS l).contains x))
def qY:List (List Int)->List Int
 |[]=>[]
 |l::ls=>ls.foldl jC (bS l)
theorem aa2{l:List Int}{ls:List (List Int)}{k:Nat}(h:k<ls.length):(ls.take (k+1)).foldl jC (bS l)=jC ((ls.take k).foldl jC (bS l)) (ls.getD k []):=by rw[aly h,anb];simp[h]
theorem ahz(o l:List Int):(jC o l).length<=o.length:=amQ ..
theorem ais(ls:List (List Int)):∀o:List Int,(ls.foldl jC o).length<=o.length:=by
 induction ls with
 |nil=>exact λo=>ale _
 |cons l ls ih=>exact λo=>alF (ih _) (ahz _ _)
theorem ajC(hn:ls.length<=1000000)(hl:∀l∈ls,l.length<=1000000)(h:∀v L',W5 L (qY ls) v L'->Fin L v L' K):
  alb 29 [.sl (ls.map bO) ls.length cap] L K:=by
 replace h:=hid h;refine ac Wj (by simp[LH]) ?_;simp only[LH,am]
 match ls with
 | [] =>
   refine wk ?_;exact h.o _ _ (.inl ⟨rfl,rfl,[],aoA⟩)
 | l0::ls =>
   have hl0:l0.length<=1000000:=hl _ aoA;replace hl:=hid λl hm=>hl l (amp _ hm)
   have hn':ls.length+1<=1000000:=hn;have g0:((l0::ls).map bO).getD 0 .undef=bO l0:=rfl;have g1:0<((l0::ls).map bO).length:=aoA;refine wk ?_;refine acz hl0 λv L1 ho=>?_
   refine sk ?_;have ho:=hid ho.x;have hLe:=hid ho.o.len;have g2:((l0::ls).map bO).drop 1=ls.map bO:=rfl;have g3:((ls.length:Int)+1).toNat-1=ls.length:=aoz;have g4:(1:Int)<=(ls.length:Int)+1:=aoz;have g5:(ls.map bO).take ls.length=ls.map bO:=amb aoA;refine wk ?_;have hat:=hid (λk=>@UK ls k);have hstep:=hid (λk=>@aa2 l0 ls k);have hfl:=hid (λk=>alF (ais (ls.take k) (bS l0)) (alF (aak l0) hl0));obtain⟨cp,hcp⟩:=ak7 (Option.map (λx=>x-1) cap);clear g0 g1 g2 g3 g4;simp only[hcp];refine ah (λn T' L'=>∃(k:Nat) (v:AV),n=ls.length-k/\k<=ls.length/\L1.length<=L'.length/\Hid (W5 L ((ls.take k).foldl jC (bS l0)) v L')/\T'=[(17,.int .i64 (k:Int)),(16,.int .i64 ls.length),(15,.sl (ls.map bO) ls.length cp),(3,v)]) (CutS (b:=ale _)) ⟨0,v,rfl,ali _,ale _,ho,rfl⟩ ?_;clear ho;clear ho;clear v;rintro _ _ L2 ⟨k,v,rfl,hk,hL1,ho,rfl⟩;by_cases hlt:k<ls.length
   .have g1:(k:Int)<(ls.length:Int):=aoz;have g2:=ak9 k aoz;have e1:=hstep.o k hlt;have e2:=hat.o k hlt;have e3:=hfl.o k;have e4:(ls.getD k []).length<=1000000:=hl.o _ (by rw[alD,alu hlt];exact al6 _);obtain⟨l,hlk⟩:=ak7 (ls.getD k []);obtain⟨m,hm⟩:=ak7 ((ls.take k).foldl jC (bS l0));rw[hlk]at e1 e2 e4;rw[hm]at e1 e3;have ho:=ho.o;rw[hm]at ho;replace ho:=hid ho;replace e1:=hid e1;have e5:=hid (alF (aak l) e4);clear hlk;replace hm:=hid hm;clear hm;refine wk ?_;refine agN e4 λcap'=>?_
    refine aoH ?_;have hxs:L1.length<=L2.length:=hL1;rcases ho.o with⟨rfl,h2,X,rfl⟩|⟨z,X,rfl,rfl⟩
    .have e6:(ls.take (k+1)).foldl jC (bS l0)=[]:=(by rw[e1.o,h2];rfl);replace e6:=hid e6;refine agC ?_;refine aoH ?_;refine aoE ?_ (CutL (b:=?_)) ⟨k+1,.sl [] 0 (some 0),rfl,hlt,?_,hid (.inl ⟨rfl,e6.o,X++[.cells [.sl (bx (bS l)) (bS l).length cap']],?_⟩),rfl⟩
     .omega
     .simp at hxs⊢;omega
     .simp at hxs⊢;omega
     .simp
    .refine ajZ (rest:=dN z) (aa3 (cap:=cap') e5.o (aeg l)) (λc=>?_) e3 ?_ λz'=>?_
     .simp
     .simp
     rw[show((L++Blk.cells (bx m++dN z)::X)++[Blk.cells [.sl (bx (bS l)) (bS l).length cap']]).set L.length (.cells (bx (m.filter λx => !(!((bS l).contains x)))++dN z'))=L++Blk.cells (bx (jC m l)++dN z')::(X++[Blk.cells [.sl (bx (bS l)) (bS l).length cap']])by simp[jC],show m.filter (λx => !(!((bS l).contains x)))=jC m l from rfl];refine aoH ?_;refine aoE ?_ (CutL (b:=?_)) ⟨k+1,.lsl L.length 0 (jC m l).length none 1,rfl,hlt,?_,hid (.inr ⟨z',X++[.cells [.sl (bx (bS l)) (bS l).length cap']],?_,?_⟩),rfl⟩
     .omega
     .simp at hxs⊢;omega
     .simp at hxs⊢;omega
     .rw[e1.o]
     .rw[e1.o]
   .have hke:k=ls.length:=aoz;subst hke;have g1:¬(ls.length:Int)<(ls.length:Int):=aoz;have ho:=ho.o;rw[alt]at ho;replace ho:=hid ho;refine wk ?_;exact h.o _ _ ho.o
theorem ah8(hn:ls.length<=1000000)(hl:∀l∈ls,l.length<=1000000)(h:K (bO (qY ls)) L):
 alb 29 [.sl (ls.map bO) ls.length cap] L K:=ajC hn hl λ_ _ ho=>ho.finF h
theorem Zj{X:Type}{l m:List X}{d:X}(h1:i<l.length)(h2:i<m.length):l.take (i+1)=m.take (i+1)↔l.take i=m.take i/\l.getD i d=m.getD i d:=by
 rw[aly h1,aly h2];have e1:l.getD i d=l[i]:=by simp[h1]
 have e2:m.getD i d=m[i]:=by simp[h2]
 rw[e1,e2];refine⟨λh=>?_,λh=>by rw[h.1,h.2]⟩;have:=List.append_inj' h aoA;exact⟨this.1,by simpa using this.2⟩
theorem aeY{cap':Option Nat}(hn:xs.length<=1000000)(h:K (.bool (decide (xs=ys))) L):
  alb 22 [.sl (bx xs) xs.length cap,.sl (bx ys) ys.length cap'] L K:=by
 replace h:=hid h;have no:¬xs=ys->K (.bool false) L:=λe=>by simpa[e]using h.o
 replace no:=hid no;refine ac UF (by simp[yU]) ?_;simp only[yU,am];by_cases hlen:xs.length=ys.length;rotate_left;have hl1:¬(xs.length:Int)=(ys.length:Int):=aoz;refine wk ?_;exact aa (no.o λe=>hlen (by rw[e]));have hlen':(ys.length:Int)=(xs.length:Int):=aoz;replace hlen:=hid hlen;refine wk ?_;clear hlen';refine ah (λn T' L'=>∃(i:Nat),n=xs.length-i/\i<=xs.length/\xs.take i=ys.take i/\T'=[(13,.int .i64 (i:Int)),(12,.int .i64 xs.length),(4,.bool false),(1,.sl (bx ys) ys.length cap'),(0,.sl (bx xs) xs.length cap)]/\L=L') (CutS (b:=ale _)) ⟨0,rfl,ali _,rfl,rfl,rfl⟩ ?_;rintro _ _ _ ⟨i,rfl,hi,hti,rfl,rfl⟩;replace hti:=hid hti;by_cases hlt:i<xs.length;have hly:i<ys.length:=by have:=hlen.o;omega
 have h1:(i:Int)<(xs.length:Int):=aoz;have h1':(i:Int)<(ys.length:Int):=by have:=hlen.o;omega
 have h2:=ak9 i aoz;have g5:(bx xs).getD i .undef=.int .i64 (xs.getD i 0):=by simp[hlt]
 have g6:(bx ys).getD i .undef=.int .i64 (ys.getD i 0):=by simp[hly]
 have hsucc:=hid (Zj (l:=xs) (m:=ys) (d:=0) hlt hly);obtain⟨p,hp⟩:=ak7 (xs.getD i 0);obtain⟨q,hq⟩:=ak7 (ys.getD i 0);rw[hp,hq]at hsucc;rw[hp]at g5;rw[hq]at g6;clear hp hq;by_cases hpq:p=q;subst hpq;refine wk ?_;exact aoE aoz (CutS (b:=ale _)) ⟨i+1,rfl,hlt,hsucc.o.2 ⟨hti.o,rfl⟩,rfl,rfl⟩;refine wk ?_;exact aa (no.o λe=>hpq (hsucc.o.1 (by rw[e])).2);have hke:i=xs.length:=aoz;subst hke;have h1:¬(xs.length:Int)<(xs.length:Int):=aoz;have e:=hti.o;rw[alt,hlen.o,alt]at e;have h':=h.o;rw[decide_eq_true e]at h';clear e;replace h':=hid h';refine wk ?_;exact aa h'.o
def Si(b:Nat)(X:List Blk)(v:AV):Prop:=v=.sl [] 0 (some 0)\/∃j n c,v=.lsl (b+j) 0 n none 1/\X[j]?=some (.cells c)/\n<=c.length/\n<=1000000
theorem Si.app(h:Si b X v)(Y:List Blk):Si b (X++Y) v:=by rcases h with rfl|⟨j,n,c,h1,h2,h3⟩;exact .inl rfl;exact .inr ⟨j,n,c,h1,ak8 h2,h3⟩
theorem Si.set{c d:List AV}(h:Si b X v)(hi:X[i]?=some (.cells c))(hd:d.length=c.length):Si b (X.set i (.cells d)) v:=by rcases h with rfl|⟨j,n,e,h1,h2,h3⟩;exact .inl rfl;by_cases hij:i=j;subst hij;rw[hi]at h2;cases h2;exact .inr ⟨i,n,d,h1,by simp[(ald.1 hi).1],aoz,h3.2⟩;exact .inr ⟨j,n,e,h1,by simp[hij,h2],h3⟩
theorem Si.cell(h:Si b X v):AV.cells? v=some [v]:=by rcases h with rfl|⟨j,n,c,rfl,_⟩<;>rfl
theorem Own.row(h:Own (L++X) m v L')(hm:m.length<=1000000):∃Y,L'=L++(X++Y)/\Si L.length (X++Y) v:=by rcases h with⟨rfl,_,rfl⟩|⟨z,rfl,rfl⟩;exact⟨[],aoA,.inl rfl⟩;exact⟨[.cells (bx m++dN z)],aoA,.inr ⟨X.length,m.length,bx m++dN z,aoA,aoA,aoA,hm⟩⟩
end Go.Proofs.YtcmfcpjnhephaaaGreatDoor.Av
