/- Joined texts of the walk, made small by a program. -/
import Derived.Test.YtcmfcpjnhephaaaGreatDoorUk5
import Derived.Test.YtcmfcpjnhephaaaGreatDoorUk8
import Derived.Test.YtcmfcpjnhephaaaGreatDoorUk4
import Derived.Shelf.SlIterI.Nil
import Derived.Lib.SlKeysI
import Derived.Test.YtcmfcpjnhephaaaGreatDoorUk11
import Derived.Test.YtcmfcpjnhephaaaGreatDoorRows
import Derived.KernelRfl
set_option linter.unusedSimpArgs false
set_option linter.unusedVariables false
namespace Go.Proofs.YtcmfcpjnhephaaaGreatDoor.Av
open Go
variable {ck it:Nat}{seen:List Nat}{q:Int->Bool}{L:List Blk}{K:alp}{l:List bt}{f n:List UInt8}{B:Nat->Prop}
variable {L:List Blk}{K:alp}
set_option maxHeartbeats 8000000
set_option maxRecDepth 100000
abbrev Ent:=Int×Bool×Nat
variable {xs:List Ent}{p:Ent}
def WR(p:Ent):AV×AV×Nat:=(.int .i64 p.1,.bool p.2.1,p.2.2)
abbrev iG(xs:List Ent):List (AV×AV×Nat):=xs.map WR
theorem ael(q:Nat->Bool)(xs:List Ent)(ck:Nat):Blk.refs q (.map (iG xs) ck)=true:=by simp[Blk.refs,WR,AV.refs]
theorem aaq:∀(xs:List Ent) (p:Ent) (k:Nat),(xs.map (·.1)).Nodup->p∈xs->∃j,eI (.int .i64 p.1) (iG xs) k=some (some (k+j,.bool p.2.1))/\(iG xs).eraseIdx j=iG (xs.filter λr=>decide (r.1≠p.1))
 |[],p,k,_,h=>by cases h
 | x::xs,p,k,hn,h=>by
   rw[alD,amm]at hn;by_cases hx:p.1=x.1
   .have hp:p=x:=by
     rcases alu.1 h with h|h
     .exact h
     .exact absurd (alt.2 ⟨p,h,hx⟩) hn.1
    subst hp;refine⟨0,by simp[iG,WR,eI,xp],?_⟩;have hf:xs.filter (λr=>decide (r.1≠p.1))=xs:=anO.2 λr hr=>by
     have:r.1≠p.1:=λe=>hn.1 (alt.2 ⟨r,hr,e⟩)
     simpa using this
    simp only[alD,List.eraseIdx_zero,List.tail_cons,anE,ne_eq,not_true_eq_false,decide_false,alG,if_false];simp only[ne_eq]at hf;rw[hf]
   .have hm:p∈xs:=by
     rcases alu.1 h with h|h
     .exact absurd (by rw[h]) hx
     .exact h
    obtain⟨j,h1,h2⟩:=aaq xs p (k+1) hn.2 hm;refine⟨j+1,?_,?_⟩
    .simp only[iG,alD,WR,eI,xp,if_true,decide_eq_false hx];simp only[iG]at h1;rw[h1,show k+1+j=k+(j+1)by omega]
    .have hx':x.1≠p.1:=λe=>hx e.symm
     simp only[iG,alD,List.eraseIdx_cons_succ,anE,hx',ne_eq,not_false_eq_true,decide_true,if_true];simp only[iG,ne_eq]at h2;rw[h2]
theorem ain(hb:(xs.map (·.2.2)).Nodup)(hp:p∈xs):mat (iG xs) ck (seen++[p.2.2]) ck=some (.int .i64 p.1,.bool p.2.1,p.2.2):=by
 have key:∀xs:List Ent,(xs.map (·.2.2)).Nodup->p∈xs->(iG xs).find? (λe=>Nat.beq e.2.2 p.2.2)=some (WR p):=by
  intro xs;induction xs with
  |nil=>intro _ h;cases h
  | cons x xs ih =>
    intro hn h;rw[alD,amm]at hn;rcases alu.1 h with h|h
    .subst h;simp[iG,WR]
    .have hne:x.2.2≠p.2.2:=λe=>hn.1 (alt.2 ⟨p,h,e.symm⟩)
     have hbq:Nat.beq x.2.2 p.2.2=false:=by
      cases hh:Nat.beq x.2.2 p.2.2 with
      |false=>rfl
      |true=>exact absurd (aou hh) hne
     simp only[iG,alD,amF];rw[show Nat.beq (WR x).2.2 p.2.2=false from hbq];exact ih hn.2 h
 simp only[mat,List.getLast?_append,List.getLast?_singleton,Option.some_or,if_true];exact key xs hb hp
def ahj(f:FuncId)(caps:List AV)(ok:List Blk->Prop)(q:Int->Bool):Prop:=∀(L:List Blk) (x:Int) (b:Bool) (K:AV->List Blk->Prop),ok L->K (.bool (q x)) L->alo f ([.int .i64 x,.bool b]++caps) L K
def Gi(xs:List Ent)(q:Int->Bool)(seen:List Nat):List Ent:=xs.filter λp => !(seen.contains p.2.2&&q p.1)
theorem K4{X Y:Type}{f:X->Y}:∀{l:List X},(l.map f).Nodup->∀{a b:X},a∈l->b∈l->f a=f b->a=b
 | x::l,h,a,b,ha,hb,e=>by
   rw[alD,amm]at h;rcases alu.1 ha with h1|h1
   .rcases alu.1 hb with h2|h2
    .rw[h1,h2]
    .exact absurd (alt.2 ⟨b,h2,by rw[<- e,h1]⟩) h.1
   .rcases alu.1 hb with h2|h2
    .exact absurd (alt.2 ⟨a,h1,by rw[e,h2]⟩) h.1
    .exact K4 h.2 h1 h2 e
theorem ae9(hk:(xs.map (·.1)).Nodup)(hb:(xs.map (·.2.2)).Nodup)(hp:p∈xs)(hq:q p.1=true):(Gi xs q seen).filter (λr=>decide (r.1≠p.1))=Gi xs q (seen++[p.2.2]):=by
 unfold Gi;rw[List.filter_filter];refine an5 λr hr=>?_
 by_cases e:r=p;subst e;simp[hq];have e1:r.1≠p.1:=λh=>e (K4 hk hr hp h)
 have e2:r.2.2≠p.2.2:=λh=>e (K4 (f:=λx:Ent=>x.2.2) hb hr hp h)
 simp[e1,e2]
theorem ahV(hb:(xs.map (·.2.2)).Nodup)(hp:p∈xs)(hq:q p.1=false):Gi xs q (seen++[p.2.2])=Gi xs q seen:=by
 unfold Gi;refine an5 λr hr=>?_
 by_cases e:r=p;subst e;simp[hq];have e2:r.2.2≠p.2.2:=λh=>e (K4 (f:=λx:Ent=>x.2.2) hb hr hp h)
 simp[e2]
theorem afa(h:∀e∈iG (Gi xs q seen),seen.contains e.2.2=true):Gi xs q seen=xs.filter λp => !q p.1:=by
 unfold Gi at h⊢;refine an5 λr hr=>?_
 cases hq:q r.1 with
 |false=>simp
 | true =>
   have:seen.contains r.2.2=true:=by
    cases hs:seen.contains r.2.2 with
    |true=>rfl
    | false =>
      have:=h (WR r) (alt.2 ⟨r,alZ.2 ⟨hr,by simp only[hs,amL,anh]⟩,rfl⟩);rw[show(WR r).2.2=r.2.2 from rfl,hs]at this;exact this
   simp only[this,amr]
theorem ada(hp:p∈xs)(hs:seen.contains p.2.2=false):(xs.filter λr => !(seen++[p.2.2]).contains r.2.2).length<(xs.filter λr => !seen.contains r.2.2).length:=by
 have e:(xs.filter λr => !(seen++[p.2.2]).contains r.2.2)=(xs.filter λr => !seen.contains r.2.2).filter (λr=>decide (r.2.2≠p.2.2)):=by
  rw[List.filter_filter];refine an5 λr _=>?_
  by_cases h:r.2.2=p.2.2<;>simp[h]
 rw[e];refine aoB.2 ⟨p,alZ.2 ⟨hp,by rw[hs];rfl⟩,aoK⟩
theorem acF{f:FuncId}{caps:List AV}{ok:List Blk->Prop}{i:Nat}(hq:ahj f caps ok q)(hok:∀l c y,ok (L.set i (.map l c)++[y]))(hk:(xs.map (·.1)).Nodup)(hb:(xs.map (·.2.2)).Nodup)(hc:∀p∈xs,p.2.2<ck)(hi:L[i]?=some (.map (iG xs) ck))(h:K (.tup []) (L.set i (.map (iG (xs.filter λp => !q p.1)) ck))):
  alo 42 [.lmap i,.func f caps] L K:=by
 have hil:i<L.length:=(alq.1 hi).1;have hset:L.set i (.map (iG xs) ck)=L:=by
  apply amW;intro j;rw[alO];split;rename_i e;subst e
  first|exact hi.symm|(rw[if_pos hil];exact hi.symm)
  rfl
 replace h:=hid h;replace hq:=hid hq;replace hok:=hid hok;replace hk:=hid hk;replace hb:=hid hb;replace hc:=hid hc;replace hset:=hid hset;refine aln eZ ?_;have e0:Gi xs q []=xs:=by simp[Gi]
 refine ah (λn T' L'=>∃(seen:List Nat),n=(xs.filter λr => !seen.contains r.2.2).length/\T'=[(7,.ptr L.length 0),(0,.lmap i),(1,.func f caps)]/\L'=L.set i (.map (iG (Gi xs q seen)) ck)++[.miter (some i) ck seen ck]) aoN ⟨[],rfl,rfl,by rw[e0,hset.o]⟩ ?_;clear hi e0;rintro _ _ _ ⟨seen,rfl,rfl,rfl⟩;have i1:∀A B,(L.set i A++[B])[L.length]?=some B:=λA B=>aoK
 have i2:∀A B,(L.set i A++[B])[i]?=some A:=λA B=>by rw[aly (by simpa using hil)];simp[hil]
 have i3:∀A B C,(L.set i A++[B]).set L.length C=L.set i A++[C]:=λA B C=>by have:=xN (L.set i A) B C [];rwa[aom]at this
 have i4:∀A B C,(L.set i A++[B]).set i C=L.set i C++[B]:=λA B C=>by rw[amh _ _ (by simpa using hil),amM]
 refine bd ?_;refine UV (i:=L.length) (j:=i) (es:=iG (Gi xs q seen)) aoL rfl (i1 _ _) (i2 _ _) (λe he=>?_) (alr _) (λhall=>?_) (λe he hs=>?_);obtain⟨p,hp,rfl⟩:=alt.1 he;exact hc.o p (alZ.1 hp).1
 .have hfin:=h.o;rw[<- afa hall]at hfin;replace hfin:=hid hfin;clear hall;refine sk ?_
  repeat' first
   |refine bd ?_
   | (first|refine aV aoL ?_|refine aB aoL ?_|refine aE ?_|refine bJ ?_|refine bg (fun _=>?_)|refine ax ?_|refine aY ?_)
     refine sm ?_
   | (first|refine aO aoL ?_|refine aP ?_|refine aD ?_|refine aW ?_|refine bq (aw ?_))
     refine sl ?_
   |exact bh
   |first|apply bj|apply aR|apply bm|apply aS|apply bo|apply aT
   |refine aH ?_
   |refine aC ?_
   |first|refine aF rfl ?_|refine aG rfl ?_|refine ao rfl ?_ ?_|refine aJ rfl (λ_=>?_) (λ_=>?_)|refine aI rfl (λ_=>?_) (λ_=>?_)
   |((first|refine an (λ_=>?_) (λ_=>?_)|refine au (λ_=>?_) (λ_=>?_))<;>try refine sm ?_)
   |refine And.intro trivial ?_
   |refine And.intro aoJ ?_
   |refine aL rfl (λ_=>?_) (λ_=>?_)
   |refine And.intro ?_ ?_
  exact .inl rfl;refine⟨True,[],rfl,trivial,?_⟩;refine mE (L0:=L) (L1:=L.set i (.map (iG (Gi xs q seen)) ck)) aoK (λhw k hk'=>?_) rfl hfin.o;rcases anM hk' with h1|h1;exact hw k h1;rw[h1];exact ael _ _ _
 obtain⟨p,hp,rfl⟩:=alt.1 he;clear he;have hpx:=(alZ.1 hp).1;have hs':seen.contains p.2.2=false:=hs;have hlt:=hid (ada hpx hs');have hsub:(Gi xs q seen).Sublist xs:=anw;have hmat:=ain (ck:=ck) (seen:=seen) (List.Nodup.sublist (hsub.map (λx:Ent=>x.2.2)) hb.o) hp;obtain⟨jj,hj1,hj2⟩:=aaq (Gi xs q seen) p 0 (List.Nodup.sublist (hsub.map (λx:Ent=>x.1)) hk.o) hp;have hy:=hid (λhq'=>ae9 (seen:=seen) hk.o hb.o hpx (q:=q) hq');have hn:=hid (λhq'=>ahV (seen:=seen) hb.o hpx (q:=q) hq');rw[amG]at hj1;obtain⟨x,b,m⟩:=p;simp only[WR]at *;clear hs hs' hsub hp;simp only[i3];have hkf:bE .int (.int .i64 x)=true:=rfl;have hle:(L++[Blk.miter (some i) ck [] ck]).length<=(L.set i (Blk.map (iG (Gi xs q seen)) ck)++[Blk.miter (some i) ck (seen++[m]) ck]).length:=aoK;replace hle:=hid hle;refine aoR ?_;refine hq.o _ _ _ _ (hok.o _ _ _) ?_;refine sk ?_;rcases hqx:q x with _|_;have e1:=hid (hn.o hqx);refine wk ?_;refine aoO hlt.o aoN ⟨seen++[m],rfl,rfl,?_⟩;rw[e1.o];have e1:=hid (hy.o hqx);refine wk ?_;refine aoO hlt.o aoN ⟨seen++[m],rfl,rfl,?_⟩;rw[<- e1.o]
def aaa(es:List (AV×AV×Nat))(x:Int):Option Bool:=match eI (.int .i64 x) es 0 with
 |some (some (_,.bool b))=>some (!b)
 |some none=>some true
 |_=>none
theorem abv{ip j:Nat}{es:List (AV×AV×Nat)}(q:Int->Bool)(hes:∀x,aaa es x=some (q x)):ahj 43 [.ptr ip 0] (λL=>L[ip]?=some (.cells [.lmap j])/\L[j]?=some (.map es ck)) q:=λL x b K hok h=>by obtain⟨h1,h2⟩:=hok;replace h:=hid h;have hx:=hes x;clear hes;unfold aaa at hx;have hkf:bE .int (.int .i64 x)=true:=rfl;refine ac jG (by simp[dB]) ?_;simp only[dB,am];split at hx;rename_i jj y hm;simp only[als]at hx;replace hx:=hid hx;refine wk ?_;have h':=h.o;rw[<- hx.o]at h';exact aa h';rename_i hm;simp only[als]at hx;replace hx:=hid hx;refine wk ?_;have h':=h.o;rw[<- hx.o]at h';exact aa h';cases hx
theorem adQ{ip:Nat}:ahj 43 [.ptr ip 0] (λL=>L[ip]?=some (.cells [.nilmap])) (λ_=>true):=λL x b K hok h=>by replace h:=hid h;have hkf:bE .int (.int .i64 x)=true:=rfl;refine aln jG ?_;exact aa h.o
open Go Go.Proofs Go.RowKit Go.Maps Go.Sort Go.Shelf
theorem Xk(m:Nat):AnyZI.SortsIn Tryz.prog Tryz.sortedA_ren Fence.wide m :=
 ⟨λblk off cap ss W hH hblk hsz=>callsIn_wide.2 (Tryz.slices_Sort_int blk off cap ss W hH hblk hsz),
  λp cap W=>callsIn_wide.2 (Tryz.slices_Sort_int_none p cap W)⟩
set_option maxHeartbeats 2000000 in
theorem ady{H:Type}(b nn:Nat)(D0:DataW H)(R:Value->Option (DataW H×List MemPlace))(w:World)(hown:w.ownsMap Tryz.prog 3 R b nn D0)(hmax:Maps.size D0<=maxLen)(hbytes:Maps.size D0*8<=140737488355328):
  Calls Tryz.prog 44 #[.map (some b)] w λe w'=>∃(v:Value) (ss:List Int),e=.returned v/\ss.Perm (intKeys D0) /\
   w'.ownsRow w.heap.size 3 1 v ss.length ((ss.mergeSort (λx y=>decide (x<=y))).map encZ)/\(v=.slice none 0 0↔ss=[])/\Below w.heap.size w w':=by
 refine(callsIn_wide (n:=6)).1 ?_;have hbl:=hown.lt;have hseq:SeqGives Fence.wide 2 Tryz.prog 129 #[.pointer (some ⟨w.heap.size,0,none⟩)] encZ (λss=>ss.Perm (intKeys D0)) (Maps.size D0) (w.alloc (.cells #[.map (some b)] 101)):=
  AnyZI.keys_gives (ρ:=Tryz.keysA_ren) {Tryz.keysA with} Fence.wide _ trivial rfl aoJ w.heap.size b nn D0 _ aoK aoK (by obtain⟨es,clock,hb,Ft,hs,hD⟩:=hown;exact⟨es,clock,(Below.heap_alloc _ _ b hbl).trans hb,Ft,hs,hD⟩)
 have cK:∀mb W,CallsIn Fence.wide 5 Tryz.prog 88 #[.map mb] W λe w'=>e=.returned (.func (.func 129) #[] #[.pointer (some ⟨W.heap.size,0,none⟩)])/\w'=W.alloc (.cells #[.map mb] 101):=λmb W=>AnyZI.keys_in Tryz.keysA Fence.wide 5 trivial rfl mb W
 have cS:=AnyZI.sorted_in Tryz.sortedA Fence.wide 5 trivial trivial trivial trivial rfl aoJ (Xk _) (enters_of Tryz.func105 aoL rfl) 129 #[.pointer (some ⟨w.heap.size,0,none⟩)] trivial (enters_of Tryz.func129 aoL rfl) _ _ hmax hbytes _ hseq;change CallsIn _ _ Tryz.prog 55 _ _ _ at cS;have hfK:Fence.wide.fn 88:=trivial;have hfS:Fence.wide.fn 55:=trivial;refine callsIn_of_wp Tryz.func44 rfl trivial ?_ rfl;simp only[Tryz.ntmps44,an9,alA,amg,Nat.reduceAdd,Nat.reduceSub,Array.replicate_succ,Array.replicate_zero,List.push_toArray,List.append_toArray,al2,al3]
 gi_wp2_with (first
  |(gi_at_call 88;refine(cK _ _).mono ?_;rintro e w' ⟨rfl,rfl⟩)
  |(gi_at_call 55;refine cS.mono ?_;rintro e w' ⟨v,ss,rfl,hS,hrow,hnil,hb⟩))
 go_ret
 exact⟨v,ss,rfl,hS,ownsRow_base_a hrow aoK,hnil,((Below.refl _ w).alloc (alr _) _).trans (hb.mono aoK)⟩
theorem WL(w:World):Calls Tryz.prog 44 #[.map none] w λe w'=>e=.returned (.slice none 0 0)/\Below w.heap.size w w':=by
 refine(callsIn_wide (n:=6)).1 ?_;have hseq:SeqGives Fence.wide 2 Tryz.prog 129 #[.pointer (some ⟨w.heap.size,0,none⟩)] encZ (λss:List Int=>ss=[]) 0 (w.alloc (.cells #[.map none] 101)):=
  AnyZI.keys_gives_nil (ρ:=Tryz.keysA_ren) {Tryz.keysA with} Fence.wide _ trivial rfl w.heap.size _ aoK aoK
 have cK:∀mb W,CallsIn Fence.wide 5 Tryz.prog 88 #[.map mb] W λe w'=>e=.returned (.func (.func 129) #[] #[.pointer (some ⟨W.heap.size,0,none⟩)])/\w'=W.alloc (.cells #[.map mb] 101):=λmb W=>AnyZI.keys_in Tryz.keysA Fence.wide 5 trivial rfl mb W
 have cS:=AnyZI.sorted_in Tryz.sortedA Fence.wide 5 trivial trivial trivial trivial rfl aoJ (Xk _) (enters_of Tryz.func105 aoL rfl) 129 #[.pointer (some ⟨w.heap.size,0,none⟩)] trivial (enters_of Tryz.func129 aoL rfl) _ 0 (alw _) aoJ _ hseq;change CallsIn _ _ Tryz.prog 55 _ _ _ at cS;have hfK:Fence.wide.fn 88:=trivial;have hfS:Fence.wide.fn 55:=trivial;refine callsIn_of_wp Tryz.func44 rfl trivial ?_ rfl;simp only[Tryz.ntmps44,an9,alA,amg,Nat.reduceAdd,Nat.reduceSub,Array.replicate_succ,Array.replicate_zero,List.push_toArray,List.append_toArray,al2,al3]
 gi_wp2_with (first
  |(gi_at_call 88;refine(cK _ _).mono ?_;rintro e w' ⟨rfl,rfl⟩)
  |(gi_at_call 55;refine cS.mono ?_;rintro e w' ⟨v,ss,rfl,rfl,hrow,hnil,hb⟩;obtain rfl:v=.slice none 0 0:=hnil.2 rfl))
 go_ret
 exact⟨rfl,((Below.refl _ w).alloc (alr _) _).trans (hb.mono aoK)⟩
theorem Rel.grownNew{w0:World}{S0:SB}{E:Env}{w w':World}(h:Rel w0 S0 E L w)(g:sx w w'):
  ∃E',E.le E'/\Rel w0 S0 E' L w'/\∀b o v,w.heap.size<=b->w'.cell? ⟨b,o,none⟩=some v->E'.mem b o=some v:=by
 have h':=h.grown g;have hle:E.le {E with mem:=λb o=>if w.heap.size<=b then w'.cell? ⟨b,o,none⟩else E.mem b o}:=⟨λb o v hv=>by show(if w.heap.size<=b then w'.cell? ⟨b,o,none⟩else E.mem b o)=some v;have:=h.mem_lt hv;rw[if_neg aoJ];exact hv,λ_ _ x=>x,λ_ t ht=>⟨t,ht,.inl rfl⟩⟩
 refine⟨_,hle,⟨λb o v hv=>?_,λi k hk=>?_,h'.fresh,λi k c hk hl hc=>⟨λo=>?_,(h'.own i k c hk hl hc).2⟩,h'.inj,h'.tkfresh,λi n sz t d hi ht hd=>⟨λo ho=>?_,(h'.tkown i n sz t d hi ht hd).2⟩,h'.tkloc,h'.tkinj,h'.frame,h'.size,h'.os,h'.tape,h'.output,h'.glob.mono hle.mem,h'.gsz⟩,λb o v hb hv=>?_⟩;have hv:(if w.heap.size<=b then w'.cell? ⟨b,o,none⟩else E.mem b o)=some v:=hv;split at hv;exact hv;exact h'.mem b o v hv;rcases hl:k.live with _|_;exact bB.still (E:=E) hl rfl (λ_ _ _ _ _ _ _=>rfl) (h'.blk i k hk);exact bB.mono hle hl (h'.blk i k hk);have hc:E.loc i=some c:=hc;show(if w.heap.size<=c.blk then w'.cell? ⟨c.blk,o,none⟩else E.mem c.blk o)=none;have:=h.loc_lt hk hl hc;rw[if_neg aoJ];exact(h.own i k c hk hl hc).1 o;have ht:E.tok i=some t:=ht;show(if w.heap.size<=d.blk then w'.cell? ⟨d.blk,o,none⟩else E.mem d.blk o)=none;have:=h.tok_lt hi ht hd;rw[if_neg aoJ];exact(h.tkown i n sz t d hi ht hd).1 o ho;show(if w.heap.size<=b then w'.cell? ⟨b,o,none⟩else E.mem b o)=some v;rw[if_pos hb];exact hv
theorem Yh{P:Program}{f:FuncId}{fn:Func}(hf:P.funcs[f]?=some fn)(hb:fn.body.isSome=true)(hn:(fn.name == "runtime.NumGoroutine")=false){args:List AV}{r:AV}(hc:∀ (w0:World) (S0:SB) (E:Env) (w:World) (vs:List Value),Rel w0 S0 E L w->VRL E args vs->Calls P f ⟨vs⟩ w fun e w'=>∃ v,e=.returned v/\sx w w'/\∀ E':Env,E.le E'->(∀ b o v,w.heap.size<=b->w'.cell? ⟨b,o,none⟩=some v->E'.mem b o=some v)->VR E' r v)(hk:K r L):ae P f args L K:=fun w0 S0 E w vs hR hv=>by
 refine .inl ⟨?_,(hc w0 S0 E w vs hR hv).mono λe w' ⟨v,h1,h3,h2⟩=>by obtain⟨E',g1,g2,g3⟩:=hR.grownNew h3;exact⟨E',v,r,L,h1,g1,hk,h2 E' g1 g3,g2⟩⟩
 simp only[callFunc,alz,run_program,alB,hf,hn];cases h:fn.body with
 |none=>simp[h]at hb
 |some c=>simp
open Go.RowKit Go.Maps Go.Sort Go.MapKept in
theorem afp{i:Nat}{es:List (AV×AV×Nat)}{ks:List Int}(hi:L[i]?=some (.map es ck))(hks:xV es=some ks)(hf:UN es ck ks=true)(h:K (.sl ((eT ks).map (AV.int .i64)) ks.length none) L):alo 44 [.lmap i] L K:=by
 refine Yh Tryz.func44 rfl aoL (λw0 S0 E w vs hR hv=>?_) h;simp only[VRL]at hv;obtain⟨v,_,rfl,hv,rfl⟩:=hv;obtain⟨c,rs,hc,rfl,hb,hm⟩:=K5 hR hi hv;obtain⟨hk1,hk2⟩:=XC hm hks;simp only[UN,alx,alC,decide_eq_true_eq]at hf;obtain⟨⟨⟨⟨f1,f2⟩,f3⟩,f4⟩,f5⟩:=hf;have hlen:rs.size=es.length:=by have:=ay.len hm;simpa using this
 have hkl:ks.length=es.length:=by have:=congrArg List.length hk1;simp at this;omega
 have hkey:∀(k:Int),k∈ks->keyOf Tryz.prog 3 (.int .i64 k)=some (.int .i64 k):=λk hk=>by
  have hw:(Lit.int .i64 k).wf=true:=by have:=f1 k hk;simp only[Lit.wf,alx,decide_eq_true_eq];exact this
  unfold keyOf mapKey;rw[show(Tryz.prog).underlying 3=some (.int .i64)from Tryz.underlying3];simp[hw]
 have hmem:∀x∈rs.toList,∃k,k∈ks/\x.key=.int .i64 k:=λx hx=>by have:x.key∈rs.toList.map (·.key):=alt.2 ⟨x,hx,rfl⟩;rw[hk1]at this;obtain⟨k,h1,h2⟩:=alt.1 this;exact⟨k,h1,h2.symm⟩
 have hrd:∀x∈rs.toList,∀k,k∈ks->x.key=.int .i64 k->Go.WideElems.rd Tryz.prog 3 (λ_=>some ((.nil:DataW Unit),[])) x=some (.int .i64 k,.nil):=λx hx k hk e=>by simp[Go.WideElems.rd,e,hkey k hk]
 have hown:w.ownsMap Tryz.prog 3 (λ_=>some ((.nil:DataW Unit),[])) c.blk rs.size (.map ((rs.toList.map (Go.WideElems.rg Tryz.prog 3 (λ_=>some ((.nil:DataW Unit),[])))).foldr DataW.insert [])):=by refine⟨rs,ck,hb,⟨by simp only[maxLen];omega,⟨λx hx=>?_,?_,?_⟩,λx hx=>?_⟩,alr _,rfl⟩;have:x.born∈rs.toList.map (·.born):=alt.2 ⟨x,hx,rfl⟩;rw[hk2]at this;obtain⟨e,h1,h2⟩:=alt.1 this;rw[<- h2];exact f4 e h1;rw[hk2];exact Xx f3;rw[hk1];exact List.Pairwise.map (Value.int .i64) (λa b hab e=>hab (by simpa using e)) (Xv f2);obtain⟨k,h1,h2⟩:=hmem x hx;exact⟨_,hrd x hx k h1 h2⟩
 have hperm:(intKeys (.map ((rs.toList.map (Go.WideElems.rg Tryz.prog 3 (λ_=>some ((.nil:DataW Unit),[])))).foldr DataW.insert []))).Perm ks:=by
  have e1:(rs.toList.map (Go.WideElems.rg Tryz.prog 3 (λ_=>some ((.nil:DataW Unit),[])))).map (λp=>_root_.Go.intOf p.1)=ks:=by
   have e2:rs.toList.map (λx=>_root_.Go.intOf ((Go.WideElems.rg Tryz.prog 3 (λ_=>some ((.nil:DataW Unit),[]))) x).1)=rs.toList.map λx=>(match x.key with|.int _ n=>n|_=>0):=by
    refine am5 λx hx=>?_
    obtain⟨k,h1,h2⟩:=hmem x hx;rw[Go.WideElems.rg_of (hrd x hx k h1 h2),h2];rfl
   simp only[al0,anX];rw[e2];have e3:(rs.toList.map (·.key)).map (λv:Value=>match v with|.int _ n=>n|_=>0)=ks:=by rw[hk1,al0];exact List.map_id' ks
   simp only[al0,anX]at e3;exact e3
  have:=(WideShapes.sorted_perm (rs.toList.map (Go.WideElems.rg Tryz.prog 3 (λ_=>some ((.nil:DataW Unit),[]))))).map (λp=>_root_.Go.intOf p.1);rw[e1]at this;exact this
 have hsz:Maps.size (.map ((rs.toList.map (Go.WideElems.rg Tryz.prog 3 (λ_=>some ((.nil:DataW Unit),[])))).foldr DataW.insert []))=rs.size:=by rw[Maps.size_eq,(WideShapes.sorted_perm _).length_eq];simp
 refine(ady c.blk rs.size _ _ w hown (by rw[hsz];simp only[maxLen];omega) (by rw[hsz];omega)).mono ?_;rintro e w' ⟨v,ss,rfl,hS,hrow,hnil,hbel⟩;refine⟨v,rfl,⟨λb hb=>hbel.block b hb,hbel.size,hbel.os,hbel.tape,hbel.output⟩,λE' hE hnew=>?_⟩;have hp:ss.Perm ks:=hS.trans hperm;have hms:ss.mergeSort (λx y=>decide (x<=y))=eT ks:=by rw[<- XL];exact mergeSort_of_perm_i hp
 rw[hms]at hrow;have hl2:ss.length=ks.length:=hp.length_eq;simp only[VR];rcases hrow.2 with⟨rfl,hz⟩|⟨g,cap,cur,rfl,hg,hcur,h1,h2,h3,h4⟩;refine⟨none,0,by rw[hl2]at hz;rw[hz],aoJ,(λk hk=>by cases hk),.inl ⟨aoJ,rfl,?_⟩⟩;have:(eT ks).length=0:=by rw[(df ks).length_eq];omega
 rw[al1.1 this];rfl;refine⟨some ⟨g,0,none⟩,cap,by rw[hl2],aoJ,(λk hk=>by cases hk),.inr ⟨g,0,rfl,VRC.of_get λj a ha=>?_⟩⟩;obtain⟨z,hz,rfl⟩:=alS.1 (amc ..▸ha);refine⟨.int .i64 z,?_,by simp[VR]⟩;refine hnew g (0+j) _ hg ?_;have hj:j<(eT ks).length:=(alq.1 hz).1;have h5:(cur.toList.take (ss.length*1))[j]?=some (Value.int .i64 z):=by rw[h4,amc,hz];rfl
 rw[List.getElem?_take]at h5;split at h5;simp only[World.cell?,hcur];simpa using h5;cases h5
theorem aa4(h:K (.sl [] 0 (some 0)) L):alo 44 [.nilmap] L K:=by refine Yh Tryz.func44 rfl aoL (λw0 S0 E w vs hR hv=>?_) h;simp only[VRL,VR]at hv;obtain⟨_,_,rfl,rfl,rfl⟩:=hv;refine(WL w).mono ?_;rintro e w' ⟨rfl,hbel⟩;refine⟨_,rfl,⟨λb hb=>hbel.block b hb,hbel.size,hbel.os,hbel.tape,hbel.output⟩,λE' hE hnew=>?_⟩;simp only[VR];exact⟨none,0,rfl,alr _,(λk hk=>by cases hk;rfl),.inl aoK⟩
abbrev rH(l:List Int):AV:=.sl (l.map (AV.int .i64)) l.length none
structure Uj(l:List bt):Prop where
 len:l.length<=1000
 rng:∀e∈l,-9223372036854775808<=e.1/\e.1<=9223372036854775807
def ZA(tm:TMp)(l:List bt)(n:List UInt8):List Int:=match cO tm (af n)with
 |none=>[]
 |some _=>mG l (af n)
def agT(tm:TMp)(l:List bt)(n v:List UInt8):List Int:=match cO tm (af n)with
 |none=>[]
 |some ty=>agU (gg tm) l (af n) ty.2.1 v
def air(tm:TMp)(l:List bt)(n:List UInt8)(ps:List Pc):List Int:=match cO tm (af n)with
 |none=>[]
 |some ty=>RS (gg tm) l (af n) ty.2.1 ps
theorem act(h:Uj l):(∀x∈mG l f,-9223372036854775808<=x/\x<=9223372036854775807)/\(mG l f).length<=1000:=by refine⟨λx hx=>?_,?_⟩;obtain⟨a,h1,_⟩:=p9.1 hx;exact h.rng _ h1;unfold mG;rw[al5];exact alQ (anm _ _) h.len
theorem aiE{tys:List (List UInt8×Int)}(h:Uj l){k:ba}:(∀x∈gb tys l k,-9223372036854775808<=x/\x<=9223372036854775807)/\(gb tys l k).length<=1000:=by refine⟨λx hx=>?_,?_⟩;obtain⟨a,h1,_⟩:=mo.1 hx;exact h.rng _ h1;unfold gb;rw[al5];exact alQ (anm _ _) h.len
theorem YG{b:Nat}{P:Int->Prop}(h:sw L b P){l:List Int}(hl:l.Pairwise (· < ·))(hp:∀x,P x↔x∈l)(hi:(∀x∈l,-9223372036854775808<=x/\x<=9223372036854775807)/\l.length<=1000)(hk:K (rH l) L):alo 44 [.lmap b] L K:=by obtain⟨es,ck,ks,h1,h2,h3,h4,h5⟩:=h.rise hl hp hi.1 hi.2;refine afp h1 h2 h3 ?_;rw[h4,h5];exact hk
theorem RX{tm:TMp}(ho:IxO L it tm l B)(hn:bv n)(h:K (.bool (cO tm (af n)).isSome) L):alo 11 [.ptr it 0,.str n] L K:=by
 obtain⟨im,ie,ip,ii,em,ec,pm,pc,dm,dc,h1,h2,h3,h4⟩:=ho;obtain⟨f,hf⟩:=alj (af n);have kk1:Hid (Ctr Tryz.prog 38 [.str n] (.str f)):=@hid _ (by intro L K q;exact fv hn (by rw[hf];exact q));rw[hf]at h;have hst:∀X,(L++X)[it]?=some (.cells [.lmap im,.lmap ie,.lmap ip,.lmap ii]):=λX=>(h1.more X).st
 have hty:∀X,(L++X)[im]?=some (.map (be AV.str tyV tm) tm.length):=λX=>(h1.more X).ty
 have hst0:=h1.st;have hty0:=h1.ty;have hks:bE .str (.str f)=true:=rfl;rcases dk (va:=tyV) rm h1.tok f qm with⟨j,⟨w1,w2,w3,w4⟩,q1,q2,_⟩|⟨q1,q2,_⟩;rw[q1]at h;simp only[amQ]at h;replace h:=hid h;clear h1 h2 h3 h4 q1;refine aln qi ?_;refine⟨aA (kk1.o ⟨rfl,rfl⟩) rfl,?_⟩;refine wk ?_;exact ab rfl h.o;rw[q1]at h;simp only[amO]at h;replace h:=hid h;clear h1 h2 h3 h4 q1;refine aln qi ?_;refine⟨aA (kk1.o ⟨rfl,rfl⟩) rfl,?_⟩;refine wk ?_;exact ab rfl h.o
theorem age{tm:TMp}(ho:IxO L it tm l B)(hi:Uj l)(hn:bv n)(h:K (rH (ZA tm l n)) L):alo 14 [.ptr it 0,.str n] L K:=by
 have kk1:Hid (∀{K:alp},K (.bool (cO tm (af n)).isSome) L->alo 11 [.ptr it 0,.str n] L K):=@hid _ (λ{K} q=>RX ho hn q);have hr:=ho.rise;obtain⟨im,ie,ip,ii,em,ec,pm,pc,dm,dc,h1,h2,h3,h4⟩:=ho;unfold ZA at h;obtain⟨f,hf⟩:=alj (af n);have kk2:Hid (Ctr Tryz.prog 38 [.str n] (.str f)):=@hid _ (by intro L K q;exact fv hn (by rw[hf];exact q));rw[hf]at h kk1;have hst:=h1.st;have hpr:=h1.pr;have hks:bE .str (.str f)=true:=rfl;cases hg:cO tm f with
 | none =>
   rw[hg]at h kk1;simp only[amO]at kk1;replace h:=hid h;clear h1 h2 h3 h4 hg hr;refine aln iK ?_;exact bu (aa h.o)
 | some ty =>
   rw[hg]at h kk1;simp only[amQ]at kk1;have hfm:f∈pm.map (·.1):=(h1.pk f).2 (by obtain⟨c,hc⟩:=iF hg;exact alt.2 ⟨_,hc,rfl⟩)
   obtain⟨j,b,q1,q2,_⟩:=sa (va:=AV.lmap) rm 0 h1.pok.keys hfm;rw[amG]at q2;obtain⟨R,hR⟩:=alj (mG l f);have kk3:Hid (∀{K:alp},K (rH R) L->alo 44 [.lmap b] L K):=@hid _ (λ{K} q=>YG (h1.ps f b q1) (K2 hr) (λx=>Iff.rfl) (act hi) (by rw[hR];exact q));simp only[hR]at h;replace h:=hid h;clear h1 h2 h3 h4 hg hr q1 hfm hR;refine aln iK ?_;exact aa h.o
theorem aiy{tm:TMp}(ho:IxO L it tm l B)(hi:Uj l){v:List UInt8}(hn:bv n)(h:K (rH (agT tm l n v)) L):alo 18 [.ptr it 0,.str n,.str v] L K:=by
 have kk1:Hid (∀{K:alp},K (.bool (cO tm (af n)).isSome) L->alo 11 [.ptr it 0,.str n] L K):=@hid _ (λ{K} q=>RX ho hn q);have hr:=ho.rise;obtain⟨im,ie,ip,ii,em,ec,pm,pc,dm,dc,h1,h2,h3,h4⟩:=ho;unfold agT at h;obtain⟨f,hf⟩:=alj (af n);have kk2:Hid (Ctr Tryz.prog 38 [.str n] (.str f)):=@hid _ (by intro L K q;exact fv hn (by rw[hf];exact q));rw[hf]at h kk1;have hst:=h1.st;have hty:=h1.ty;have hid':=h1.ids;have hks:bE .str (.str f)=true:=rfl;rcases dk (va:=tyV) rm h1.tok f qm with⟨j,⟨w1,w2,w3,w4⟩,q1,q2,_⟩|⟨q1,q2,_⟩
 rotate_left
 rw[q1]at h kk1;simp only[amO]at kk1;replace h:=hid h;clear h1 h2 h3 h4 hr q1;refine aln dT ?_;exact bu (aa h.o);rw[q1]at h kk1;simp only[amQ]at kk1;simp only[agU]at h;have kN:Hid (Ctr Tryz.prog 48 [.int .i64 w2,.str v] (iC (bw w2 v))):=@hid _ (λ{L K} q=>eg q);rcases hno:bw w2 v with _|m;rw[hno]at kN h;have kk3:Hid (Ctr Tryz.prog 48 [.int .i64 w2,.str v] (.tup [.str [],.bool false])):=@hid _ (λ{L K} q=>kN.o q);replace h:=hid h;clear h1 h2 h3 h4 hr q1 kN hno;refine aln dT ?_;exact bu (aa h.o);rw[hno]at kN h;simp only at h;have kk3:Hid (Ctr Tryz.prog 48 [.int .i64 w2,.str v] (.tup [.str m,.bool true])):=@hid _ (λ{L K} q=>kN.o q);have hk3:bE (.st [.str,.bool,.str]) (.agg [.str f,.bool false,.str m])=true:=rfl;obtain⟨R,hR⟩:=alj (gb (gg tm) l (f,false,m));rcases dk (va:=AV.lmap) xq h1.dok (f,false,m) 0 with⟨j',b,p1,p2,_⟩|⟨p1,p2,_⟩;have kk4:Hid (∀{K:alp},K (rH R) L->alo 44 [.lmap b] L K):=@hid _ (λ{K} q=>YG (h1.ds _ b p1) (XP hr) (λx=>Iff.rfl) (aiE hi) (by rw[hR];exact q));simp only[hR]at h;simp only[qn]at p2;replace h:=hid h;clear h1 h2 h3 h4 hr q1 kN hno p1 hR;refine aln dT ?_;exact aa h.o;have hRn:R=[]:=by rw[<- hR];have:=h1.dn _ p1;exact aov.2 this
 have kk4:Hid (Ctr Tryz.prog 44 [.nilmap] (.sl [] 0 (some 0))):=@hid _ (λ{L K} q=>aa4 q);simp only[hR,hRn]at h;simp only[qn]at p2;replace h:=hid h;clear h1 h2 h3 h4 hr q1 kN hno p1 hR hRn;refine aln dT ?_;exact bu (aa h.o)
theorem ad1{xs:List (bp Int Bool)}(h:di xs ck)(ht:∀e∈xs,e.2.1=true)(x:Int):aaa (be (AV.int .i64) AV.bool xs) x=some (!(xs.map (·.1)).contains x):=by
 unfold aaa;rcases dk (va:=AV.bool) tD h x true with⟨j,w,q1,q2,_,q4⟩|⟨q1,q2,_,q4⟩;have hw:w=true:=by obtain⟨c,hc⟩:=iF q1;exact ht _ hc
 simp only[q2,hw];rw[ame.2 q4];simp only[q2];have:(xs.map (·.1)).contains x=false:=by
  cases hc:(xs.map (·.1)).contains x with
  |false=>rfl
  |true=>exact absurd (ame.1 hc) q4
 rw[this];rfl
structure LkS(l:List bt)(f:List UInt8)(ys:List (bp Int Bool))(ck:Nat)(M:Int->Prop):Prop where
 ok:di ys ck
 tr:∀e∈ys,e.2.1=true
 mem:∀x,x∈ys.map (·.1)↔x∈mG l f/\M x
theorem LkS.iff{ys:List (bp Int Bool)}{M M':Int->Prop}(h:LkS l f ys ck M)(e:∀x,M x↔M' x):LkS l f ys ck M':=⟨h.ok,h.tr,λx=>by rw[h.mem,e]⟩
theorem LkS.del{ys:List (bp Int Bool)}{M:Int->Prop}(h:LkS l f ys ck M)(q:Int->Bool):LkS l f (ys.filter λp => !q p.1) ck (λx=>M x/\q x=false):=by refine⟨h.ok.filter _,λe he=>h.tr e (alZ.1 he).1,λx=>?_⟩;rw[alt];constructor;rintro⟨e,he,rfl⟩;obtain⟨h1,h2⟩:=alZ.1 he;obtain⟨h3,h4⟩:=(h.mem e.1).1 (alt.2 ⟨e,h1,rfl⟩);exact⟨h3,h4,by simpa using h2⟩;rintro⟨h1,h2,h3⟩;obtain⟨e,he,rfl⟩:=alt.1 ((h.mem x).2 ⟨h1,h2⟩);exact⟨e,alZ.2 ⟨he,by simpa using h3⟩,rfl⟩
theorem XV(t:List UInt8):(af t).length=t.length:=by unfold af;simp
theorem agf{tm:TMp}(ho:IxO L it tm l B)(hi:Uj l)(hn:bv n){ps:List Pc}(hps:ps.length<=1000/\∀p∈ps,p.2.length<=100000){cap:Option Nat}(h:K (rH (air tm l n ps)) L):alo 13 [.ptr it 0,.str n,.sl (iP ps) ps.length cap] L K:=by
 have kk1:Hid (∀{K:alp},K (.bool (cO tm (af n)).isSome) L->alo 11 [.ptr it 0,.str n] L K):=@hid _ (λ{K} q=>RX ho hn q);have hr:=ho.rise;obtain⟨im,ie,ip,ii,em,ec,pm,pc,dm,dc,h1,h2,h3,h4⟩:=ho;unfold air at h;obtain⟨f,hf⟩:=alj (af n);have kk2:Hid (Ctr Tryz.prog 38 [.str n] (.str f)):=@hid _ (by intro L K q;exact fv hn (by rw[hf];exact q));rw[hf]at h kk1;have hst:=h1.st;have hpr:=h1.pr;have hks:bE .str (.str f)=true:=rfl;rcases dk (va:=tyV) rm h1.tok f qm with⟨j,⟨w1,w2,w3,w4⟩,q1,q2,_⟩|⟨q1,_⟩
 rotate_left
 rw[q1]at h kk1;simp only[amO]at kk1;replace h:=hid h;clear h1 h2 h3 h4 hr q1;refine aln ou ?_;exact bu (aa h.o)
 .rw[q1]at h kk1;simp only[amQ]at kk1;simp only at h;have hfm:f∈pm.map (·.1):=(h1.pk f).2 (by obtain⟨c,hc⟩:=iF q1;exact alt.2 ⟨_,hc,rfl⟩)
  obtain⟨jb,b,y1,y2,_⟩:=sa (va:=AV.lmap) rm 0 h1.pok.keys hfm;rw[amG]at y2;obtain⟨xs,ck,s1,s2,s3,s4⟩:=h1.ps f b y1;have kk3:Hid (∀{K:alp},K (.lmap L.length) (L++[mF xs ck])->alo 40 [.lmap b] L K):=@hid _ (λ{K} q=>abn s1 q);replace h:=hid h;replace hps:=hid hps;replace h1:=hid h1;replace s4:=hid s4;replace s3:=hid s3;replace s2:=hid s2;replace hr:=hid hr;replace hi:=hid hi;clear h2 h3 h4 q1 hfm y1 s1;have hpl:=RI ps;obtain⟨PS,hPS⟩:=alj (iP ps);have hat:=hid (λk (q:k<ps.length)=>RJ q);rw[hPS]at hat hpl⊢;clear hPS;refine aln ou ?_;obtain⟨tys,htys⟩:=alj (gg tm);rw[htys]at h h1;obtain⟨ex,hex⟩:=alj (decide (w2=2));refine ah (λm T' L'=>∃(i:Nat) (ys:List (bp Int Bool)) (X:List Blk),m=ps.length-i/\i<=ps.length/\Hid (LkS l f ys ck λx=>∀p∈ps.take i,∀g∈db (pcT ex p),x∈gb tys l (f,true,g))/\T'=[(30,.int .i64 (i:Int)),(29,.int .i64 ps.length),(28,.sl PS ps.length cap),(8,.lmap L.length),(7,.str f),(0,.ptr it 0)]/\L'=L++(mF ys ck::X)) aoN ⟨0,xs,[],rfl,alw _,hid ⟨s2.o,s3.o,λx=>by rw[s4.o];simp⟩,rfl,rfl⟩ ?_;clear kk1 kk2 kk3 hn s2 s3 s4;rintro _ _ _ ⟨i,ys,X0,rfl,hi2,hS,rfl,rfl⟩;have aX:∀(X:List Blk){i:Nat}{b:Blk},L[i]?=some b->(L++X)[i]?=some b:=λX {i b} e=>alk e
  have a1:∀X,(L++X)[it]?=some (.cells [.lmap im,.lmap ie,.lmap ip,.lmap ii]):=λX=>aX X hst
  have a2:∀X,(L++X)[im]?=some (.map (be AV.str tyV tm) tm.length):=λX=>aX X h1.o.ty
  have a3:∀X,(L++X)[ii]?=some (.map (be qn AV.lmap dm) dc):=λX=>aX X h1.o.ids
  by_cases hlt:i<ps.length
  .have hpb:=hps.o.1;have j1:(i:Int)<(ps.length:Int):=aoJ;have j2:=alm i aoJ;have e3:=hat.o i hlt;have e4:i*2+2<=PS.length:=(by rw[hpl];omega);obtain⟨⟨k,t⟩,hp⟩:∃p,ps.getD i (0,[])=p:=⟨_,rfl⟩;have htb:=hps.o.2 (k,t) (by rw[<- hp];simp[hlt]);simp only at htb;rw[hp]at e3;simp only[pcA]at e3;have htk:ps.take (i+1)=ps.take i++[(k,t)]:=(by rw[alN hlt,<- hp];simp[hlt]);obtain⟨t',ht'⟩:=alj (pcT ex (k,t));have hpt:t'.length<=100000:=by rw[<- ht'];unfold pcT;split;exact htb;rw[XV];exact htb
   have kk1:Hid (Ctr Tryz.prog 41 [.str t'] (F9 (db t'))):=@hid _ (λ{L K} q=>acM hpt q);have hgb:(db t').length<=100000:=(by rw[rZ];omega);have hrt:bv t:=(by unfold bv;omega);have kk2:Hid (ex=false->∀{L:List Blk}{K:alp},K (.str t') L->alo 38 [.str t] L K):=@hid _ (λhe {L K} q=>fv hrt (by rw[<- ht',he]at q;exact q));have htt:ex=true->t'=t:=λhe=>by rw[<- ht',he];rfl
   replace htk:=hid htk;replace ht':=hid ht';obtain⟨gs,hgs⟩:=alj (db t');rw[hgs]at kk1 hgb;replace hgs:=hid hgs;replace hgb:=hid hgb;clear hp htb hpt hrt hpb;have hcase:(∃e:w2=2,t'=t)\/(¬w2=2/\Hid (Ctr Tryz.prog 38 [.str t] (.str t'))):=by
    cases hx:ex with
    |true=>exact .inl ⟨of_decide_eq_true (hex.trans hx),htt hx⟩
    |false=>exact .inr ⟨of_decide_eq_false (hex.trans hx),@hid _ (λ{L K} q=>kk2.o hx q)⟩
   clear kk2 htt;replace hex:=hid hex;rcases hcase with⟨hw,rfl⟩|⟨hw,kk2⟩
   all_goals
    refine wk ?_;refine ah (λm T' L'=>∃(j:Nat) (ys:List (bp Int Bool)) (X:List Blk),m=gs.length-j/\j<=gs.length/\Hid (X0.length+1<=X.length)/\Hid (LkS l f ys ck λx=>(∀p∈ps.take i,∀g∈db (pcT ex p),x∈gb tys l (f,true,g))/\∀g∈gs.take j,x∈gb tys l (f,true,g))/\T'=[(49,.int .i64 (j:Int)),(48,.int .i64 gs.length),(47,.sl (gs.map AV.str) gs.length none),(30,.int .i64 (i:Int)),(29,.int .i64 ps.length),(28,.sl PS ps.length cap),(8,.lmap L.length),(7,.str f),(0,.ptr it 0)]/\L'=L++(mF ys ck::X)) aoN ⟨0,ys,_,rfl,alw _,hid aoK,hid (hS.o.iff λx=>aoK),rfl,rfl⟩ ?_;clear hS kk1;rintro _ _ _ ⟨j,ys,X,rfl,hj,hXl,hS,rfl,rfl⟩;by_cases hjg:j<gs.length
    .have hgb2:=hgb.o;have g1:(j:Int)<(gs.length:Int):=aoJ;have g2:=alm j aoJ;have g3:(gs.map AV.str).getD j .undef=.str (gs.getD j []):=(by simp[hjg]);have g4:j<(gs.map AV.str).length:=(by simpa using hjg);obtain⟨g,hg⟩:=alj (gs.getD j []);have htj:gs.take (j+1)=gs.take j++[g]:=(by rw[alN hjg,<- hg];simp[hjg]);rw[hg]at g3;replace htj:=hid htj;obtain⟨GS,hGS⟩:=alj (gs.map AV.str);rw[hGS]at g3 g4⊢;clear hg hgb2;have hk3:bE (.st [.str,.bool,.str]) (.agg [.str f,.bool true,.str g])=true:=rfl;rcases dk (va:=AV.lmap) xq h1.o.dok (f,true,g) 0 with⟨j',b2,p1,p2,_⟩|⟨p1,p2,_⟩
     .obtain⟨zs,ck2,z1,z2,z3,z4⟩:=h1.o.ds _ b2 p1;have hqx:∀x,(!(zs.map (·.1)).contains x)=false↔x∈gb tys l (f,true,g):=λx=>by have e:=z4 x;simp only at e;simp[e]
      have hes:=ad1 z2 z3;obtain⟨q,hq⟩:∃q:Int->Bool,(λx => !(zs.map (·.1)).contains x)=q:=⟨_,rfl⟩;have hqx2:∀x,q x=false↔x∈gb tys l (f,true,g):=λx=>by rw[<- hq];exact hqx x
      have hes2:∀x,aaa (be (AV.int .i64) AV.bool zs) x=some (q x):=λx=>by rw[<- hq];exact hes x
      clear hq hqx hes;have hS2:=hid ((hS.o.del q).iff (M':=λx=>(∀p∈ps.take i,∀g∈db (pcT ex p),x∈gb tys l (f,true,g))/\∀g∈gs.take (j+1),x∈gb tys l (f,true,g)) λx=>by
       rw[htj.o,and_assoc];refine and_congr_right λ_=>?_
       rw[hqx2 x];simp only[alv,alM];constructor
       .rintro⟨q1,q2⟩ y (hy|rfl)
        .exact q1 y hy
        .exact q2
       .intro u;exact⟨λy hy=>u y (.inl hy),u g (.inr rfl)⟩)
      have kk1:Hid (∀{K:alp},K (.tup []) (L++(mF (ys.filter λp => !q p.1) ck::(X++[.cells [.lmap b2]])))->alo 42 [.lmap L.length,.func 43 [.ptr (L.length+(X.length+1)) 0]] (L++(mF ys ck::(X++[.cells [.lmap b2]]))) K):=@hid _ (λ{K} u=>by
       refine acF (xs:=ys) (ck:=ck) (q:=q) (abv (j:=b2) (ck:=ck2) _ hes2) (λl c y=>⟨?_,?_⟩) hS.o.ok.keys hS.o.ok.born hS.o.ok.lt (by rw[rn];rfl) ?_
       .rw[xN,alI,alT aoJ,show L.length+(X.length+1)-L.length=X.length+1 by omega,al3,am7,alI];exact rn _ _ _
       .rw[xN,alI,aly (alq.1 z1).1];exact z1
       .rw[xN];exact u)
      simp only[qn]at p2;clear z1 z2 z3 z4 p1 hS hqx2 hes2;refine wk ?_;rw[<- hGS];exact aoO aoJ (CutL (b:=by simp;have:=hXl.o;omega)) ⟨j+1,_,X++[.cells [.lmap b2]],rfl,hjg,hid (by simp;have:=hXl.o;omega),hS2,rfl,rfl⟩
     .obtain⟨q,hq⟩:∃q:Int->Bool,(λ_=>true)=q:=⟨_,rfl⟩;have hS2:=hid ((hS.o.del q).iff (M':=λx=>(∀p∈ps.take i,∀g∈db (pcT ex p),x∈gb tys l (f,true,g))/\∀g∈gs.take (j+1),x∈gb tys l (f,true,g)) λx=>by
       constructor
       .rintro⟨_,u⟩;rw[<- hq]at u;cases u
       .rintro⟨_,u⟩;exact absurd (u g (by rw[htj.o];simp)) (h1.o.dn _ p1 x))
      have kk1:Hid (∀{K:alp},K (.tup []) (L++(mF (ys.filter λp => !q p.1) ck::(X++[.cells [.nilmap]])))->alo 42 [.lmap L.length,.func 43 [.ptr (L.length+(X.length+1)) 0]] (L++(mF ys ck::(X++[.cells [.nilmap]]))) K):=@hid _ (λ{K} u=>by
       refine acF (xs:=ys) (ck:=ck) (q:=q) (by rw[<- hq];exact adQ) (λl c y=>?_) hS.o.ok.keys hS.o.ok.born hS.o.ok.lt (by rw[rn];rfl) ?_
       .rw[xN,alI,alT aoJ,show L.length+(X.length+1)-L.length=X.length+1 by omega,al3,am7,alI];exact rn _ _ _
       .rw[xN];exact u)
      simp only[qn]at p2;clear p1 hS hq;refine wk ?_;rw[<- hGS];exact aoO aoJ (CutL (b:=by simp;have:=hXl.o;omega)) ⟨j+1,_,X++[.cells [.nilmap]],rfl,hjg,hid (by simp;have:=hXl.o;omega),hS2,rfl,rfl⟩
    .have hje:j=gs.length:=aoJ;subst hje;have g1:¬(gs.length:Int)<(gs.length:Int):=aoJ;have hS2:=hid (hS.o.iff (M':=λx=>∀p∈ps.take (i+1),∀g∈db (pcT ex p),x∈gb tys l (f,true,g)) λx=>by rw[htk.o,alF];simp only[alv,alM];constructor;rintro⟨q1,q2⟩ p (hp|rfl);exact q1 p hp;rw[ht'.o,hgs.o];exact q2;intro q;refine⟨λp hp=>q p (.inl hp),?_⟩;have:=q _ (.inr rfl);rw[ht'.o,hgs.o]at this;exact this)
     clear hS;refine wk ?_;exact aoO aoJ aoM ⟨i+1,_,_,rfl,hlt,hS2,rfl,rfl⟩
  have hie:i=ps.length:=aoJ;subst hie;have j1:¬(ps.length:Int)<(ps.length:Int):=aoJ;have hlr:(RS tys l f w2 ps).Pairwise (· < ·):=by unfold RS;exact List.Pairwise.sublist anw (K2 hr.o)
  have hlm:∀x,x∈ys.map (·.1)↔x∈RS tys l f w2 ps:=λx=>by rw[hS.o.mem,alF];unfold RS;rw[alZ,hex];simp only[alC,ame]
  have hln:(∀x∈RS tys l f w2 ps,-9223372036854775808<=x/\x<=9223372036854775807)/\(RS tys l f w2 ps).length<=1000:=by obtain⟨g1,g2⟩:=act hi.o (f:=f);unfold RS;exact⟨λx hx=>g1 x (alZ.1 hx).1,alQ (anm _ _) g2⟩
  obtain⟨R,hR⟩:=alj (RS tys l f w2 ps);rw[hR]at hlr hlm hln h;have kk1:Hid (∀{K:alp},K (rH R) (L++(mF ys ck::X0))->alo 44 [.lmap L.length] (L++(mF ys ck::X0)) K):=@hid _ (λ{K} q=>YG (P:=λx=>x∈ys.map (·.1)) ⟨ys,ck,aoK,hS.o.ok,hS.o.tr,λx=>Iff.rfl⟩ hlr hlm hln q);clear hlr hlm hln hR hS aX hst a1 a2 a3;refine wk ?_;exact ab (by simp only[AV.refs,iY]) h.o
def KK:Int->List Int->Int
 |o,[]=>o
 |o,v::r=>if v=0 then 0 else if v=1 then KK o r else KK 2 r
def W2(l:List Int):Int:=KK 1 l
def sB(v:Int):Int:=if v=0 then 1 else if v=1 then 0 else 2
def orV(l:List Int):Int:=sB (W2 (l.map sB))
end Go.Proofs.YtcmfcpjnhephaaaGreatDoor.Av
set_option maxRecDepth 100000
namespace Go.Proofs.YtcmfcpjnhephaaaGreatDoor.Av
open Go
def Mm:LSO:=[Ab 2 0]
def Ml:LSO:=[Ab 3 1]
def Mk:LSO:=[Aa 6 0,Am 7 6,Ab 8 0]
def Mj:LSO:=[Ak 9 8 7]
def Mi:LSO:=[Ao 10 1 6 8,Ac 11 1 10,Aa 5 11]
def Mh:LSO:=[Aa 13 5,An 14 13 0,Aa 12 14]
def Mg:LSO:=[Ab 2 0]
def Mf:LSO:=[Aa 16 5,AC 17 16 1,Aa 15 17]
def Me:LSO:=[Ab 3 2]
def Md:LSO:=[Ag 18 8 1,Aa 8 18]
def Gt:LSO:=[Aa 19 3,Aa 2 19]
def Kp:aQ:=⟨20,(aoC Mm [] (aoC Ml [] (.seq (aoC Mk [] (aoF 0 (aoC Mj [] (.seq (aoG 9 0) (.seq (.block 1 (aoC Mi Cx (.block 2 (aoC Mh Cx (aoD 12 (aoC Mg [] .ret) (aoC Mf Cx (aoD 15 (.sreg Me []) .skip))))))) (.sreg Md Cw)))))) (aoC Gt Cw .ret)))),[(.tmp 2)]⟩
attribute [push_cast] Mm Ml Mk Mj Mi Mh Mg Mf Me Md Gt
theorem V8:aoH 71=aoI Kp:=aoL
def Qh:LSO:=[Ab 2 0]
def Qg:LSO:=[Al 3]
def Qf:LSO:=[Aa 6 0,Am 7 6,Ab 8 0]
def Qe:LSO:=[Ak 9 8 7]
def Qd:LSO:=[Ao 10 1 6 8,Ac 11 1 10,Aa 5 11]
def Qc:LSO:=[Aa 12 3,Aa 13 5,Ai 14 73 13,o1 15 (.bslice false 1 1 [(.int .i64 0)] [(0,(1,(tm 14)))]),Cu 16 12 15,Aa 3 16]
def Qb:LSO:=[Ag 17 8 1,Aa 8 17]
def Qa:LSO:=[Aa 18 3,Ai 19 71 18,Ai 20 73 19,Aa 2 20]
def Pz:aQ:=⟨21,(aoC Qh [] (aoC Qg [] (.seq (aoC Qf [] (aoF 0 (aoC Qe [] (.seq (aoG 9 0) (.seq (.block 1 (aoC Qd Cx (.sreg Qc C0))) (.sreg Qb Cw)))))) (aoC Qa Cy .ret)))),[(.tmp 2)]⟩
attribute [push_cast] Qh Qg Qf Qe Qd Qc Qb Qa
theorem WS:aoH 72=aoI Pz:=aoL
def Mc:LSO:=[Ab 2 0]
def Mb:LSO:=[Aa 3 0]
def Ma:LSO:=[An 5 3 0,Aa 4 5]
def L9:LSO:=[Ab 2 1]
def L8:LSO:=[An 7 3 1,Aa 6 7]
def L7:LSO:=[Ab 2 0]
def LZ:LSO:=[Ab 2 2]
def Ko:aQ:=⟨8,(aoC Mc [] (.seq (aoC Mb [] (.block 0 (aoC Ma Cw (aoD 4 (aoC L9 [] .ret) (aoC L8 Cw (aoE 6 (.sreg L7 []))))))) (aoC LZ [] .ret))),[(.tmp 2)]⟩
attribute [push_cast] Mc Mb Ma L9 L8 L7 LZ
theorem V7:aoH 73=aoI Ko:=aoL
variable {L:List Blk}{K:alp}
set_option maxHeartbeats 8000000
set_option maxRecDepth 100000
theorem RO{v:Int}(h:K (.int .i64 (sB v)) L):alo 73 [.int .i64 v] L K:=by
 refine ac V7 (by simp[Ko]) ?_;simp only[Ko,am]
 repeat' first
  |refine bd ?_
  | (first|refine aV aoL ?_|refine aB aoL ?_|refine aE ?_|refine bJ ?_|refine bg (fun _=>?_)|refine ax ?_|refine aY ?_)
    refine sm ?_
  | (first|refine aO aoL ?_|refine aP ?_|refine aD ?_|refine aW ?_|refine bq (aw ?_))
    refine sl ?_
  |exact bh
  |first|apply bj|apply aR|apply bm|apply aS|apply bo|apply aT
  |refine aH ?_
  |refine aC ?_
  |first|refine aF rfl ?_|refine aG rfl ?_|refine ao rfl ?_ ?_|refine aJ rfl (λ_=>?_) (λ_=>?_)|refine aI rfl (λ_=>?_) (λ_=>?_)
  |((first|refine an (λ_=>?_) (λ_=>?_)|refine au (λ_=>?_) (λ_=>?_))<;>try refine sm ?_)
  |refine And.intro trivial ?_
  |refine And.intro aoJ ?_
  |refine aL rfl (λ_=>?_) (λ_=>?_)
  |refine And.intro ?_ ?_
 all_goals (first|refine ab rfl (Kto h ?_)|refine aa (Kto h ?_)|refine ab (by simp only[AV.refs,AV.refsL, *];rfl) (Kto h ?_)|refine bu (ab rfl (Kto h ?_))|(trace_state;fail))
 all_goals (first|(simp[sB, *];done)|(simp[sB, *];omega)|(simp[sB, *];intros;omega)|(simp_all[Hid,sB];done)|(simp_all[Hid,sB];omega))
theorem akV{xs:List Int}{cap:Option Nat}(hn:(xs.length:Int)<=1000000)(h:K (.int .i64 (W2 xs)) L):alo 71 [.sl (xs.map (AV.int .i64)) xs.length cap] L K:=by
 replace h:=hid h;refine ac V8 (by simp[Kp]) ?_;simp only[Kp,am]
 repeat' first
  |refine bd ?_
  | (first|refine aV aoL ?_|refine aB aoL ?_|refine aE ?_|refine bJ ?_|refine bg (fun _=>?_)|refine ax ?_|refine aY ?_)
    refine sm ?_
  | (first|refine aO aoL ?_|refine aP ?_|refine aD ?_|refine aW ?_|refine bq (aw ?_))
    refine sl ?_
  |exact bh
  |first|apply bj|apply aR|apply bm|apply aS|apply bo|apply aT
  |refine aH ?_
  |refine aC ?_
  |first|refine aF rfl ?_|refine aG rfl ?_|refine ao rfl ?_ ?_|refine aJ rfl (λ_=>?_) (λ_=>?_)|refine aI rfl (λ_=>?_) (λ_=>?_)
  |((first|refine an (λ_=>?_) (λ_=>?_)|refine au (λ_=>?_) (λ_=>?_))<;>try refine sm ?_)
  |refine And.intro trivial ?_
  |refine And.intro aoJ ?_
  |refine aL rfl (λ_=>?_) (λ_=>?_)
  |refine And.intro ?_ ?_
 refine ah (λn T' L'=>∃(k:Nat) (o:Int),n=xs.length-k/\k<=xs.length/\Hid (KK o (xs.drop k)=W2 xs)/\T'=[(8,.int .i64 (k:Int)),(7,.int .i64 xs.length),(6,.sl (xs.map (AV.int .i64)) xs.length cap),(3,.int .i64 o),(2,.int .i64 0)]/\L'=L) aoN ⟨0,1,rfl,alw _,hid rfl,rfl,rfl⟩ ?_;rintro _ _ _ ⟨k,o,rfl,hk,ho,rfl,rfl⟩;by_cases hlt:k<xs.length
 .have h1:(k:Int)<(xs.length:Int):=aoJ;have h2:=alm k aoJ;obtain⟨x,hx⟩:=alj (xs[k]);have hd:xs.drop k=x::xs.drop (k+1):=(by rw[ama hlt,hx]);have hg:(xs.map (AV.int .i64)).getD k .undef=.int .i64 x:=(by rw[XT hlt,hx]);have hlk:k<(xs.map (AV.int .i64)).length:=(by simpa using hlt);have ho:=ho.o;rw[hd]at ho;simp only[KK]at ho;by_cases e0:x=0
  .rw[if_pos e0]at ho;replace ho:=hid ho;clear hx hd
   repeat' first
    |refine bd ?_
    | (first|refine aV aoL ?_|refine aB aoL ?_|refine aE ?_|refine bJ ?_|refine bg (fun _=>?_)|refine ax ?_|refine aY ?_)
      refine sm ?_
    | (first|refine aO aoL ?_|refine aP ?_|refine aD ?_|refine aW ?_|refine bq (aw ?_))
      refine sl ?_
    |exact bh
    |first|apply bj|apply aR|apply bm|apply aS|apply bo|apply aT
    |refine aH ?_
    |refine aC ?_
    |first|refine aF rfl ?_|refine aG rfl ?_|refine ao rfl ?_ ?_|refine aJ rfl (λ_=>?_) (λ_=>?_)|refine aI rfl (λ_=>?_) (λ_=>?_)
    |((first|refine an (λ_=>?_) (λ_=>?_)|refine au (λ_=>?_) (λ_=>?_))<;>try refine sm ?_)
    |refine And.intro trivial ?_
    |refine And.intro aoJ ?_
    |refine aL rfl (λ_=>?_) (λ_=>?_)
    |refine And.intro ?_ ?_
   refine aa ?_;have h:=h.o;rw[<- ho.o]at h;exact h
  .rw[if_neg e0]at ho;by_cases e1:x=1
   .rw[if_pos e1]at ho;replace ho:=hid ho;clear hx hd
    repeat' first
     |refine bd ?_
     | (first|refine aV aoL ?_|refine aB aoL ?_|refine aE ?_|refine bJ ?_|refine bg (fun _=>?_)|refine ax ?_|refine aY ?_)
       refine sm ?_
     | (first|refine aO aoL ?_|refine aP ?_|refine aD ?_|refine aW ?_|refine bq (aw ?_))
       refine sl ?_
     |exact bh
     |first|apply bj|apply aR|apply bm|apply aS|apply bo|apply aT
     |refine aH ?_
     |refine aC ?_
     |first|refine aF rfl ?_|refine aG rfl ?_|refine ao rfl ?_ ?_|refine aJ rfl (λ_=>?_) (λ_=>?_)|refine aI rfl (λ_=>?_) (λ_=>?_)
     |((first|refine an (λ_=>?_) (λ_=>?_)|refine au (λ_=>?_) (λ_=>?_))<;>try refine sm ?_)
     |refine And.intro trivial ?_
     |refine And.intro aoJ ?_
     |refine aL rfl (λ_=>?_) (λ_=>?_)
     |refine And.intro ?_ ?_
    exact aoO aoJ aoN ⟨k+1,o,rfl,hlt,ho,rfl,rfl⟩
   .rw[if_neg e1]at ho;replace ho:=hid ho;clear hx hd
    repeat' first
     |refine bd ?_
     | (first|refine aV aoL ?_|refine aB aoL ?_|refine aE ?_|refine bJ ?_|refine bg (fun _=>?_)|refine ax ?_|refine aY ?_)
       refine sm ?_
     | (first|refine aO aoL ?_|refine aP ?_|refine aD ?_|refine aW ?_|refine bq (aw ?_))
       refine sl ?_
     |exact bh
     |first|apply bj|apply aR|apply bm|apply aS|apply bo|apply aT
     |refine aH ?_
     |refine aC ?_
     |first|refine aF rfl ?_|refine aG rfl ?_|refine ao rfl ?_ ?_|refine aJ rfl (λ_=>?_) (λ_=>?_)|refine aI rfl (λ_=>?_) (λ_=>?_)
     |((first|refine an (λ_=>?_) (λ_=>?_)|refine au (λ_=>?_) (λ_=>?_))<;>try refine sm ?_)
     |refine And.intro trivial ?_
     |refine And.intro aoJ ?_
     |refine aL rfl (λ_=>?_) (λ_=>?_)
     |refine And.intro ?_ ?_
    exact aoO aoJ aoN ⟨k+1,2,rfl,hlt,ho,rfl,rfl⟩
 .have hke:k=xs.length:=aoJ;subst hke;have h1:¬(xs.length:Int)<(xs.length:Int):=aoJ;have ho:=ho.o;rw[al6]at ho;replace ho:=hid (show o=W2 xs from ho)
  repeat' first
   |refine bd ?_
   | (first|refine aV aoL ?_|refine aB aoL ?_|refine aE ?_|refine bJ ?_|refine bg (fun _=>?_)|refine ax ?_|refine aY ?_)
     refine sm ?_
   | (first|refine aO aoL ?_|refine aP ?_|refine aD ?_|refine aW ?_|refine bq (aw ?_))
     refine sl ?_
   |exact bh
   |first|apply bj|apply aR|apply bm|apply aS|apply bo|apply aT
   |refine aH ?_
   |refine aC ?_
   |first|refine aF rfl ?_|refine aG rfl ?_|refine ao rfl ?_ ?_|refine aJ rfl (λ_=>?_) (λ_=>?_)|refine aI rfl (λ_=>?_) (λ_=>?_)
   |((first|refine an (λ_=>?_) (λ_=>?_)|refine au (λ_=>?_) (λ_=>?_))<;>try refine sm ?_)
   |refine And.intro trivial ?_
   |refine And.intro aoJ ?_
   |refine aL rfl (λ_=>?_) (λ_=>?_)
   |refine And.intro ?_ ?_
  refine aa ?_;rw[ho.o];exact h.o
theorem Ww{xs:List Int}{i:Nat}(hn:(xs.length:Int)<=1000000)(h:K (.int .i64 (W2 xs)) L):alo 71 [.gsl (xs.map (AV.int .i64)) xs.length i 1] L K :=
 eY (by simpa only[AV.frzL,AV.frz,xw]using akV (cap:=none) hn h)
theorem ala{xs:List Int}{cap:Option Nat}(hn:(xs.length:Int)<=1000000)(h:K (.int .i64 (orV xs)) L):alo 72 [.sl (xs.map (AV.int .i64)) xs.length cap] L K:=by
 replace h:=hid h;refine ac WS (by simp[Pz]) ?_;simp only[Pz,am]
 repeat' first
  |refine bd ?_
  | (first|refine aV aoL ?_|refine aB aoL ?_|refine aE ?_|refine bJ ?_|refine bg (fun _=>?_)|refine ax ?_|refine aY ?_)
    refine sm ?_
  | (first|refine aO aoL ?_|refine aP ?_|refine aD ?_|refine aW ?_|refine bq (aw ?_))
    refine sl ?_
  |exact bh
  |first|apply bj|apply aR|apply bm|apply aS|apply bo|apply aT
  |refine aH ?_
  |refine aC ?_
  |first|refine aF rfl ?_|refine aG rfl ?_|refine ao rfl ?_ ?_|refine aJ rfl (λ_=>?_) (λ_=>?_)|refine aI rfl (λ_=>?_) (λ_=>?_)
  |((first|refine an (λ_=>?_) (λ_=>?_)|refine au (λ_=>?_) (λ_=>?_))<;>try refine sm ?_)
  |refine And.intro trivial ?_
  |refine And.intro aoJ ?_
  |refine aL rfl (λ_=>?_) (λ_=>?_)
  |refine And.intro ?_ ?_
 refine bF (l:=[]) (n:=0) 3 1 rfl (alU 1).symm ?_;refine ah (λn T' L'=>∃(k:Nat) (ys:List Int) (v:List AV) (m:Nat),n=xs.length-k/\k<=xs.length/\m=k/\Hid (ys=(xs.take k).map sB)/\v=ys.map (AV.int .i64)/\T'=[(8,.int .i64 (k:Int)),(7,.int .i64 xs.length),(6,.sl (xs.map (AV.int .i64)) xs.length cap),(3,.gsl v m L.length 1),(2,.int .i64 0)]/\L'=L++[.spare m 1]) aoN ⟨0,[],[],0,rfl,alw _,rfl,hid rfl,rfl,rfl,rfl⟩ ?_;rintro _ _ _ ⟨k,ys,v,m,rfl,hk,hm,hy,rfl,rfl,rfl⟩;by_cases hlt:k<xs.length
 .have h1:(k:Int)<(xs.length:Int):=aoJ;have h2:=alm k aoJ;obtain⟨x,hx⟩:=alj (xs[k]);have hg:(xs.map (AV.int .i64)).getD k .undef=.int .i64 x:=(by rw[XT hlt,hx]);have hlk:k<(xs.map (AV.int .i64)).length:=(by simpa using hlt);have hy':=hid (show ys++[sB x]=(xs.take (k+1)).map sB by rw[hy.o,alN hlt,hx,alW];rfl);clear hx;replace hm:=hid hm;have hm8:(m+1)*8<=140737488355328:=(by rw[hm.o];omega);have hm1:m+1<=140737488355328:=by rw[hm.o];omega
  repeat' first
   |refine bd ?_
   | (first|refine aV aoL ?_|refine aB aoL ?_|refine aE ?_|refine bJ ?_|refine bg (fun _=>?_)|refine ax ?_|refine aY ?_|refine RO ?_|refine aU (RO ⟨rfl,rfl⟩) (RO ⟨rfl,rfl⟩) ?_|refine aA (RO ⟨rfl,rfl⟩) ?_)
     refine sm ?_
   | (first|refine aO aoL ?_|refine aP ?_|refine aD ?_|refine aW ?_|refine bq (aw ?_))
     refine sl ?_
   |exact bh
   |first|apply bj|apply aR|apply bm|apply aS|apply bo|apply aT
   |refine aH ?_
   |refine aC ?_
   |first|refine aF rfl ?_|refine aG rfl ?_|refine ao rfl ?_ ?_|refine aJ rfl (λ_=>?_) (λ_=>?_)|refine aI rfl (λ_=>?_) (λ_=>?_)
   |((first|refine an (λ_=>?_) (λ_=>?_)|refine au (λ_=>?_) (λ_=>?_))<;>try refine sm ?_)
   |refine And.intro trivial ?_
   |refine And.intro aoJ ?_
   |refine aL rfl (λ_=>?_) (λ_=>?_)
   |refine And.intro ?_ ?_
  exact aoO aoJ aoN ⟨k+1,ys++[sB x],_,_,rfl,hlt,by rw[hm.o],hy',aoK,rfl,rfl⟩
 .have hke:k=xs.length:=aoJ;subst hke;have h1:¬(xs.length:Int)<(xs.length:Int):=aoJ;have hyl:m=ys.length:=(by rw[hm,hy.o,alF,al5]);have hyn:(ys.length:Int)<=1000000:=(by rw[<- hyl,hm];exact hn);have e:orV xs=sB (W2 ys):=(by rw[orV,hy.o,alF]);replace e:=hid e;subst hyl;clear hm
  repeat' first
   |refine bd ?_
   | (first|refine aV aoL ?_|refine aB aoL ?_|refine aE ?_|refine bJ ?_|refine bg (fun _=>?_)|refine ax ?_|refine aY ?_|refine Ww hyn ?_|refine RO ?_|refine aU (Ww hyn ⟨rfl,rfl⟩) (Ww hyn ⟨rfl,rfl⟩) ?_|refine aU (RO ⟨rfl,rfl⟩) (RO ⟨rfl,rfl⟩) ?_|refine aA (Ww hyn ⟨rfl,rfl⟩) ?_|refine aA (RO ⟨rfl,rfl⟩) ?_)
     refine sm ?_
   | (first|refine aO aoL ?_|refine aP ?_|refine aD ?_|refine aW ?_|refine bq (aw ?_))
     refine sl ?_
   |exact bh
   |first|apply bj|apply aR|apply bm|apply aS|apply bo|apply aT
   |refine aH ?_
   |refine aC ?_
   |first|refine aF rfl ?_|refine aG rfl ?_|refine ao rfl ?_ ?_|refine aJ rfl (λ_=>?_) (λ_=>?_)|refine aI rfl (λ_=>?_) (λ_=>?_)
   |((first|refine an (λ_=>?_) (λ_=>?_)|refine au (λ_=>?_) (λ_=>?_))<;>try refine sm ?_)
   |refine And.intro trivial ?_
   |refine And.intro aoJ ?_
   |refine aL rfl (λ_=>?_) (λ_=>?_)
   |refine And.intro ?_ ?_
  refine ab rfl ?_;rw[<- e.o];exact h.o
inductive Flt where
 |mk (kind:Int) (attr val:List UInt8) (ps:List Pc) (kids:List Flt)
def Flt.kind:Flt->Int
 |.mk k _ _ _ _=>k
def Flt.attr:Flt->List UInt8
 |.mk _ a _ _ _=>a
def Flt.val:Flt->List UInt8
 |.mk _ _ v _ _=>v
def Flt.ps:Flt->List Pc
 |.mk _ _ _ p _=>p
def Flt.kids:Flt->List Flt
 |.mk _ _ _ _ l=>l
abbrev ZN:Flt:=.mk 0 [] [] [] []
instance:Inhabited Flt:=⟨ZN⟩
def tf1(b:Bool):Int:=if b=true then 1 else 0
def acH(ts:List Typ)(l:List Atr)(ty:Typ)(k:Int)(a v:List UInt8)(ps:List Pc):Int :=
 if k=7 then tf1 (!(cc l a).isEmpty)else
 if k=3\/k=8 then(if(bw ty.2.1 v).isNone=true then 2 else tf1 (abD ts l a v))else
 if k=4 then(if 3<ty.2.1\/tz ps=false then 2 else tf1 ((cc l a).any λx=>(rW ty.2.1 x ps).getD false))else
 if(rT ty.2.1 v v).isNone=true then 2 else tf1 ((cc l a).any λx=>let o:=(rT ty.2.1 x v).getD 0;decide (o=0) ||(decide (0<o) == decide (k=5)))
def RT(ts:List Typ)(l:List Atr)(k:Int)(a v:List UInt8)(ps:List Pc):Int:=match ez ts a with
 |none=>2
 |some ty=>if k<0\/8<k then 2 else acH ts l ty k a v ps
def XK(k:Int)(l:List Int):Int:=if k=0 then W2 l else if k=1 then orV l else if l.length≠1 then 2 else sB (l.getD 0 0)
mutual
def ofM(ts:List Typ)(l:List Atr):Flt->Int
 |.mk k a v ps ks=>if k=0\/k=1\/k=2 then XK k (ZJ ts l ks)else RT ts l k a v ps
def ZJ(ts:List Typ)(l:List Atr):List Flt->List Int
 |[]=>[]
 |f::r=>ofM ts l f::ZJ ts l r
end
theorem ZI(ts:List Typ)(l:List Atr):∀ks:List Flt,ZJ ts l ks=ks.map (ofM ts l)
 |[]=>rfl
 |f::r=>by rw[ZJ,ZI ts l r];rfl
mutual
def fA:Flt->List AV
 |.mk k a v ps ks=>[.int .i64 k,.str a,.str v,.sl (iP ps) ps.length none,.sl (fsA ks) (fsN ks) none]
def fsA:List Flt->List AV
 |[]=>[]
 |f::l=>fA f++fsA l
def fsN:List Flt->Nat
 |[]=>0
 |_::l=>fsN l+1
end
theorem agM:∀l:List Flt,fsN l=l.length
 |[]=>rfl
 |_::l=>by simp only[fsN,alA,agM l]
theorem Kk(k:Int)(a v:List UInt8)(ps:List Pc)(ks:List Flt):fA (.mk k a v ps ks)=[.int .i64 k,.str a,.str v,.sl (iP ps) ps.length none,.sl (fsA ks) ks.length none]:=by rw[fA,agM]
theorem O9(f:Flt):fA f=[.int .i64 f.kind,.str f.attr,.str f.val,.sl (iP f.ps) f.ps.length none,.sl (fsA f.kids) f.kids.length none]:=by obtain⟨k,a,v,ps,ks⟩:=f;exact Kk k a v ps ks
theorem UO:∀l:List Flt,(fsA l).length=l.length*5
 |[]=>rfl
 |n::l=>by simp only[fsA,alJ,UO l,O9,alA,amg];omega
theorem YO:∀{l:List Flt}{k:Nat},k<l.length->((fsA l).drop (k*5)).take 5=fA (l.getD k ZN)
 |n::l,0,_=>by simp[fsA,O9]
 | n::l,k+1,h=>by
   have ih:=@YO l k (by simpa using h);have e:(fsA (n::l)).drop ((k+1)*5)=(fsA l).drop (k*5):=by rw[fsA,List.drop_append,O9];simp only[alA,amg];rw[am4 (by simp;omega),al2];congr 1;omega
   rw[e,ih];rfl
theorem acy(l:List Pc):AV.frzL (iP l)=iP l:=by
 induction l with
 |nil=>rfl
 | cons a l ih =>
   rw[AV.frzL_eq]at ih⊢;simp only[iP,amv,alW]at ih⊢;rw[ih];rfl
mutual
theorem agR:∀n:Flt,AV.frzL (fA n)=fA n
 |.mk k a v ps ks=>by have ih:=YN ks;simp only[fA,AV.frzL,AV.frz,ih,acy]
theorem YN:∀l:List Flt,AV.frzL (fsA l)=fsA l
 |[]=>rfl
 |n::l=>by have h1:=agR n;have h2:=YN l;rw[AV.frzL_eq]at h1 h2⊢;rw[fsA,alW,h1,h2]
end
def Tr(v:Int):Prop:=v=0\/v=1\/v=2
theorem ak8{v:Int}(h:Tr v):sB (sB v)=v:=by rcases h with rfl|rfl|rfl<;>decide
mutual
theorem R5{P:Flt->Prop}(h:∀k a v ps ks,(∀x∈ks,P x)->P (.mk k a v ps ks)):∀f,P f
 |.mk k a v ps ks=>h k a v ps ks (aap h ks)
theorem aap{P:Flt->Prop}(h:∀k a v ps ks,(∀x∈ks,P x)->P (.mk k a v ps ks)):∀(l:List Flt),∀x∈l,P x
 |[],x,hx=>by cases hx
 | f::r,x,hx=>by
   rcases alu.1 hx with e|e
   .rw[e];exact R5 h f
   .exact aap h r x e
end
mutual
def FlB(A V N T M:Nat):Flt->Prop
 |.mk _ a v ps ks=>a.length<=A/\v.length<=V/\ps.length<=N/\(∀p∈ps,p.2.length<=T)/\ks.length<=M/\W6 A V N T M ks
def W6(A V N T M:Nat):List Flt->Prop
 |[]=>True
 |f::r=>FlB A V N T M f/\W6 A V N T M r
end
theorem So{A V N T M:Nat}:∀{l:List Flt},W6 A V N T M l->∀x∈l,FlB A V N T M x
 |[],_,x,hx=>by cases hx
 | f::r,h,x,hx=>by
   rw[W6]at h;rcases alu.1 hx with rfl|e
   .exact h.1
   .exact So h.2 x e
theorem Za{A V N T M:Nat}:∀{l:List Flt},(∀x∈l,FlB A V N T M x)->W6 A V N T M l
 |[],_=>by rw[W6];trivial
 |f::r,h=>by rw[W6];exact⟨h f aoK,Za λx hx=>h x (by simp[hx])⟩
abbrev ahu:Flt->Prop:=FlB 140737488351232 140737488351232 9223372036854775807 140737488351232 9223372036854775807
abbrev WI:Flt->Prop:=FlB 140737488351232 3000 20 100 60
end Go.Proofs.YtcmfcpjnhephaaaGreatDoor.Av
set_option maxRecDepth 100000
namespace Go.Proofs.YtcmfcpjnhephaaaGreatDoor.Av
open Go
def Qr:LSO:=[A4 3 0,A4 4 1,Ab 6 0]
def Qq:LSO:=[Ad 17 0 4,Ac 18 1 17]
def Qp:LSO:=[An 20 18 0,Aa 19 20]
def Qo:LSO:=[An 21 18 1,Aa 19 21]
def Qn:LSO:=[An 22 18 2,Aa 19 22]
def Qm:LSO:=[Al 7]
def Ql:LSO:=[Ad 23 4 4,Ac 24 1 23,Am 25 24,Ab 26 0]
def Qk:LSO:=[Ak 27 26 25]
def Qj:LSO:=[Ao 28 5 24 26,Ap 29 5 28,Ba 9,Aj 5 9 29]
def Qi:LSO:=[Aa 30 7,Ap 31 2 3,Ap 32 5 9,Aa 33 2,A8 34 31 31 32 33,o1 35 (.bslice false 1 1 [(.int .i64 0)] [(0,(1,(tm 34)))]),Cu 36 30 35,Aa 7 36]
def LY:LSO:=[Ag 37 26 1,Aa 26 37]
def LX:LSO:=[Ad 39 0 4,Ac 40 1 39,An 41 40 0,Aa 38 41]
def LW:LSO:=[Aa 42 7,Ai 43 71 42,Aa 6 43]
def LV:LSO:=[Ad 45 0 4,Ac 46 1 45,An 47 46 1,Aa 44 47]
def LU:LSO:=[Aa 48 7,Ai 49 72 48,Aa 6 49]
def LT:LSO:=[Aa 51 7,Am 52 51,AC 53 52 1,Aa 50 53]
def LR:LSO:=[Ab 6 2]
def LQ:LSO:=[Aa 54 7,o1 55 (.iaddr 1 (tm 54) (iv 0)),Ac 56 1 55,Ai 57 73 56,Aa 6 57]
def LP:LSO:=[Ap 59 2 3,Ad 60 1 4,Ac 61 1 60,Ar 62 49 59 61,Aa 58 62,Aq 63 58,Au 64 58,Bk 10,Aj 4 10 63,Aa 11 64]
def LO:LSO:=[Aa 65 11,Ay 66 65,Aa 67 66,.grp none 67 false
 [AJ 68 67 0 4,AD 69 67 1 68,BL 70 67 69 0]
 71 (tm 70),Aa 72 71,.grp none 72 false
 [AJ 73 72 0 4,AD 74 72 1 73,A9 75 72 74 8]
 76 (tm 75)]
def LN:LSO:=[Ab 6 2]
def LM:LSO:=[Aa 77 2,Ad 78 1 4,Ac 79 1 78,Ar 80 52 77 79,Aa 12 80]
def LL:LSO:=[Ad 82 1 10,Ac 83 1 82,Ad 84 2 4,Ac 85 1 84,Ar 86 48 83 85,Aa 81 86,Aq 87 81,Au 88 81,Aa 13 87,Aa 14 88]
def LK:LSO:=[Ad 89 0 4,Ac 90 1 89]
def LJ:LSO:=[An 92 90 7,Aa 91 92]
def LI:LSO:=[Aa 93 12,Am 94 93,A3 95 94 0,Ai 96 74 95,Aa 6 96]
def LH:LSO:=[An 98 90 3,Aa 97 98]
def LG:LSO:=[An 99 90 8,Aa 97 99]
def LF:LSO:=[Aa 100 14,Ay 101 100]
def LE:LSO:=[Ab 6 2]
def LD:LSO:=[Ap 102 2 3,Aa 103 2,Ad 104 1 4,Ac 105 1 104,Ad 106 2 4,Ac 107 1 106,o1 108 (.call 75 [(tm 102),(tm 103),(tm 105),(tm 107)]),Ai 109 74 108,Aa 6 109]
def LC:LSO:=[An 111 90 4,Aa 110 111]
def LB:LSO:=[Ad 112 1 10,Ac 113 1 112,A3 114 113 3,Aa 115 114,.grp none 115 false
 [AJ 116 115 3 4,AD 117 115 1 116,Ct 118 115 4 117,AP 119 115 76 118,BU 120 115 119 0]
 121 (tm 120)]
def LA:LSO:=[Ab 6 2]
def Lz:LSO:=[Aa 122 12,o1 123 (.mkfn 78 [(tm 10),(tm 4)]),Ar 124 77 122 123,Ai 125 74 124,Aa 6 125]
def Ly:LSO:=[Ad 127 1 10,Ac 128 1 127,Ad 129 2 4,Ac 130 1 129,Ad 131 2 4,Ac 132 1 131,A8 133 80 128 130 132,Aa 126 133,Aq 134 126,Au 135 126,Aa 15 134,Aa 16 135]
def Lx:LSO:=[Aa 136 16,Ay 137 136]
def Lw:LSO:=[Ab 6 2]
def Lv:LSO:=[Aa 138 12,o1 139 (.mkfn 81 [(tm 10),(tm 4)]),Ar 140 77 138 139,Ai 141 74 140,Aa 6 141]
def se:aQ:=⟨142,(aoC Qr [] (.seq (aoC Qq Cw (.block 0 (.seq (aoC Qp Cw (aoD 19 .skip (aoC Qo Cw (aoD 19 .skip (.sreg Qn Cw))))) (aoD 19 (aoC Qm [] (.seq (aoC Ql CF (aoF 1 (aoC Qk [] (.seq (aoG 27 1) (.seq (.block 2 (aoC Qj Cx (.sreg Qi C4))) (.sreg LY Cw)))))) (.seq (.block 3 (aoC LX Cy (aoD 38 (aoC LW Cx .ret) (aoC LV Cy (aoD 44 (aoC LU Cx .ret) (aoC LT Cy (aoE 50 (.sreg LR [])))))))) (aoC LQ Cz .ret)))) .skip)))) (aoC LP CI (.seq (aoC LO C0 (aoE 76 (.sreg LN []))) (aoC LM Cz (aoC LL CK (.seq (aoC LK Cw (.block 4 (aoC LJ Cw (aoD 91 (aoC LI Cz .ret) (.seq (aoC LH Cw (aoD 97 .skip (.sreg LG Cw))) (aoD 97 (.seq (aoC LF Cw (aoE 101 (.sreg LE []))) (aoC LD CJ .ret)) (aoC LC Cw (aoD 110 (.seq (aoC LB Cz (aoE 121 (.sreg LA []))) (aoC Lz Cz .ret)) .skip)))))))) (.seq (aoC Ly CG (aoC Lx Cw (aoE 137 (.sreg Lw [])))) (aoC Lv Cz .ret))))))))),[(.tmp 6)]⟩
attribute [push_cast] Qr Qq Qp Qo Qn Qm Ql Qk Qj Qi LY LX LW LV LU LT LR LQ LP LO LN LM LL LK LJ LI LH LG LF LE LD LC LB LA Lz Ly Lx Lw Lv
theorem Pb:aoH 31=aoI se:=aoL
def Gs:LSO:=[Ae 4]
def Gr:LSO:=[Ad 8 1 1,Ac 9 1 8,Aa 10 0,Ad 11 3 2,Ac 12 1 11,A8 13 79 9 10 12,Aa 7 13,Aq 14 7,Au 15 7,Aa 5 14,Aa 6 15]
def Gq:LSO:=[Aa 16 5,Aa 4 16]
def yd:aQ:=⟨17,(aoC Gs [] (aoC Gr Dc (aoC Gq Cw .ret))),[(.tmp 4)]⟩
attribute [push_cast] Gs Gr Gq
theorem Ur:aoH 78=aoI yd:=aoL
def Gp:LSO:=[Ae 4]
def Gn:LSO:=[Ad 8 1 1,Ac 9 1 8,Aa 10 0,Ad 11 2 2,Ac 12 1 11,A8 13 80 9 10 12,Aa 7 13,Aq 14 7,Au 15 7,Aa 5 14,Aa 6 15]
def Gm:LSO:=[Aa 16 5,An 17 16 0,Aa 18 17,.grp none 18 false
 [Ah 19 18 5,A9 20 18 19 0,AJ 21 18 0 2,AD 22 18 1 21,AE 23 18 22 5,og 24 18 false (.eqk false .bool (tm 20) (tm 23))]
 25 (tm 24),Aa 4 25]
def yc:aQ:=⟨26,(aoC Gp [] (aoC Gn Dc (aoC Gm Cz .ret))),[(.tmp 4)]⟩
attribute [push_cast] Gp Gn Gm
theorem Uq:aoH 81=aoI yc:=aoL
def Lu:LSO:=[Ab 2 0]
def Lt:LSO:=[Aa 3 0]
def Lr:LSO:=[Ab 2 1]
def Lq:LSO:=[Ab 2 0]
def qg:aQ:=⟨4,(aoC Lu [] (.seq (aoC Lt [] (aoE 3 (.sreg Lr []))) (aoC Lq [] .ret))),[(.tmp 2)]⟩
attribute [push_cast] Lu Lt Lr Lq
theorem Kn:aoH 74=aoI qg:=aoL
def dE:LSO:=[Ae 4]
def dD:LSO:=[Aa 5 0,Aa 6 1,Ar 7 121 5 6,Bg 8 7 0,Aa 4 8]
def cP:aQ:=⟨9,(aoC dE [] (aoC dD Cz .ret)),[(.tmp 4)]⟩
attribute [push_cast] dE dD
theorem gu:aoH 77=aoI cP:=aoL
def ef:LSO:=[Ab 4 0]
def ee:LSO:=[Aa 6 0,Am 7 6,Ab 8 0]
def ed:LSO:=[Ak 9 8 7]
def d9:LSO:=[Aa 10 8,Aa 5 10]
def d8:LSO:=[Aa 11 1,Aa 12 0,Aa 13 5,Ao 14 1 12 13,Ac 15 1 14,Bt 16 11 15]
def d7:LSO:=[Aa 17 5,Aa 4 17]
def d6:LSO:=[Ag 18 8 1,Aa 8 18]
def dZ:LSO:=[Ab 4 (-1)]
def dd:aQ:=⟨19,(aoC ef [] (.seq (aoC ee C3 (aoF 0 (aoC ed [] (.seq (aoG 9 0) (.seq (.block 1 (aoC d9 Cw (aoC d8 C0 (aoE 16 (.sreg d7 Cw))))) (.sreg d6 Cw)))))) (aoC dZ [] .ret))),[(.tmp 4)]⟩
attribute [push_cast] ef ee ed d9 d8 d7 d6 dZ
theorem iJ:aoH 121=aoI dd:=aoL
def Fi:LSO:=[A4 3 0,Ae 6]
def Fh:LSO:=[Aa 11 1,Ax 12 11,Ac 13 1 12,Ag 14 13 1,Ax 15 11,Aj 1 15 14]
def Fg:LSO:=[Aa 16 1,Ax 17 16,Ac 18 1 17,A3 19 18 60,Aa 20 19,.grp none 20 false
 [Ah 21 20 2,A9 22 20 21 64]
 23 (tm 22),Aa 24 23,.grp none 24 false
 [AJ 25 24 2 3,AD 26 24 1 25,Bv 27 24 26,A9 28 24 27 3000]
 29 (tm 28),Aa 30 29,.grp none 30 false
 [AJ 31 30 3 3,AD 32 30 1 31,Bh 33 30 32,A9 34 30 33 20]
 35 (tm 34),Aa 36 35,.grp none 36 false
 [AJ 37 36 4 3,AD 38 36 1 37,Bh 39 36 38,A9 40 36 39 60]
 41 (tm 40)]
def Ff:LSO:=[Ae 6]
def Fe:LSO:=[Ad 42 3 3,Ac 43 1 42,Am 44 43,Ab 45 0]
def Fd:LSO:=[Ak 46 45 44]
def Fc:LSO:=[Ao 47 2 43 45,Ap 48 2 47,BT 8,Aj 2 8 48]
def Fb:LSO:=[Ad 49 1 8,Ac 50 1 49,Aw 51 50,A3 52 51 100]
def Fa:LSO:=[Ae 6]
def E9:LSO:=[Ag 53 45 1,Aa 45 53]
def xg:LSO:=[Ad 54 4 3,Ac 55 1 54,Am 56 55,Ab 57 0]
def xf:LSO:=[Ak 58 57 56]
def xe:LSO:=[Ao 59 5 55 57,Ap 60 5 59,Ba 10,Aj 5 10 60]
def xd:LSO:=[Ap 61 5 10,Aa 62 1,Aa 63 2,Ag 64 63 1,A8 65 57 61 62 64,Ay 66 65]
def xc:LSO:=[Ae 6]
def xa:LSO:=[Ag 67 57 1,Aa 57 67]
def w9:LSO:=[Az 6]
def t8:aQ:=⟨68,(aoC Fi [] (aoC Fh CB (.seq (aoC Fg CG (aoE 41 (.sreg Ff []))) (.seq (aoC Fe CF (aoF 0 (aoC Fd [] (.seq (aoG 46 0) (.seq (.block 1 (aoC Fc Cx (aoC Fb Cy (aoE 52 (.sreg Fa []))))) (.sreg E9 Cw)))))) (.seq (aoC xg CF (aoF 2 (aoC xf [] (.seq (aoG 58 2) (.seq (.block 3 (aoC xe Cx (aoC xd C0 (aoE 66 (.sreg xc []))))) (.sreg xa Cw)))))) (aoC w9 [] .ret)))))),[(.tmp 6)]⟩
attribute [push_cast] Fi Fh Fg Ff Fe Fd Fc Fb Fa E9 xg xf xe xd xc xa w9
theorem Ti:aoH 57=aoI t8:=aoL
def Fl:LSO:=[A4 1 0,Ae 2]
def Fk:LSO:=[o1 3 (.alloc [(.int .i64 0)]),Bd 1 3 0]
def Fj:LSO:=[Ap 4 5 1,o1 5 (.call 57 [(tm 4),(tm 3),(iv 1)]),Aa 2 5]
def ua:aQ:=⟨6,(aoC Fl [] (aoC Fk [] (aoC Fj Cx .ret))),[(.tmp 2)]⟩
attribute [push_cast] Fl Fk Fj
theorem Tj:aoH 25=aoI ua:=aoL
def E8:LSO:=[Ae 0]
def E7:LSO:=[o1 1 (.call 70 [(.av (.str [40,99,110,61,65,41]))]),An 2 1 1,Aa 3 2,.grp none 3 true
 [og 4 3 true (.call 70 [(.av (.str [40,115,110,61,120,41]))]),AZ 5 3 4 0]
 6 (tm 5),Aa 7 6,.grp none 7 true
 [og 8 7 true (.call 70 [(.av (.str [40,122,122,61,120,41]))]),AZ 9 7 8 2]
 10 (tm 9),Aa 11 10,.grp none 11 true
 [og 12 11 true (.call 70 [(.av (.str [40,33,40,122,122,61,120,41,41]))]),AZ 13 11 12 2]
 14 (tm 13),Aa 15 14,.grp none 15 true
 [og 16 15 true (.call 70 [(.av (.str [40,124,40,122,122,61,120,41,40,99,110,61,97,41,41]))]),AZ 17 15 16 1]
 18 (tm 17),Aa 0 18]
def t7:aQ:=⟨19,(aoC E8 [] (aoC E7 CN .ret)),[(.tmp 0)]⟩
attribute [push_cast] E8 E7
theorem Th:aoH 30=aoI t7:=aoL
def QR:LSO:=[Ab 2 0]
def QQ:LSO:=[Aa 6 0,Ai 7 58 6,Aa 5 7,Aq 8 5,Au 9 5,Ba 3,Aj 5 3 8,Aa 4 9]
def QP:LSO:=[Bz 10 20,Ap 11 5 3,o1 12 (.bslice false 1 1 [(.str [])] [(0,(1,(.av (.str [97]))))]),
 o1 13 (.build [(.str []),(.sl [] 0 (some 0))] [(0,(1,(.av (.str [99,110])))),(1,(1,(tm 12)))]),BI 14 13,A8 15 31 10 11 14,Aa 2 15]
def PH:aQ:=⟨16,(aoC QR [] (aoC QQ CV (.seq (.sdreg QP [(.read 0 0),(.read 0 0),(.read 0 0),.pure,(.read 0 0)] C2) .ret))),[(.tmp 2)]⟩
attribute [push_cast] QR QQ QP
theorem WW:aoH 70=aoI PH:=aoL
attribute [push_cast] se yd yc qg cP dd ua t7 PH
variable {L:List Blk}{K:alp}
set_option maxHeartbeats 8000000
set_option maxRecDepth 100000
theorem ado:∀(f:Flt),ahu f->∀{p:Nat}{n d:Int}{L:List Blk}{K:alp},L[p]?=some (.cells [.int .i64 n])->0<=n->n<=60->1<=d->d<=65->(∀(b:Bool) (m:Int),0<=m->m<=61->(b=true->m<=60/\WI f)->K (.bool b) (L.set p (.cells [.int .i64 m]))) ->
  alo 57 [.agg (fA f),.ptr p 0,.int .i64 d] L K:=by
 refine R5 λk a v ps ks ih hrd p n d L K hL hn0 hn1 hd0 hd1 h=>?_
 simp only[FlB]at hrd;obtain⟨r1,r2,r3,r4,r5,r6⟩:=hrd;replace r6:=hid (So r6);replace ih:=hid ih;have hp:p<L.length:=(alq.1 hL).1;have f1:∀X:List Blk,(L++X)[p]?=some (.cells [.int .i64 n]):=λX=>by rw[aly hp];exact hL
 have f2:∀(X:List Blk) A,(L++X).set p A=L.set p A++X:=λX A=>amh _ _ hp
 have f3:∀(X:List Blk) A,(L.set p A++X)[p]?=some A:=λX A=>by rw[aly (by simpa using hp),alO,if_pos rfl,if_pos hp]
 have f4:∀A:Blk,(L.set p A).length=L.length:=λA=>aoK
 have f5:∀(X:List Blk) A,(L.set p A++X)[L.length]?=X[0]?:=λX A=>by rw[alT aoK];simp
 have f6:∀(X:List Blk) A k,(L.set p A++X)[L.length+k]?=X[k]?:=λX A k=>by rw[alT aoK];simp
 have f7:∀(X:List Blk) A k C,(L.set p A++X).set (L.length+k) C=L.set p A++X.set k C:=λX A k C=>by rw[amd _ _ aoK];simp
 have f8:∀(X:List Blk) A C,(L.set p A++X).set p C=L.set p C++X:=λX A C=>by rw[amh _ _ (by simpa using hp),amM]
 have g0:IntKind.i64.wrap (n+1)=n+1:=ad aoJ aoJ;have g9:IntKind.i64.wrap (d+1)=d+1:=ad aoJ aoJ;have fin:∀(X:List Blk) (b:Bool) (m:Int),K (.bool b) (L.set p (.cells [.int .i64 m]))->Fin L (.bool b) (L.set p (.cells [.int .i64 m])++X) K:=λX b m hk =>
  mE (f4 _) (λhh k hk'=>by rcases anM hk' with e|e;exact hh k e;subst e;rfl) rfl hk
 replace fin:=hid fin;replace h:=hid h;rw[Kk];refine ac Ti (by simp[t8]) ?_;simp only[t8,am];obtain⟨PS,hPS⟩:∃P,P=iP ps:=⟨_,rfl⟩;obtain⟨KS,hKS⟩:∃P,P=fsA ks:=⟨_,rfl⟩;rw[<- hPS,<- hKS];replace hPS:=hid hPS;replace hKS:=hid hKS
 repeat' first
  |refine bd ?_
  | (first|refine aV aoL ?_|refine aB aoL ?_|refine aE ?_|refine bJ ?_|refine bg (fun _=>?_)|refine ax ?_|refine aY ?_)
    refine sm ?_
  | (first|refine aO aoL ?_|refine aP ?_|refine aD ?_|refine aW ?_|refine bq (aw ?_))
    refine sl ?_
  |exact bh
  |first|apply bj|apply aR|apply bm|apply aS|apply bo|apply aT
  |refine aH ?_
  |refine aC ?_
  |first|refine aF rfl ?_|refine aG rfl ?_|refine ao rfl ?_ ?_|refine aJ rfl (λ_=>?_) (λ_=>?_)|refine aI rfl (λ_=>?_) (λ_=>?_)
  |((first|refine an (λ_=>?_) (λ_=>?_)|refine au (λ_=>?_) (λ_=>?_))<;>try refine sm ?_)
  |refine And.intro trivial ?_
  |refine And.intro aoJ ?_
  |refine aL rfl (λ_=>?_) (λ_=>?_)
  |refine And.intro ?_ ?_
 rename_i hx;exact fin.o _ _ _ (h.o false (n+1) aoJ aoJ (λe=>by cases e));rename_i hx;have b1:n+1<=60/\d<=64/\v.length<=3000/\ps.length<=20/\ks.length<=60:=by
  refine⟨?_,?_,?_,?_,?_⟩;exact ano.1 λe=>hx (.inl (.inl (.inl (.inl e))))
  exact ano.1 λe=>hx (.inl (.inl (.inl (.inr e))))
  have:=ano.1 λe=>hx (.inl (.inl (.inr e)));omega
  have:=ano.1 λe=>hx (.inl (.inr e));omega
  have:=ano.1 λe=>hx (.inr e);omega
 clear hx;obtain⟨b1,b2,b3,b4,b5⟩:=b1;obtain⟨B,hB⟩:=alj (Blk.cells [AV.int IntKind.i64 k,AV.str a,AV.str v,AV.sl PS ps.length none,AV.sl KS ks.length none]);rw[hB];refine ah (λm T' L'=>∃(i:Nat) (X:List Blk),m=ps.length-i/\i<=ps.length/\(∀x∈ps.take i,x.2.length<=100)/\T'=[(45,.int .i64 (i:Int)),(44,.int .i64 ps.length),(43,.sl PS ps.length none),(3,.ptr L.length 0),(1,.ptr p 0),(2,.int .i64 d)]/\L'=L.set p (.cells [.int .i64 (n+1)])++(B::X)) aoN ⟨0,[],rfl,alw _,aoK,rfl,rfl⟩ ?_;rintro _ _ _ ⟨i,X,rfl,hi,hI,rfl,rfl⟩;by_cases hlt:i<ps.length
 .have g1:(i:Int)<(ps.length:Int):=aoJ;have g2:=alm i aoJ;have e3:=RJ hlt;have e4:i*2+2<=PS.length:=(by rw[hPS.o,RI];omega);obtain⟨⟨x,t⟩,ha⟩:∃a,ps.getD i (0,[])=a:=⟨_,rfl⟩;have htk:ps.take (i+1)=ps.take i++[(x,t)]:=(by rw[alN hlt,show ps[i]=(x,t)by rw[<- ha];simp[hlt]]);rw[ha,<- hPS.o]at e3;simp only[pcA]at e3;replace hI:=hid hI;clear ha;replace htk:=hid htk;clear hPS
  repeat' first
   |refine bd ?_
   | (first|refine aV aoL ?_|refine aB aoL ?_|refine aE ?_|refine bJ ?_|refine bg (fun _=>?_)|refine ax ?_|refine aY ?_)
     refine sm ?_
   | (first|refine aO aoL ?_|refine aP ?_|refine aD ?_|refine aW ?_|refine bq (aw ?_))
     refine sl ?_
   |exact bh
   |first|apply bj|apply aR|apply bm|apply aS|apply bo|apply aT
   |refine aH ?_
   |refine aC ?_
   |first|refine aF rfl ?_|refine aG rfl ?_|refine ao rfl ?_ ?_|refine aJ rfl (λ_=>?_) (λ_=>?_)|refine aI rfl (λ_=>?_) (λ_=>?_)
   |((first|refine an (λ_=>?_) (λ_=>?_)|refine au (λ_=>?_) (λ_=>?_))<;>try refine sm ?_)
   |refine And.intro trivial ?_
   |refine And.intro aoJ ?_
   |refine aL rfl (λ_=>?_) (λ_=>?_)
   |refine And.intro ?_ ?_
  rename_i hx;exact fin.o _ _ _ (h.o false (n+1) aoJ aoJ (λe=>by cases e));rename_i hx;refine aoO aoJ aoM ⟨i+1,_,rfl,hlt,?_,rfl,rfl⟩;rw[htk.o];intro y hy;rcases alv.1 hy with e|e;exact hI.o y e;rw[alM]at e;subst e;have hx2:¬(100:Int)<(t.length:Int):=hx;show t.length<=100;omega
 have hke:i=ps.length:=aoJ;subst hke;have g1:¬(ps.length:Int)<(ps.length:Int):=aoJ;rw[alF]at hI;replace hI:=hid hI;subst hB;refine wk ?_;obtain⟨B,hB⟩:=alj (Blk.cells [AV.int IntKind.i64 k,AV.str a,AV.str v,AV.sl PS ps.length none,AV.sl KS ks.length none]);rw[hB];refine ah (λm T' L'=>∃(i:Nat) (y:Int) (Y:List Blk),m=ks.length-i/\i<=ks.length/\0<=y/\y<=60/\X.length<=Y.length/\(∀x∈ks.take i,WI x)/\T'=[(57,.int .i64 (i:Int)),(56,.int .i64 ks.length),(55,.sl KS ks.length none),(3,.ptr L.length 0),(1,.ptr p 0),(2,.int .i64 d)]/\L'=L.set p (.cells [.int .i64 y])++(B::Y)) aoN ⟨0,n+1,_,rfl,alw _,aoJ,b1,alr _,aoK,rfl,rfl⟩ ?_;rintro _ _ _ ⟨i,y,Y,rfl,hi,hy0,hy1,hXY,hJ,rfl,rfl⟩;by_cases hlt:i<ks.length;have g1:(i:Int)<(ks.length:Int):=aoJ;have g2:=alm i aoJ;have e3:=YO hlt;have e4:i*5+5<=KS.length:=by rw[hKS.o,UO];omega
 obtain⟨q,hq⟩:=alj (ks.getD i ZN);have hqm:q∈ks:=by rw[<- hq];simp[hlt]
 have htk:ks.take (i+1)=ks.take i++[q]:=by rw[alN hlt,show ks[i]=q by rw[<- hq];simp[hlt]]
 have hih:∀{p:Nat}{n d:Int}{L:List Blk}{K:alp},L[p]?=some (.cells [.int .i64 n])->0<=n->n<=60->1<=d->d<=65->(∀(b:Bool) (m:Int),0<=m->m<=61->(b=true->m<=60/\WI q)->K (.bool b) (L.set p (.cells [.int .i64 m])))->alo 57 [.agg (fA q),.ptr p 0,.int .i64 d] L K:=λa b c d e f=>ih.o q hqm (r6.o q hqm) a b c d e f
 replace hih:=@hid _ @hih;rw[hq,<- hKS.o]at e3;obtain⟨qk,qa,qv,qp,qs⟩:=q;rw[Kk]at e3;simp only[Kk]at hih;replace hJ:=hid hJ;replace htk:=hid htk;clear hq hqm;clear hKS;refine wk ?_;refine hih.o (f3 _ _) hy0 hy1 aoJ aoJ λb m hm0 hm1 hb=>?_
 rw[f8];cases b with
 | false =>
   clear hb;refine aoR ?_;exact fin.o _ _ _ (h.o false m hm0 hm1 (λe=>by cases e))
 | true =>
   obtain⟨hb1,hb2⟩:=hb rfl;replace hb2:=hid hb2;clear hb;refine aoR ?_;refine aoO aoJ (CutL (b:=by simp;omega)) ⟨i+1,m,_,rfl,hlt,hm0,hb1,by simp;omega,?_,rfl,rfl⟩;rw[htk.o];intro z hz;rcases alv.1 hz with e|e
   .exact hJ.o z e
   .rw[alM]at e;subst e;exact hb2.o
 have hke:i=ks.length:=aoJ;subst hke;have g1:¬(ks.length:Int)<(ks.length:Int):=aoJ;rw[alF]at hJ;replace hJ:=hid hJ;refine wk ?_;refine fin.o _ _ _ (h.o true y hy0 aoJ λ_=>⟨hy1,?_⟩);simp only[WI,FlB];exact⟨r1,b3,b4,hI.o,b5,Za hJ.o⟩
theorem aeG{f:Flt}(hf:ahu f)(h:∀b:Bool,(b=true->WI f)->K (.bool b) L):
  alo 25 [.agg (fA f)] L K:=by
 obtain⟨k,a,v,ps,ks⟩:=f;have h2:=λ{p:Nat}{n d:Int}{L:List Blk}{K:alp}=>ado (.mk k a v ps ks) hf (p:=p) (n:=n) (d:=d) (L:=L) (K:=K)
 replace h:=hid h;replace h2:=@hid _ @h2;clear hf;rw[Kk]at *;refine aln Tj ?_;refine h2.o (show _=some (Blk.cells [AV.int .i64 0])by simp) aoJ aoJ aoJ aoJ λb m _ _ hb=>?_
 have h':=hid (h.o b λe=>(hb e).2);simp only[amd _ _ (aoq _ _),aos,anW,aof];clear hb;refine aoR ?_;exact ab rfl h'.o
theorem ajX{f:FuncId}{caps:List AV}{vs:List (List UInt8)}{cap:Option Nat}{q:List UInt8->Bool}{L:List Blk}(hn:vs.length<=1100000)(hf:∀(v:List UInt8) (K:AV->List Blk->Prop),v∈vs->K (.bool (q v)) L->alo f (.str v::caps) L K){K:alp}(h1:vs.any q=false->K (.int .i64 (-1)) L)(h2:∀k:Nat,vs.any q=true->K (.int .i64 k) L):
  alo 121 [.sl (vs.map AV.str) vs.length cap,.func f caps] L K:=by
 replace hf:=hid hf;replace h1:=hid h1;replace h2:=hid h2;refine aln iJ ?_;refine ah (λn T' L'=>∃k:Nat,n=vs.length-k/\k<=vs.length/\T'=[(8,.int .i64 (k:Int)),(7,.int .i64 vs.length),(0,.sl (vs.map AV.str) vs.length cap),(1,.func f caps)]/\L=L'/\(vs.drop k).any q=vs.any q) (CutS (b:=alr _)) ⟨0,rfl,alw _,rfl,rfl,rfl⟩ ?_;rintro _ _ L' ⟨k,rfl,hk,rfl,e,hr⟩;subst e;replace hr:=hid hr;by_cases hlt:k<vs.length;have g1:(k:Int)<(vs.length:Int):=aoJ;have g2:=alm k aoJ;obtain⟨v,hv⟩:=alj (vs.getD k []);have g3:(vs.map AV.str).getD k .undef=.str v:=by rw[<- hv];simp[hlt]
 have g4:k<(vs.map AV.str).length:=by simpa using hlt
 have hm:v∈vs:=by rw[<- hv];simp[hlt]
 have hdr:vs.drop k=v::vs.drop (k+1):=by rw[ama hlt,<- hv];simp[hlt]
 have hr2:=hr.o;rw[hdr,List.any_cons]at hr2;rcases hqk:q v with _|_;have kk1:Hid (∀{K:alp},K (.bool false) L->alo f (.str v::caps) L K):=hid λa=>hf.o v _ hm (by rw[hqk];exact a)
 rw[hqk,amY]at hr2;replace hr2:=hid hr2;clear hqk hdr hr hv hm;refine wk ?_;exact aoO aoJ aoM ⟨k+1,rfl,hlt,rfl,rfl,hr2.o⟩;have kk1:Hid (∀{K:alp},K (.bool true) L->alo f (.str v::caps) L K):=hid λa=>hf.o v _ hm (by rw[hqk];exact a)
 rw[hqk,anr]at hr2;have h2':=hid (h2.o k hr2.symm);clear hqk hdr hr hv hm hr2;refine wk ?_;exact aa h2'.o;have hke:k=vs.length:=aoJ;subst hke;have g1:¬(vs.length:Int)<(vs.length:Int):=aoJ;have hr2:=hr.o;rw[al6]at hr2;have h1':=hid (h1.o hr2.symm);clear hr hr2;refine wk ?_;exact aa h1'.o
theorem ahc{f:FuncId}{caps:List AV}{vs:List (List UInt8)}{cap:Option Nat}{q:List UInt8->Bool}{L:List Blk}(hn:vs.length<=1100000)(hf:∀(v:List UInt8) (K:AV->List Blk->Prop),v∈vs->K (.bool (q v)) L->alo f (.str v::caps) L K){K:alp}(h:K (.bool (vs.any q)) L):
  alo 77 [.sl (vs.map AV.str) vs.length cap,.func f caps] L K:=by
 refine aln gu ?_;refine ajX (q:=q) hn hf (λe=>?_) (λk e=>?_);rw[e]at h;replace h:=hid h;refine aoR ?_;exact aa h.o;rw[e]at h;replace h:=hid h;have g1:(0:Int)<=(k:Int):=aoJ;refine aoR ?_;exact aa h.o
structure acZ(mt jn:List (List Int)->List Int):Prop where
 mtM:∀ls x,x∈mt ls↔ls≠[]/\∀l∈ls,x∈l
 jnM:∀ls x,x∈jn ls↔∃l∈ls,x∈l
 mtR:∀ls,(mt ls).Pairwise (· < ·)
 jnR:∀ls,(jn ls).Pairwise (· < ·)
def Tu(wide:Int):Option (List Int)->Option (List Int)
 |none=>none
 |some l=>if wide<(l.length:Int)then none else some l
def bx:List (Option (List Int))->List (List Int)
 |[]=>[]
 |none::r=>bx r
 |some l::r=>l::bx r
def Wx(mt jn:List (List Int)->List Int)(k:Int)(os:List (Option (List Int))):Option (List Int):=
 if k=0 then(if bx os=[]then none else some (mt (bx os)))else if os.all Option.isSome=true then some (jn (bx os))else none
mutual
def Y4(mt jn:List (List Int)->List Int)(leaf:Int->List UInt8->List UInt8->List Pc->Option (List Int))(wide:Int):Flt->Option (List Int)
 |.mk k a v ps ks=>Tu wide (if k=0\/k=1 then Wx mt jn k (F3 mt jn leaf wide ks)else leaf k a v ps)
def F3(mt jn:List (List Int)->List Int)(leaf:Int->List UInt8->List UInt8->List Pc->Option (List Int))(wide:Int):List Flt->List (Option (List Int))
 |[]=>[]
 |f::r=>Y4 mt jn leaf wide f::F3 mt jn leaf wide r
end
theorem Zx:∀{l m:List Int},l.Pairwise (· < ·)->(∀x∈l,x∈m)->l.length<=m.length
 |[],m,_,_=>aoK
 | a::l,m,h,hs=>by
   rw[al7]at h;have ha:=hs a aoK;have:=Zx (l:=l) (m:=m.erase a) h.2 λx hx=>(List.mem_erase_of_ne (λe=>by have:=h.1 x hx;omega)).2 (hs x (by simp[hx]))
   have h2:=List.length_erase_of_mem ha;have h3:=List.length_pos_of_mem ha;simp only[alA];omega
theorem adU{mt jn:List (List Int)->List Int}(hp:acZ mt jn){k:Int}{os:List (Option (List Int))}{m:List Int}(h:Wx mt jn k os=some m):m.Pairwise (· < ·):=by unfold Wx at h;split at h;split at h;cases h;cases h;exact hp.mtR _;split at h;cases h;exact hp.jnR _;cases h
end Go.Proofs.YtcmfcpjnhephaaaGreatDoor.Av
set_option maxRecDepth 100000
namespace Go.Proofs.YtcmfcpjnhephaaaGreatDoor.Av
open Go
def zn:LSO:=[Al 6]
def zm:LSO:=[Aa 9 2,Am 10 9,Ab 11 0]
def zl:LSO:=[Ak 12 11 10]
def zk:LSO:=[Ao 13 1 9 11,Ac 14 1 13,Aa 8 14]
def zj:LSO:=[Aa 15 0,Aa 16 8,Aa 17 1,o1 18 (.build [(.str []),(.int .i64 0),(.bool false),(.bool false)] [(0,(1,(tm 16))),(1,(1,(tm 17)))]),Cb 19 18,Cc 20 15 19,
 Aa 0 20]
def zi:LSO:=[Ag 21 11 1,Aa 11 21]
def zh:LSO:=[Aa 22 0,Aa 6 22]
def tQ:aQ:=⟨23,(aoC zn [] (.seq (aoC zm [] (aoF 0 (aoC zl [] (.seq (aoG 12 0) (.seq (.block 1 (aoC zk Cx (.sreg zj C2))) (.sreg zi Cw)))))) (aoC zh Cw .ret))),[(.tmp 6)]⟩
attribute [push_cast] zn zm zl zk zj zi zh
theorem S6:aoH 50=aoI tQ:=aoL
def Hp:LSO:=[Cd 0]
def Ho:LSO:=[Cd 1]
def Hn:LSO:=[Ad 5 0 1,Ac 6 1 5,o1 7 (.bslice false 1 1 [(.str [])] [(0,(1,(.av (.str [111,98,106,101,99,116,67,108,97,115,115]))))]),By 8 50 6 3 7,Ad 9 0 1,Aj 1 9 8]
def Hm:LSO:=[Ad 10 0 1,Ac 11 1 10,
 o1 12 (.bslice false 1 4 [(.str []),(.str []),(.str []),(.str [])] [(0,(1,(.av (.str [99,110])))),(1,(1,(.av (.str [115,110])))),(2,(1,(.av (.str [111,117])))),(3,(1,(.av (.str [111]))))]),
 By 13 50 11 1 12,Ad 14 0 1,Aj 1 14 13]
def Hl:LSO:=[Ad 15 0 1,Ac 16 1 15,
 o1 17 (.bslice false 1 3 [(.str []),(.str []),(.str [])] [(0,(1,(.av (.str [100,99])))),(1,(1,(.av (.str [117,105,100])))),(2,(1,(.av (.str [109,97,105,108]))))]),
 By 18 50 16 3 17,Ad 19 0 1,Aj 1 19 18]
def Hk:LSO:=[Ad 20 0 1,Ac 21 1 20,BJ 22,By 23 50 21 1 22,Ad 24 0 1,Aj 1 24 23]
def Hj:LSO:=[Ad 25 0 1,Ac 26 1 25,o1 27 (.bslice false 1 1 [(.str [])] [(0,(1,(.av (.str [109,101,109,98,101,114]))))]),By 28 50 26 6 27,Ad 29 0 1,Aj 1 29 28]
def Hi:LSO:=[Ad 30 0 1,Ac 31 1 30,o1 32 (.bslice false 1 1 [(.str [])] [(0,(1,(.av (.str [117,115,101,114,80,97,115,115,119,111,114,100]))))]),By 33 50 31 7 32,
 Ad 34 0 1,Aj 1 34 33]
def Hh:LSO:=[Ad 35 0 1,Ac 36 1 35,
 o1 37 (.build [(.str []),(.int .i64 0),(.bool false),(.bool false)] [(0,(1,(.av (.str [101,109,112,108,111,121,101,101,78,117,109,98,101,114])))),(1,(1,(iv 4))),(2,(1,(.av (.bool true))))]),
 Cb 38 37,Cc 39 36 38,Ad 40 0 1,Aj 1 40 39]
def Hg:LSO:=[Ad 41 0 1,Ac 42 1 41,
 o1 43 (.build [(.str []),(.int .i64 0),(.bool false),(.bool false)] [(0,(1,(.av (.str [97,99,116,105,118,101])))),(1,(1,(iv 5))),(2,(1,(.av (.bool true))))]),Cb 44 43,
 Cc 45 42 44,Ad 46 0 1,Aj 1 46 45]
def zJ:LSO:=[o1 47 (.bslice false 1 5 [(.str []),(.str []),(.str []),(.str []),(.str [])] [(0,(1,(.av (.str [99,114,101,97,116,101,100,65,116])))),(1,(1,(.av (.str [99,104,97,110,103,101,100,65,116])))),(2,(1,(.av (.str [112,119,100,70,97,105,108,117,114,101])))),(3,(1,(.av (.str [112,119,100,76,111,99,107,101,100])))),(4,(1,(.av (.str [112,119,100,67,104,97,110,103,101,100]))))]),
 Am 48 47,Ab 49 0]
def zI:LSO:=[Ak 50 49 48]
def zH:LSO:=[Ao 51 1 47 49,Ac 52 1 51,Aa 3 52]
def zG:LSO:=[Aa 53 3,
 o1 54 (.build [(.str []),(.int .i64 0),(.bool false),(.bool false)] [(0,(1,(tm 53))),(1,(1,(iv 4))),(2,(1,(.av (.bool true)))),(3,(1,(.av (.bool true))))]),Bk 4,Aj 4 4 54]
def zF:LSO:=[Aa 55 3,o1 56 (.bin .eql (tm 55) (.av (.str [112,119,100,70,97,105,108,117,114,101])))]
def zE:LSO:=[Ad 57 1 4,Bd 1 57 3]
def zD:LSO:=[Ad 58 2 4,o0 (.store 1 (tm 58) (.av (.bool false)))]
def zC:LSO:=[Ad 59 0 1,Ac 60 1 59,Ap 61 4 4,Cb 62 61,Cc 63 60 62,Ad 64 0 1,Aj 1 64 63]
def zB:LSO:=[Ag 65 49 1,Aa 49 65]
def zA:LSO:=[Ad 66 1 1,Ac 67 1 66,o1 68 (.bslice false 1 1 [(.str [])] [(0,(1,(.av (.str [111,98,106,101,99,116,67,108,97,115,115]))))]),
 o1 69 (.bslice false 1 5 [(.str []),(.str []),(.str []),(.str []),(.str [])] [(0,(1,(.av (.str [99,114,101,97,116,101,100,65,116])))),(1,(1,(.av (.str [99,104,97,110,103,101,100,65,116])))),(2,(1,(.av (.str [112,119,100,70,97,105,108,117,114,101])))),(3,(1,(.av (.str [112,119,100,76,111,99,107,101,100])))),(4,(1,(.av (.str [112,119,100,67,104,97,110,103,101,100]))))]),
 o1 70 (.build [(.str []),(.str []),(.int .i64 0),(.sl [] 0 (some 0)),(.sl [] 0 (some 0))] [(0,(1,(.av (.str [116,111,112])))),(3,(1,(tm 68))),(4,(1,(tm 69)))]),Be 71 70,
 Bf 72 67 71,Ad 73 1 1,Aj 1 73 72]
def zy:LSO:=[Ad 74 1 1,Ac 75 1 74,o1 76 (.bslice false 1 1 [(.str [])] [(0,(1,(.av (.str [100,99]))))]),BJ 77,
 o1 78 (.build [(.str []),(.str []),(.int .i64 0),(.sl [] 0 (some 0)),(.sl [] 0 (some 0))] [(0,(1,(.av (.str [100,111,109,97,105,110])))),(1,(1,(.av (.str [116,111,112])))),(2,(1,(iv 1))),(3,(1,(tm 76))),(4,(1,(tm 77)))]),
 Be 79 78,Bf 80 75 79,Ad 81 1 1,Aj 1 81 80]
def zx:LSO:=[Ad 82 1 1,Ac 83 1 82,o1 84 (.bslice false 1 1 [(.str [])] [(0,(1,(.av (.str [111]))))]),BJ 85,
 o1 86 (.build [(.str []),(.str []),(.int .i64 0),(.sl [] 0 (some 0)),(.sl [] 0 (some 0))] [(0,(1,(.av (.str [111,114,103,97,110,105,122,97,116,105,111,110])))),(1,(1,(.av (.str [116,111,112])))),(2,(1,(iv 1))),(3,(1,(tm 84))),(4,(1,(tm 85)))]),
 Be 87 86,Bf 88 83 87,Ad 89 1 1,Aj 1 89 88]
def zw:LSO:=[Ad 90 1 1,Ac 91 1 90,o1 92 (.bslice false 1 1 [(.str [])] [(0,(1,(.av (.str [111,117]))))]),BJ 93,
 o1 94 (.build [(.str []),(.str []),(.int .i64 0),(.sl [] 0 (some 0)),(.sl [] 0 (some 0))] [(0,(1,(.av (.str [111,114,103,97,110,105,122,97,116,105,111,110,97,108,85,110,105,116])))),(1,(1,(.av (.str [116,111,112])))),(2,(1,(iv 1))),(3,(1,(tm 92))),(4,(1,(tm 93)))]),
 Be 95 94,Bf 96 91 95,Ad 97 1 1,Aj 1 97 96]
def zu:LSO:=[Ad 98 1 1,Ac 99 1 98,o1 100 (.bslice false 1 2 [(.str []),(.str [])] [(0,(1,(.av (.str [99,110])))),(1,(1,(.av (.str [115,110]))))]),
 o1 101 (.bslice false 1 2 [(.str []),(.str [])] [(0,(1,(.av (.str [100,101,115,99,114,105,112,116,105,111,110])))),(1,(1,(.av (.str [117,115,101,114,80,97,115,115,119,111,114,100]))))]),
 o1 102 (.build [(.str []),(.str []),(.int .i64 0),(.sl [] 0 (some 0)),(.sl [] 0 (some 0))] [(0,(1,(.av (.str [112,101,114,115,111,110])))),(1,(1,(.av (.str [116,111,112])))),(2,(1,(iv 1))),(3,(1,(tm 100))),(4,(1,(tm 101)))]),
 Be 103 102,Bf 104 99 103,Ad 105 1 1,Aj 1 105 104]
def zt:LSO:=[Ad 106 1 1,Ac 107 1 106,
 o1 108 (.bslice false 1 4 [(.str []),(.str []),(.str []),(.str [])] [(0,(1,(.av (.str [117,105,100])))),(1,(1,(.av (.str [109,97,105,108])))),(2,(1,(.av (.str [101,109,112,108,111,121,101,101,78,117,109,98,101,114])))),(3,(1,(.av (.str [97,99,116,105,118,101]))))]),
 o1 109 (.build [(.str []),(.str []),(.int .i64 0),(.sl [] 0 (some 0)),(.sl [] 0 (some 0))] [(0,(1,(.av (.str [105,110,101,116,80,101,114,115,111,110])))),(1,(1,(.av (.str [112,101,114,115,111,110])))),(2,(1,(iv 1))),(4,(1,(tm 108)))]),
 Be 110 109,Bf 111 107 110,Ad 112 1 1,Aj 1 112 111]
def zr:LSO:=[Ad 113 1 1,Ac 114 1 113,o1 115 (.bslice false 1 2 [(.str []),(.str [])] [(0,(1,(.av (.str [99,110])))),(1,(1,(.av (.str [109,101,109,98,101,114]))))]),
 BJ 116,
 o1 117 (.build [(.str []),(.str []),(.int .i64 0),(.sl [] 0 (some 0)),(.sl [] 0 (some 0))] [(0,(1,(.av (.str [103,114,111,117,112])))),(1,(1,(.av (.str [116,111,112])))),(2,(1,(iv 1))),(3,(1,(tm 115))),(4,(1,(tm 116)))]),
 Be 118 117,Bf 119 114 118,Ad 120 1 1,Aj 1 120 119]
def zq:LSO:=[Ad 121 1 1,Ac 122 1 121,o1 123 (.bslice false 1 1 [(.str [])] [(0,(1,(.av (.str [117,115,101,114,80,97,115,115,119,111,114,100]))))]),
 o1 124 (.build [(.str []),(.str []),(.int .i64 0),(.sl [] 0 (some 0)),(.sl [] 0 (some 0))] [(0,(1,(.av (.str [115,101,99,117,114,101,100])))),(1,(1,(.av (.str [116,111,112])))),(2,(1,(iv 2))),(3,(1,(tm 123)))]),
 Be 125 124,Bf 126 122 125,Ad 127 1 1,Aj 1 127 126]
def zp:LSO:=[Ad 128 1 1,Ac 129 1 128,o1 130 (.bslice false 1 2 [(.str []),(.str [])] [(0,(1,(.av (.str [117,105,100])))),(1,(1,(.av (.str [109,97,105,108]))))]),
 o1 131 (.build [(.str []),(.str []),(.int .i64 0),(.sl [] 0 (some 0)),(.sl [] 0 (some 0))] [(0,(1,(.av (.str [108,97,98,101,108,108,101,100])))),(1,(1,(.av (.str [116,111,112])))),(2,(1,(iv 2))),(4,(1,(tm 130)))]),
 Be 132 131,Bf 133 129 132,Ad 134 1 1,Aj 1 134 133]
def zo:LSO:=[Ap 135 2 1,Aj 2 0 135]
def yk:aQ:=⟨136,(aoC Hp [] (aoC Ho [] (aoC Hn CB (aoC Hm CB (aoC Hl CB (aoC Hk CB (aoC Hj CB (aoC Hi CB (aoC Hh CO (aoC Hg CO (.seq (aoC zJ [] (aoF 0 (aoC zI [] (.seq (aoG 50 0) (.seq (.block 1 (aoC zH Cx (aoC zG Cx (.seq (aoC zF Cw (aoD 56 (aoC zE CD (.sreg zD CD)) .skip)) (.sreg zC CO))))) (.sreg zB Cw)))))) (aoC zA CM (aoC zy CM (aoC zx CM (aoC zw CM (aoC zu CM (aoC zt CA (aoC zr CM (aoC zq CA (aoC zp CA (aoC zo CD .ret))))))))))))))))))))),[(.cell true 2 0)]⟩
attribute [push_cast] Hp Ho Hn Hm Hl Hk Hj Hi Hh Hg zJ zI zH zG zF zE zD zC zB zA zy zx zw zu zt zr zq zp zo
theorem Uw:aoH 20=aoI yk:=aoL
attribute [push_cast] tQ
variable {L:List Blk}{K:alp}
set_option maxHeartbeats 8000000
set_option maxRecDepth 1000000
abbrev tnC(syn:Int)(nm:List UInt8):List AV:=[.str nm,.int .i64 syn,.bool false,.bool false]
theorem adp{α:Type}{L:List α}{p:Nat}{b:α}(h:L[p]?=some b):L.set p b=L:=by apply amW;intro i;rw[alO];split;rename_i e;subst e;rw[h,if_pos (alq.1 h).1];rfl
theorem ahR{C:List AV}{n p:Nat}{syn:Int}{names:List (List UInt8)}{cap:Option Nat}(hn:n+names.length<=1100000)(hp:L[p]?=some (.spare n 4))(h:K (.gsl (C++names.flatMap (tnC syn)) (n+names.length) p 4) (L.set p (.spare (n+names.length) 4))):
  alo 50 [.gsl C n p 4,.int .i64 syn,.sl (names.map AV.str) names.length cap] L K:=by
 have hpl:p<L.length:=(alq.1 hp).1;have hset:∀b,(L.set p b)[p]?=some b:=λb=>by simp[hpl]
 replace h:=hid h;refine aln S6 ?_;refine ah (λm T' L'=>∃(j z:Nat) (D:List AV) (M:List Blk),m=names.length-j/\j<=names.length/\z=n+j/\Hid (D=C++(names.take j).flatMap (tnC syn))/\Hid (M=L.set p (.spare z 4))/\T'=[(11,.int .i64 (j:Int)),(10,.int .i64 names.length),(9,.sl (names.map AV.str) names.length cap),(0,.gsl D z p 4),(1,.int .i64 syn)]/\M=L') (CutS (b:=alr _)) ⟨0,n,C,L,rfl,alw _,rfl,hid aoK,hid (adp hp).symm,rfl,rfl⟩ ?_;rintro _ _ _ ⟨j,z,D,M,rfl,hj,hz,hD,hM,rfl,rfl⟩;by_cases hlt:j<names.length;have g1:(j:Int)<(names.length:Int):=aoJ;have g2:=alm j aoJ;obtain⟨x,hx⟩:=alj (names.getD j []);have j3:(names.map AV.str).getD j .undef=.str x:=by rw[<- hx];simp[hlt]
 have htk:names.take (j+1)=names.take j++[x]:=by rw[alN hlt,<- hx];simp[hlt]
 have hMp:M[p]?=some (.spare z 4):=by rw[hM.o];exact hset _
 have hD2:D++[.str x,.int .i64 syn,.bool false,.bool false]=C++(names.take (j+1)).flatMap (tnC syn):=by rw[hD.o,htk];simp
 have hM2:M.set p (.spare (z+1) 4)=L.set p (.spare (z+1) 4):=by rw[hM.o,amM]
 have hMl:M.length=L.length:=by rw[hM.o];simp
 replace hD2:=hid hD2;replace hM2:=hid hM2;have hz1:z+1<=1100000:=aoJ;have hz2:z+1=n+(j+1):=aoJ;replace hz2:=hid hz2;clear hx htk hD hM hset hz;refine wk ?_;exact aoO aoJ (CutL (b:=by simp;omega)) ⟨j+1,z+1,_,_,rfl,hlt,hz2.o,hD2,hM2,rfl,rfl⟩;have hke:j=names.length:=aoJ;subst hke;have g1:¬(names.length:Int)<(names.length:Int):=aoJ;have hD2:=hD.o;have hM2:=hM.o;rw[alF]at hD2;subst hD2 hz;rw[hM2]at *;clear hD hM hM2;refine wk ?_;exact aa h.o
def aK:List Typ:=[([111,98,106,101,99,116,67,108,97,115,115],3,false,false),([99,110],1,false,false),([115,110],1,false,false),([111,117],1,false,false),([111],1,false,false),([100,99],3,false,false),([117,105,100],3,false,false),([109,97,105,108],3,false,false),([100,101,115,99,114,105,112,116,105,111,110],1,false,false),([109,101,109,98,101,114],6,false,false),([117,115,101,114,80,97,115,115,119,111,114,100],7,false,false),([101,109,112,108,111,121,101,101,78,117,109,98,101,114],4,true,false),([97,99,116,105,118,101],5,true,false),([99,114,101,97,116,101,100,65,116],4,true,true),([99,104,97,110,103,101,100,65,116],4,true,true),([112,119,100,70,97,105,108,117,114,101],3,false,true),([112,119,100,76,111,99,107,101,100],4,true,true),([112,119,100,67,104,97,110,103,101,100],4,true,true)]
def F0:List AV:=[.str [116,111,112],.str [],.int .i64 0,.sl [.str [111,98,106,101,99,116,67,108,97,115,115]] 1 none,.sl [.str [99,114,101,97,116,101,100,65,116],.str [99,104,97,110,103,101,100,65,116],.str [112,119,100,70,97,105,108,117,114,101],.str [112,119,100,76,111,99,107,101,100],.str [112,119,100,67,104,97,110,103,101,100]] 5 none,.str [100,111,109,97,105,110],.str [116,111,112],.int .i64 1,.sl [.str [100,99]] 1 none,.sl [.str [100,101,115,99,114,105,112,116,105,111,110]] 1 none,.str [111,114,103,97,110,105,122,97,116,105,111,110],.str [116,111,112],.int .i64 1,.sl [.str [111]] 1 none,.sl [.str [100,101,115,99,114,105,112,116,105,111,110]] 1 none,.str [111,114,103,97,110,105,122,97,116,105,111,110,97,108,85,110,105,116],.str [116,111,112],.int .i64 1,.sl [.str [111,117]] 1 none,.sl [.str [100,101,115,99,114,105,112,116,105,111,110]] 1 none,.str [112,101,114,115,111,110],.str [116,111,112],.int .i64 1,.sl [.str [99,110],.str [115,110]] 2 none,.sl [.str [100,101,115,99,114,105,112,116,105,111,110],.str [117,115,101,114,80,97,115,115,119,111,114,100]] 2 none,.str [105,110,101,116,80,101,114,115,111,110],.str [112,101,114,115,111,110],.int .i64 1,.sl [] 0 none,.sl [.str [117,105,100],.str [109,97,105,108],.str [101,109,112,108,111,121,101,101,78,117,109,98,101,114],.str [97,99,116,105,118,101]] 4 none,.str [103,114,111,117,112],.str [116,111,112],.int .i64 1,.sl [.str [99,110],.str [109,101,109,98,101,114]] 2 none,.sl [.str [100,101,115,99,114,105,112,116,105,111,110]] 1 none,.str [115,101,99,117,114,101,100],.str [116,111,112],.int .i64 2,.sl [.str [117,115,101,114,80,97,115,115,119,111,114,100]] 1 none,.sl [] 0 none,.str [108,97,98,101,108,108,101,100],.str [116,111,112],.int .i64 2,.sl [] 0 none,.sl [.str [117,105,100],.str [109,97,105,108]] 2 none]
theorem rC:∀ts:List Typ,AV.frzL (cj ts)=cj ts
 |[]=>rfl
 |ty::ts=>by rw[show cj (ty::ts)=tyC ty++cj ts from rfl];simp only[tyC,al3,al2,AV.frzL,AV.frz,rC ts]
theorem Xa(p:Nat->Bool):∀ts:List Typ,AV.refsL p (cj ts)=true
 |[]=>rfl
 |ty::ts=>by rw[show cj (ty::ts)=tyC ty++cj ts from rfl];simp only[tyC,al3,al2,AV.refsL,AV.refs,Xa p ts,amr]
theorem ahC{P:Program}{N:Nat}{own:Nat->Nat->Nat}{Q:Exit->Tm->List Blk->Prop}{T:Tm}{lc:b9}{L L':List Blk}(e:L=L')(h:AW P N own lc Q T L'):AW P N own lc Q T L:=e▸h
theorem abW(h:K (.agg [.sl (cj aK) aK.length none,.sl F0 9 none]) L):alo 20 [] L K:=by
 have st:∀(a:Nat) (syn:Int) (ns:List (List UInt8)) (b:Nat),cj (aK.take a)++ns.flatMap (tnC syn)=cj (aK.take b)->a+ns.length=b->b<=100->∀K:AV->List Blk->Prop,K (.gsl (cj (aK.take b)) b (L.length+2) 4) (L++[.cells [.sl [] 0 (some 0),.sl [] 0 (some 0)],.cells [.gsl (cj (aK.take a)) a (L.length+2) 4,.gsl [] 0 (L.length+3) 5],.spare b 4,.spare 0 5])->alo 50 [.gsl (cj (aK.take a)) a (L.length+2) 4,.int .i64 syn,.sl (ns.map AV.str) ns.length (some ns.length)] (L++[.cells [.sl [] 0 (some 0),.sl [] 0 (some 0)],.cells [.gsl (cj (aK.take a)) a (L.length+2) 4,.gsl [] 0 (L.length+3) 5],.spare a 4,.spare 0 5]) K:=λa syn ns b h1 h2 h3 K q=>by refine ahR aoJ aoK ?_;rw[h1,h2,amd _ _ aoJ,show L.length+2-L.length=2 by omega];exact q
 have s1:=st 0 3 [[111,98,106,101,99,116,67,108,97,115,115]] 1 rfl rfl aoJ;have s2:=st 1 1 [[99,110],[115,110],[111,117],[111]] 5 rfl rfl aoJ;have s3:=st 5 3 [[100,99],[117,105,100],[109,97,105,108]] 8 rfl rfl aoJ;have s4:=st 8 1 [[100,101,115,99,114,105,112,116,105,111,110]] 9 rfl rfl aoJ;have s5:=st 9 6 [[109,101,109,98,101,114]] 10 rfl rfl aoJ;have s6:=st 10 7 [[117,115,101,114,80,97,115,115,119,111,114,100]] 11 rfl rfl aoJ;clear st;obtain⟨C1,h1⟩:=alj (cj (aK.take 1));obtain⟨C5,h5⟩:=alj (cj (aK.take 5));obtain⟨C8,h8⟩:=alj (cj (aK.take 8));obtain⟨C9,h9⟩:=alj (cj (aK.take 9));obtain⟨C10,h10⟩:=alj (cj (aK.take 10));obtain⟨C11,h11⟩:=alj (cj (aK.take 11));rw[show cj (aK.take 0)=[]from rfl]at s1;rw[h1]at s1 s2;rw[h5]at s2 s3;rw[h8]at s3 s4;rw[h9]at s4 s5;rw[h10]at s5 s6;rw[h11]at s6;simp only[alD,amS,alA,amg,amG,Nat.reduceAdd]at s1 s2 s3 s4 s5 s6;have kk1:=@hid _ (λ{K:alp}=>s1 K);have kk2:=@hid _ (λ{K:alp}=>s2 K);have kk3:=@hid _ (λ{K:alp}=>s3 K);have kk4:=@hid _ (λ{K:alp}=>s4 K);have kk5:=@hid _ (λ{K:alp}=>s5 K);have kk6:=@hid _ (λ{K:alp}=>s6 K);clear s1 s2 s3 s4 s5 s6;clear h1 h5 h8 h9 h10;replace h11:=hid h11;replace h:=hid h;refine ac Uw (by simp[yk]) ?_;simp only[yk,am]
 iterate 6 first
  |refine bd ?_
  | (first|refine aV aoL ?_|refine aB aoL ?_|refine aE ?_|refine bJ ?_|refine bg (fun _=>?_)|refine ax ?_|refine aY ?_)
    simp(config:={maxSteps:=2000000}) only[Kon,push_cast,reduceIte,Nat.reduceEqDiff,Nat.reduceAdd,Nat.reduceMul,Nat.reduceSub,Nat.reduceLT,Nat.reduceLeDiff,Int.reduceLT,Int.reduceLE,Int.reduceAdd,Int.reduceSub,Int.reduceNeg,Int.reduceToNat,Int.reduceEq,reduceCtorEq, *]
  | (first|refine aO aoL ?_|refine aP ?_|refine aD ?_|refine aW ?_|refine bq (aw ?_))
    simp only[push_cast,reduceIte,Nat.reduceEqDiff,Nat.reduceAdd,Nat.reduceMul,Nat.reduceSub,Nat.reduceLT,Nat.reduceLeDiff,Int.reduceLT,Int.reduceLE,Int.reduceAdd,Int.reduceSub,Int.reduceNeg,Int.reduceToNat,Int.reduceEq,reduceCtorEq, *]
  |exact bh
  |first|apply bj|apply aR|apply bm|apply aS|apply bo|apply aT
  |refine aH ?_
  |refine aC ?_
  |first|refine aF rfl ?_|refine aG rfl ?_|refine ao rfl ?_ ?_|refine aJ rfl (λ_=>?_) (λ_=>?_)|refine aI rfl (λ_=>?_) (λ_=>?_)
  |((first|refine an (λ_=>?_) (λ_=>?_)|refine au (λ_=>?_) (λ_=>?_))<;>try simp(config:={maxSteps:=2000000}) only[Kon,push_cast,reduceIte,Nat.reduceEqDiff,Nat.reduceAdd,Nat.reduceMul,Nat.reduceSub,Nat.reduceLT,Nat.reduceLeDiff,Int.reduceLT,Int.reduceLE,Int.reduceAdd,Int.reduceSub,Int.reduceNeg,Int.reduceToNat,Int.reduceEq,reduceCtorEq, *])
  |refine And.intro trivial ?_
  |refine And.intro aoJ ?_
  |refine aL rfl (λ_=>?_) (λ_=>?_)
  |refine And.intro ?_ ?_
 refine Sr (L.length+1) 0 4 (c:=[.sl [] 0 (some 0),.sl [] 0 (some 0)]) (l:=[]) (n:=0) aoK rfl rfl ?_;refine Sr (L.length+1) 1 5 (c:=[.gsl [] 0 (L.length+2) 4,.sl [] 0 (some 0)]) (l:=[]) (n:=0) aoK rfl rfl ?_;refine ahC (L':=L++[.cells [.sl [] 0 (some 0),.sl [] 0 (some 0)],.cells [.gsl [] 0 (L.length+2) 4,.gsl [] 0 (L.length+3) 5],.spare 0 4,.spare 0 5]) aoK ?_;refine wk ?_;refine ah (λm T' L'=>∃(j z:Nat) (D:List AV) (X:List Blk),m=5-j/\j<=5/\Hid (z=13+j)/\Hid (D=cj (aK.take (13+j)))/\T'=[(49,.int .i64 (j:Int)),(48,.int .i64 5),(47,.sl [.str [99,114,101,97,116,101,100,65,116],.str [99,104,97,110,103,101,100,65,116],.str [112,119,100,70,97,105,108,117,114,101],.str [112,119,100,76,111,99,107,101,100],.str [112,119,100,67,104,97,110,103,101,100]] 5 (some 5)),(1,.ptr (L.length+1) 0),(0,.ptr L.length 0)]/\L'=L++(.cells [.sl [] 0 (some 0),.sl [] 0 (some 0)] :: .cells [.gsl D z (L.length+2) 4,.gsl [] 0 (L.length+3) 5] :: .spare z 4 :: .spare 0 5::X)) aoN ⟨0,13,_,[],rfl,aoJ,hid rfl,hid (by rw[<- h11.o];rfl),rfl,rfl⟩ ?_;clear kk1 kk2 kk3 kk4 kk5 kk6 h11;rintro _ _ _ ⟨j,z,D,X,rfl,hj,hz,hD,rfl,rfl⟩;by_cases hlt:j<5;have g1:(j:Int)<5:=aoJ;have g2:=alm j aoJ;have hz1:z<=20:=by have:=hz.o;omega
 have hz2:z+1=13+(j+1):=by have:=hz.o;omega
 replace hz2:=hid hz2;have hj5:j=0\/j=1\/j=2\/j=3\/j=4:=aoJ;clear hz;rcases hj5 with e|e|e|e|e;have e3:([.str [99,114,101,97,116,101,100,65,116],.str [99,104,97,110,103,101,100,65,116],.str [112,119,100,70,97,105,108,117,114,101],.str [112,119,100,76,111,99,107,101,100],.str [112,119,100,67,104,97,110,103,101,100]]:List AV).getD j .undef=.str [99,114,101,97,116,101,100,65,116]:=by rw[e];rfl
 have hD2:D++[.str [99,114,101,97,116,101,100,65,116],.int .i64 4,.bool true,.bool true]=cj (aK.take (13+(j+1))):=by rw[hD.o,e];rfl
 replace hD2:=hid hD2;replace e:=hid e;clear hD;refine wk ?_;exact aoO aoJ aoM ⟨j+1,z+1,_,_,rfl,hlt,hz2,hD2,rfl,rfl⟩;have e3:([.str [99,114,101,97,116,101,100,65,116],.str [99,104,97,110,103,101,100,65,116],.str [112,119,100,70,97,105,108,117,114,101],.str [112,119,100,76,111,99,107,101,100],.str [112,119,100,67,104,97,110,103,101,100]]:List AV).getD j .undef=.str [99,104,97,110,103,101,100,65,116]:=by rw[e];rfl
 have hD2:D++[.str [99,104,97,110,103,101,100,65,116],.int .i64 4,.bool true,.bool true]=cj (aK.take (13+(j+1))):=by rw[hD.o,e];rfl
 replace hD2:=hid hD2;replace e:=hid e;clear hD;refine wk ?_;exact aoO aoJ aoM ⟨j+1,z+1,_,_,rfl,hlt,hz2,hD2,rfl,rfl⟩;have e3:([.str [99,114,101,97,116,101,100,65,116],.str [99,104,97,110,103,101,100,65,116],.str [112,119,100,70,97,105,108,117,114,101],.str [112,119,100,76,111,99,107,101,100],.str [112,119,100,67,104,97,110,103,101,100]]:List AV).getD j .undef=.str [112,119,100,70,97,105,108,117,114,101]:=by rw[e];rfl
 have hD2:D++[.str [112,119,100,70,97,105,108,117,114,101],.int .i64 3,.bool false,.bool true]=cj (aK.take (13+(j+1))):=by rw[hD.o,e];rfl
 replace hD2:=hid hD2;replace e:=hid e;clear hD;refine wk ?_;exact aoO aoJ aoM ⟨j+1,z+1,_,_,rfl,hlt,hz2,hD2,rfl,rfl⟩;have e3:([.str [99,114,101,97,116,101,100,65,116],.str [99,104,97,110,103,101,100,65,116],.str [112,119,100,70,97,105,108,117,114,101],.str [112,119,100,76,111,99,107,101,100],.str [112,119,100,67,104,97,110,103,101,100]]:List AV).getD j .undef=.str [112,119,100,76,111,99,107,101,100]:=by rw[e];rfl
 have hD2:D++[.str [112,119,100,76,111,99,107,101,100],.int .i64 4,.bool true,.bool true]=cj (aK.take (13+(j+1))):=by rw[hD.o,e];rfl
 replace hD2:=hid hD2;replace e:=hid e;clear hD;refine wk ?_;exact aoO aoJ aoM ⟨j+1,z+1,_,_,rfl,hlt,hz2,hD2,rfl,rfl⟩;have e3:([.str [99,114,101,97,116,101,100,65,116],.str [99,104,97,110,103,101,100,65,116],.str [112,119,100,70,97,105,108,117,114,101],.str [112,119,100,76,111,99,107,101,100],.str [112,119,100,67,104,97,110,103,101,100]]:List AV).getD j .undef=.str [112,119,100,67,104,97,110,103,101,100]:=by rw[e];rfl
 have hD2:D++[.str [112,119,100,67,104,97,110,103,101,100],.int .i64 4,.bool true,.bool true]=cj (aK.take (13+(j+1))):=by rw[hD.o,e];rfl
 replace hD2:=hid hD2;replace e:=hid e;clear hD;refine wk ?_;exact aoO aoJ aoM ⟨j+1,z+1,_,_,rfl,hlt,hz2,hD2,rfl,rfl⟩;have g1:¬(j:Int)<5:=aoJ;have hj5:j=5:=aoJ;have hD2:D=cj aK:=by rw[hD.o,hj5];rfl
 have hz2:z=aK.length:=by rw[hz.o,hj5];rfl
 replace hD2:=hid hD2;replace hz2:=hid hz2;clear hz hD hj5;refine wk ?_;rw[hD2.o,hz2.o];refine bu ?_;simp only[AV.frz,AV.frzL,rC];refine ab ?_ h.o;simp only[AV.refs,AV.refsL,Xa,amr]
theorem tG:ahi aK:=by refine⟨by decide,λty h=>?_,λty h=>?_⟩;have:aK.all (λt=>decide (t.1.length<=1000))=true:=aoL;have:=alC.1 this ty h;simp only[decide_eq_true_eq]at this;unfold bv;omega;have:aK.all (λt=>decide (ez aK t.1=some t))=true:=aoL;simpa using alC.1 this ty h
theorem aes:AV.frzL F0=F0:=aoL
end Go.Proofs.YtcmfcpjnhephaaaGreatDoor.Av
