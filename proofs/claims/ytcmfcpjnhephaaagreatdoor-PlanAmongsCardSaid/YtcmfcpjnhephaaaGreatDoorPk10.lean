/- Joined texts of the walk, made small by a program. -/
import Derived.Test.YtcmfcpjnhephaaaGreatDoorPk9
import Derived.Test.YtcmfcpjnhephaaaGreatDoorPk3
import Derived.Test.YtcmfcpjnhephaaaGreatDoorPk5
import Derived.Test.YtcmfcpjnhephaaaGreatDoorPk7
import Derived.Test.YtcmfcpjnhephaaaGreatDoorPk4
import Derived.Test.YtcmfcpjnhephaaaGreatDoorRows
import Derived.KernelRfl
import Derived.Test.YtcmfcpjnhephaaaGreatDoorPk8
set_option linter.unusedSimpArgs false
set_option linter.unusedVariables false
namespace Go.Proofs.YtcmfcpjnhephaaaGreatDoor.Av
open Go
section
variable {κ υ:Type}{ka:κ->AV}{va:υ->AV}
abbrev bc(κ υ:Type):=κ×υ×Nat
def GU(ka:κ->AV)(va:υ->AV)(e:bc κ υ):AV×AV×Nat:=(ka e.1,va e.2.1,e.2.2)
def a7(ka:κ->AV)(va:υ->AV)(xs:List (bc κ υ)):List (AV×AV×Nat):=xs.map (GU ka va)
structure cW(xs:List (bc κ υ))(ck:Nat):Prop where
 keys:(xs.map (·.1)).Nodup
 born:(xs.map (·.2.2)).Nodup
 lt:∀p∈xs,p.2.2<ck
theorem cW.nil:cW ([]:List (bc κ υ)) 0:=⟨anJ,anJ,λ_ h=>by cases h⟩
theorem cW.add{xs:List (bc κ υ)}{ck:Nat}(h:cW xs ck){k:κ}{w:υ}(ht:k∉xs.map (·.1)):cW (xs++[(k,w,ck)]) (ck+1):=by refine⟨?_,?_,λp hp=>?_⟩;rw[alM,anS];exact⟨h.keys,aoA,λa ha b hb e=>ht (by simp at hb;rw[<- hb,<- e];exact ha)⟩;rw[alM,anS];refine⟨h.born,aoA,λa ha b hb e=>?_⟩;obtain⟨p,hp,rfl⟩:=alg.1 ha;have:=h.lt p hp;simp at hb;omega;rcases alh.1 hp with hp|hp;have:=h.lt p hp;omega;rw[alB.1 hp];exact Nat.lt_succ_self _
theorem cW.filter{xs:List (bc κ υ)}{ck:Nat}(h:cW xs ck)(q:bc κ υ->Bool):cW (xs.filter q) ck :=
 ⟨h.keys.sublist (List.filter_sublist.map _),h.born.sublist (List.filter_sublist.map _),λp hp=>h.lt p (alO.1 hp).1⟩
theorem afK{xs:List (bc κ υ)}{p:bc κ υ}{ck:Nat}{seen:List Nat}(hb:(xs.map (·.2.2)).Nodup)(hp:p∈xs):mat (a7 ka va xs) ck (seen++[p.2.2]) ck=some (ka p.1,va p.2.1,p.2.2):=by
 have key:∀xs:List (bc κ υ),(xs.map (·.2.2)).Nodup->p∈xs->(a7 ka va xs).find? (λe=>Nat.beq e.2.2 p.2.2)=some (GU ka va p):=by
  intro xs;induction xs with
  |nil=>intro _ h;cases h
  | cons x xs ih =>
    intro hn h;rw[alr,ame]at hn;simp only[a7,alr,amt];rcases alj.1 h with h|h
    .subst h;simp[GU]
    .have hne:x.2.2≠p.2.2:=λe=>hn.1 (alg.2 ⟨p,h,e.symm⟩)
     have hbq:Nat.beq x.2.2 p.2.2=false:=by
      cases hh:Nat.beq x.2.2 p.2.2 with
      |false=>rfl
      |true=>exact absurd (aol hh) hne
     rw[show Nat.beq (GU ka va x).2.2 p.2.2=false from hbq];exact ih hn.2 h
 simp only[mat,List.getLast?_append,List.getLast?_singleton,Option.some_or,if_true];exact key xs hb hp
end
section
variable {κ υ:Type}[DecidableEq κ]{ka:κ->AV}{va:υ->AV}
def WD(ka:κ->AV):Prop:=∀a b,xT (ka a) (ka b)=some (decide (a=b))
def bB(xs:List (bc κ υ))(k:κ):Option υ:=(xs.find? λe=>decide (e.1=k)).map (·.2.1)
def ti(xs:List (bc κ υ))(k:κ)(w:υ):List (bc κ υ):=xs.map λe=>if e.1=k then(k,w,e.2.2)else e
def ij(xs:List (bc κ υ))(k:κ):List (bc κ υ):=xs.filter λe=>decide (e.1≠k)
def rB(xs:List (bc κ υ))(k:κ)(w:υ)(ck:Nat):List (bc κ υ):=if k∈xs.map (·.1)then ti xs k w else xs++[(k,w,ck)]
theorem W7{xs:List (bc κ υ)}{k:κ}{w:υ}:(ti xs k w).map (·.1)=xs.map (·.1):=by
 unfold ti;rw[alR];refine amV λe _=>?_
 simp only[aof];split;rename_i h;exact h.symm;rfl
theorem W8{xs:List (bc κ υ)}{k:κ}{w:υ}:(ti xs k w).map (·.2.2)=xs.map (·.2.2):=by
 unfold ti;rw[alR];refine amV λe _=>?_
 simp only[aof];split<;>rfl
theorem cW.upd{xs:List (bc κ υ)}{ck:Nat}(h:cW xs ck){k:κ}{w:υ}:cW (ti xs k w) ck:=by
 refine⟨by rw[W7];exact h.keys,by rw[W8];exact h.born,λp hp=>?_⟩;have:p.2.2∈xs.map (·.2.2):=by rw[<- W8 (k:=k) (w:=w)];exact alg.2 ⟨p,hp,rfl⟩
 obtain⟨q,hq,e⟩:=alg.1 this;rw[<- e];exact h.lt q hq
theorem rn{xs:List (bc κ υ)}{k:κ}:bB xs k=none↔k∉xs.map (·.1):=by unfold bB;rw[Option.map_eq_none_iff,aoc];constructor;intro h hm;obtain⟨e,he,q⟩:=alg.1 hm;exact h e he (decide_eq_true q);intro h e he q;exact h (alg.2 ⟨e,he,of_decide_eq_true q⟩)
theorem f9{xs:List (bc κ υ)}{k:κ}{w:υ}(h:bB xs k=some w):∃b,(k,w,b)∈xs:=by unfold bB at h;obtain⟨⟨k',w',b⟩,h1,h2⟩:=alI.1 h;have e:=anG h1;simp only[decide_eq_true_eq]at e h2;subst e;subst h2;exact⟨b,am6 h1⟩
theorem xQ{xs:List (bc κ υ)}(hn:(xs.map (·.1)).Nodup){e:bc κ υ}(h:e∈xs):bB xs e.1=some e.2.1:=by
 induction xs with
 |nil=>cases h
 | cons x t ih =>
   rw[alr,ame]at hn;unfold bB;rw[amt];rcases alj.1 h with rfl|h
   .simp
   .have hne:x.1≠e.1:=λq=>hn.1 (alg.2 ⟨e,h,q.symm⟩)
    rw[decide_eq_false hne];exact ih hn.2 h
theorem agn{xs:List (bc κ υ)}{k j:κ}{w:υ}(hk:k∈xs.map (·.1)):bB (ti xs k w) j=if j=k then some w else bB xs j:=by
 induction xs with
 |nil=>cases hk
 | cons x t ih =>
   have hu:ti (x::t) k w=(if x.1=k then(k,w,x.2.2)else x)::ti t k w:=rfl;by_cases hx:x.1=k
   .rw[hu,if_pos hx];unfold bB;rw[amt,amt];by_cases hj:j=k
    .subst hj;simp
    .have h1:decide (k=j)=false:=decide_eq_false λe=>hj e.symm
     have h2:decide (x.1=j)=false:=decide_eq_false λe=>hj (by rw[<- e,hx])
     simp only[h1,h2,if_neg hj];by_cases hk2:k∈t.map (·.1)
     .have:=ih hk2;rw[if_neg hj]at this;exact this
     .have hs:ti t k w=t:=by unfold ti;refine(amV λe he=>?_).trans (List.map_id t);rw[if_neg λq=>hk2 (alg.2 ⟨e,he,q⟩)];rfl
      rw[hs]
   .rw[hu,if_neg hx];have hk2:k∈t.map (·.1):=by rw[alr,alj]at hk;exact hk.resolve_left λe=>hx e.symm
    have:=ih hk2;unfold bB at this⊢;rw[amt,amt];by_cases hj:x.1=j
    .subst hj;simp only[decide_true,if_neg hx,alz]
    .rw[decide_eq_false hj];exact this
theorem Ll{xs:List (bc κ υ)}{k j:κ}{w:υ}{ck:Nat}(hk:k∉xs.map (·.1)):bB (xs++[(k,w,ck)]) j=if j=k then some w else bB xs j:=by
 unfold bB;rw[List.find?_append];by_cases hj:j=k;subst hj;have:xs.find? (λe=>decide (e.1=j))=none:=aoc.2 λe he=>by simp only[decide_eq_true_eq];exact λq=>hk (alg.2 ⟨e,he,q⟩)
 rw[this];simp;have h1:decide (k=j)=false:=decide_eq_false λe=>hj e.symm
 rw[if_neg hj];cases hf:xs.find? (λe=>decide (e.1=j))with
 |none=>simp[amt,h1]
 |some v=>simp
theorem ago{xs:List (bc κ υ)}{k j:κ}{w:υ}{ck:Nat}:bB (rB xs k w ck) j=if j=k then some w else bB xs j:=by unfold rB;split;rename_i h;exact agn h;rename_i h;exact Ll h
theorem Lk{xs:List (bc κ υ)}{k j:κ}:bB (ij xs k) j=if j=k then none else bB xs j:=by
 by_cases hj:j=k;subst hj;rw[if_pos rfl,rn];intro h;obtain⟨e,he,q⟩:=alg.1 h;have:=(alO.1 he).2;simp only[ne_eq,decide_eq_true_eq]at this;exact this q;rw[if_neg hj];induction xs with
 |nil=>rfl
 | cons x t ih =>
   unfold ij bB at ih⊢;rw[anr,amt];by_cases hx:x.1=k
   .have h1:decide (x.1=j)=false:=decide_eq_false λe=>hj (by rw[<- e,hx])
    rw[if_neg (by simp[hx]),h1];exact ih
   .rw[if_pos (by simp[hx]),amt];by_cases h2:x.1=j
    .rw[decide_eq_true h2]
    .rw[decide_eq_false h2];exact ih
theorem rQ(hka:WD ka):∀{xs:List (bc κ υ)}{k:κ}(i:Nat),(xs.map (·.1)).Nodup->k∈xs.map (·.1)->∃j w,bB xs k=some w/\d8 (ka k) (a7 ka va xs) i=some (some (i+j,va w))/\(∀u,Yx (ka k) (va u) (a7 ka va xs) j=a7 ka va (ti xs k u))/\(a7 ka va xs).eraseIdx j=a7 ka va (ij xs k)
 |[],k,i,_,h=>by cases h
 | x::xs,k,i,hn,h=>by
   rw[alr,ame]at hn;by_cases e:k=x.1
   .subst e;have hf:ij xs x.1=xs:=anC.2 λp hp=>by
     have:p.1≠x.1:=λe=>hn.1 (alg.2 ⟨p,hp,e⟩)
     simpa using this
    have hu:∀u,ti xs x.1 u=xs:=λu=>by unfold ti;refine(amV λp hp=>?_).trans (List.map_id xs);rw[if_neg λq=>hn.1 (alg.2 ⟨p,hp,q⟩)];rfl
    refine⟨0,x.2.1,?_,?_,λu=>?_,?_⟩
    .simp[bB]
    .simp only[a7,alr,GU,d8,hka x.1 x.1,decide_true];rfl
    .have:ti (x::xs) x.1 u=(x.1,u,x.2.2)::ti xs x.1 u:=(by simp[ti]);rw[this,hu];simp only[a7,alr,GU,Yx]
    .have:ij (x::xs) x.1=ij xs x.1:=(by simp[ij]);rw[this,hf];simp only[a7,alr,List.eraseIdx_zero,List.tail_cons]
   .have ht:k∈xs.map (·.1):=by rw[alr,alj]at h;exact h.resolve_left e
    have e':x.1≠k:=λq=>e q.symm
    obtain⟨j,w,h0,h1,h2,h3⟩:=rQ hka (i+1) hn.2 ht;refine⟨j+1,w,?_,?_,λu=>?_,?_⟩
    .unfold bB at h0⊢;rw[amt,decide_eq_false e'];exact h0
    .simp only[a7,alr,GU,d8,hka k x.1,decide_eq_false e];rw[show i+(j+1)=i+1+j by omega];exact h1
    .have:ti (x::xs) k u=x::ti xs k u:=(by simp[ti,e']);rw[this];simp only[a7,alr,Yx];exact congrArg _ (h2 u)
    .have:ij (x::xs) k=x::ij xs k:=(by simp[ij,e']);rw[this];simp only[a7,alr,List.eraseIdx_cons_succ];exact congrArg _ h3
theorem SN(hka:WD ka):∀{xs:List (bc κ υ)}{k:κ}(i:Nat),k∉xs.map (·.1)->d8 (ka k) (a7 ka va xs) i=some none
 |[],k,i,h=>rfl
 |x::xs,k,i,h=>by rw[alr,alj,not_or]at h;simp only[a7,alr,GU,d8,hka k x.1,decide_eq_false h.1];exact SN hka (i+1) h.2
end
theorem ta:WD (AV.int .i64):=λa b=>by simp[xT]
theorem rb:WD AV.str:=λa b=>by simp[xT]
def p9(k:List UInt8×Bool×List UInt8):AV:=.agg [.str k.1,.bool k.2.1,.str k.2.2]
theorem xU:WD p9:=λa b=>by obtain⟨a1,a2,a3⟩:=a;obtain⟨b1,b2,b3⟩:=b;simp only[p9,xT,xS,T6];by_cases h1:a1=b1<;>by_cases h2:a2=b2<;>by_cases h3:a3=b3<;>simp[h1,h2,h3]
abbrev lY(xs:List (bc Int Bool))(ck:Nat):Blk:=.map (a7 (AV.int .i64) AV.bool xs) ck
def sc(L:List Blk)(b:Nat)(P:Int->Prop):Prop:=∃(xs:List (bc Int Bool)) (ck:Nat),L[b]?=some (lY xs ck)/\cW xs ck/\(∀e∈xs,e.2.1=true)/\∀x,x∈xs.map (·.1)↔P x
theorem sc.keep{L L':List Blk}{b:Nat}{P:Int->Prop}(h:sc L b P)(e:L'[b]?=L[b]?):sc L' b P:=by obtain⟨xs,ck,h1,h2,h3,h4⟩:=h;exact⟨xs,ck,by rw[e];exact h1,h2,h3,h4⟩
theorem sc.iff{L:List Blk}{b:Nat}{P Q:Int->Prop}(h:sc L b P)(e:∀x,P x↔Q x):sc L b Q:=by obtain⟨xs,ck,h1,h2,h3,h4⟩:=h;exact⟨xs,ck,h1,h2,h3,λx=>(h4 x).trans (e x)⟩
def ckS(xs:List (bc Int Bool))(id:Int)(ck:Nat):Nat:=if id∈xs.map (·.1)then ck else ck+1
theorem ahK{κ υ:Type}[DecidableEq κ]{xs:List (bc κ υ)}{ck:Nat}(h:cW xs ck){k:κ}{w:υ}:cW (rB xs k w ck) (if k∈xs.map (·.1)then ck else ck+1):=by unfold rB;split;exact h.upd;rename_i e;exact h.add e
theorem ac7{κ υ:Type}[DecidableEq κ]{xs:List (bc κ υ)}{ck:Nat}{k:κ}{w:υ}{x:κ}:x∈(rB xs k w ck).map (·.1)↔x∈xs.map (·.1)\/x=k:=by unfold rB;split;rename_i h;rw[W7];exact⟨.inl,λe=>e.elim id λq=>q▸h⟩;rw[alM,alh];simp
theorem XY{κ υ:Type}[DecidableEq κ]{xs:List (bc κ υ)}{k x:κ}:x∈(ij xs k).map (·.1)↔x∈xs.map (·.1)/\x≠k:=by unfold ij;simp only[alg,alO,ne_eq,decide_eq_true_eq];constructor;rintro⟨e,⟨h1,h2⟩,rfl⟩;exact⟨⟨e,h1,rfl⟩,h2⟩;rintro⟨⟨e,h1,rfl⟩,h2⟩;exact⟨e,⟨h1,h2⟩,rfl⟩
theorem sc.add{L:List Blk}{b:Nat}{P:Int->Prop}{xs:List (bc Int Bool)}{ck:Nat}(hb:L[b]?=some (lY xs ck))(h:sc L b P)(id:Int)(hm:cW xs ck)(ht:∀e∈xs,e.2.1=true)(hp:∀x,x∈xs.map (·.1)↔P x):sc (L.set b (lY (rB xs id true ck) (ckS xs id ck))) b λx=>P x\/x=id:=by refine⟨rB xs id true ck,ckS xs id ck,?_,ahK hm,λe he=>?_,λx=>?_⟩;rw[amf (ald.1 hb).1];unfold rB at he;split at he;unfold ti at he;obtain⟨q,hq,rfl⟩:=alg.1 he;split;rfl;exact ht q hq;rcases alh.1 he with he|he;exact ht e he;rw[alB.1 he];rw[ac7,hp]
theorem sc.del{L:List Blk}{b:Nat}{P:Int->Prop}{xs:List (bc Int Bool)}{ck:Nat}(hb:L[b]?=some (lY xs ck))(id:Int)(hm:cW xs ck)(ht:∀e∈xs,e.2.1=true)(hp:∀x,x∈xs.map (·.1)↔P x):sc (L.set b (lY (ij xs id) ck)) b λx=>P x/\x≠id:=by refine⟨ij xs id,ck,?_,hm.filter _,λe he=>ht e (alO.1 he).1,λx=>?_⟩;rw[amf (ald.1 hb).1];rw[XY,hp]
abbrev tyV(ty:Typ):AV:=.agg (tyC ty)
abbrev atV(a:List Atr):AV:=.sl (bp a) a.length none
abbrev aaF(m:List (bc (List UInt8) Typ))(c:Nat):Blk:=.map (a7 AV.str tyV m) c
abbrev agx(m:List (bc Int (List Atr)))(c:Nat):Blk:=.map (a7 (AV.int .i64) atV m) c
abbrev afp(m:List (bc (List UInt8) Nat))(c:Nat):Blk:=.map (a7 AV.str AV.lmap m) c
abbrev YH(m:List (bc aU Nat))(c:Nat):Blk:=.map (a7 p9 AV.lmap m) c
structure IxH(L:List Blk)(it im ie ip ii:Nat)(tm:List (bc (List UInt8) Typ))(tc:Nat)(em:List (bc Int (List Atr)))(ec:Nat)(pm:List (bc (List UInt8) Nat))(pc:Nat)(dm:List (bc aU Nat))(dc:Nat)(Q:List UInt8->Int->Prop)(R:aU->Int->Prop):Prop where
 st:L[it]?=some (.cells [.lmap im,.lmap ie,.lmap ip,.lmap ii])
 ty:L[im]?=some (aaF tm tc)
 en:L[ie]?=some (agx em ec)
 pr:L[ip]?=some (afp pm pc)
 ids:L[ii]?=some (YH dm dc)
 tok:cW tm tc
 eok:cW em ec
 pok:cW pm pc
 dok:cW dm dc
 pk:∀f,f∈pm.map (·.1)↔f∈tm.map (·.1)
 ps:∀f b,bB pm f=some b->sc L b (Q f)
 ds:∀k b,bB dm k=some b->sc L b (R k)
 dn:∀k,bB dm k=none->∀x,¬R k x
 nd:(it::im::ie::ip::ii::(pm.map (·.2.1)++dm.map (·.2.1))).Nodup
section
variable {L L':List Blk}{it im ie ip ii:Nat}{tm:List (bc (List UInt8) Typ)}{tc:Nat}{em:List (bc Int (List Atr))}{ec:Nat}{pm:List (bc (List UInt8) Nat)}{pc:Nat}{dm:List (bc aU Nat)}{dc:Nat}{Q:List UInt8->Int->Prop}{R:aU->Int->Prop}
theorem yy{f:List UInt8}{b:Nat}(h:bB pm f=some b):b∈pm.map (·.2.1):=by obtain⟨c,h⟩:=f9 h;exact alg.2 ⟨_,h,rfl⟩
theorem tn{k:aU}{b:Nat}(h:bB dm k=some b):b∈dm.map (·.2.1):=by obtain⟨c,h⟩:=f9 h;exact alg.2 ⟨_,h,rfl⟩
theorem IxH.keep(h:IxH L it im ie ip ii tm tc em ec pm pc dm dc Q R)(e:∀i∈it::im::ie::ip::ii::(pm.map (·.2.1)++dm.map (·.2.1)),L'[i]?=L[i]?):IxH L' it im ie ip ii tm tc em ec pm pc dm dc Q R :=
 ⟨by rw[e it aoA];exact h.st,by rw[e im aoA];exact h.ty,by rw[e ie aoA];exact h.en,by rw[e ip aoA];exact h.pr,by rw[e ii aoA];exact h.ids,h.tok,h.eok,h.pok,h.dok,h.pk,
  λf b q=>(h.ps f b q).keep (e b (by simp only[alj,alh];exact .inr (.inr (.inr (.inr (.inr (.inl (yy q)))))))),
  λk b q=>(h.ds k b q).keep (e b (by simp only[alj,alh];exact .inr (.inr (.inr (.inr (.inr (.inr (tn q)))))))),h.dn,h.nd⟩
theorem IxH.lt(h:IxH L it im ie ip ii tm tc em ec pm pc dm dc Q R):∀i∈it::im::ie::ip::ii::(pm.map (·.2.1)++dm.map (·.2.1)),i<L.length:=by
 intro i hi;simp only[alj,alh]at hi;have g:∀{i:Nat}{b:Blk},L[i]?=some b->i<L.length:=λq=>(ald.1 q).1
 rcases hi with rfl|rfl|rfl|rfl|rfl|hi|hi;exact g h.st;exact g h.ty;exact g h.en;exact g h.pr;exact g h.ids;obtain⟨e,he,rfl⟩:=alg.1 hi;obtain⟨xs,ck,q,_⟩:=h.ps e.1 e.2.1 (xQ h.pok.keys he);exact g q;obtain⟨e,he,rfl⟩:=alg.1 hi;obtain⟨xs,ck,q,_⟩:=h.ds e.1 e.2.1 (xQ h.dok.keys he);exact g q
theorem IxH.more(h:IxH L it im ie ip ii tm tc em ec pm pc dm dc Q R)(X:List Blk):IxH (L++X) it im ie ip ii tm tc em ec pm pc dm dc Q R :=
 h.keep λi hi=>alm (h.lt i hi)
theorem IxH.iff{Q':List UInt8->Int->Prop}{R':aU->Int->Prop}(h:IxH L it im ie ip ii tm tc em ec pm pc dm dc Q R)(hq:∀f x,f∈tm.map (·.1)->(Q f x↔Q' f x))(hr:∀k x,R k x↔R' k x):IxH L it im ie ip ii tm tc em ec pm pc dm dc Q' R' :=
 ⟨h.st,h.ty,h.en,h.pr,h.ids,h.tok,h.eok,h.pok,h.dok,h.pk,λf b q=>(h.ps f b q).iff λx=>hq f x ((h.pk f).1 (by obtain⟨c,m⟩:=f9 q;exact alg.2 ⟨_,m,rfl⟩)),λk b q=>(h.ds k b q).iff λx=>hr k x,λk q x=>λr=>h.dn k q x ((hr k x).2 r),h.nd⟩
theorem afy{κ:Type}[DecidableEq κ]{xs:List (bc κ Nat)}(hn:(xs.map (·.2.1)).Nodup){f g:κ}{b:Nat}(h1:bB xs f=some b)(h2:bB xs g=some b):f=g:=by
 obtain⟨c,m1⟩:=f9 h1;obtain⟨d,m2⟩:=f9 h2;have:∀{l:List (bc κ Nat)},(l.map (·.2.1)).Nodup->∀{x y:bc κ Nat},x∈l->y∈l->x.2.1=y.2.1->x=y:=by
  intro l;induction l with
  |nil=>intro _ x y hx;cases hx
  | cons a l ih =>
    intro hn x y hx hy e;rw[alr,ame]at hn;rcases alj.1 hx with h1|h1<;>rcases alj.1 hy with h2|h2
    .rw[h1,h2]
    .exact absurd (alg.2 ⟨y,h2,by rw[<- e,h1]⟩) hn.1
    .exact absurd (alg.2 ⟨x,h1,by rw[e,h2]⟩) hn.1
    .exact ih hn.2 h1 h2 e
 exact congrArg (·.1) (this hn m1 m2 rfl)
theorem IxH.ne(h:IxH L it im ie ip ii tm tc em ec pm pc dm dc Q R):(pm.map (·.2.1)).Nodup/\(dm.map (·.2.1)).Nodup/\(∀b∈pm.map (·.2.1),b∉dm.map (·.2.1)/\b≠it/\b≠im/\b≠ie/\b≠ip/\b≠ii)/\(∀b∈dm.map (·.2.1),b≠it/\b≠im/\b≠ie/\b≠ip/\b≠ii)/\it≠im/\it≠ie/\it≠ip/\it≠ii/\im≠ie/\im≠ip/\im≠ii/\ie≠ip/\ie≠ii/\ip≠ii:=by have hnd:=h.nd;obtain⟨A,hA⟩:=ak7 (pm.map (·.2.1));obtain⟨B,hB⟩:=ak7 (dm.map (·.2.1));rw[hA,hB]at hnd⊢;simp only[ame,alj,alh,not_or,anS]at hnd;obtain⟨⟨a1,a2,a3,a4,a5,a6⟩,⟨b1,b2,b3,b4,b5⟩,⟨c1,c2,c3,c4⟩,⟨d1,d2,d3⟩,⟨e1,e2⟩,f1,f2,f3⟩:=hnd;refine⟨f1,f2,λb hb=>⟨λq=>f3 b hb b q rfl,?_,?_,?_,?_,?_⟩,λb hb=>⟨?_,?_,?_,?_,?_⟩,a1,a2,a3,a4,b1,b2,b3,c1,c2,d1⟩<;>(rintro rfl;first|exact a5 hb|exact a6 hb|exact b4 hb|exact b5 hb|exact c3 hb|exact c4 hb|exact d2 hb|exact d3 hb|exact e1 hb|exact e2 hb)
theorem IxH.pmSet(h:IxH L it im ie ip ii tm tc em ec pm pc dm dc Q R){f:List UInt8}{b:Nat}(hf:bB pm f=some b){k:Blk}{P:Int->Prop}(hb:sc (L.set b k) b P):IxH (L.set b k) it im ie ip ii tm tc em ec pm pc dm dc (λg x=>if g=f then P x else Q g x) R:=by
 obtain⟨n1,n2,n3,n4,_⟩:=h.ne;obtain⟨m1,m2,m3,m4,m5,m6⟩:=n3 b (yy hf);have e:∀{i:Nat},b≠i->(L.set b k)[i]?=L[i]?:=λq=>alE q
 refine⟨by rw[e m2];exact h.st,by rw[e m3];exact h.ty,by rw[e m4];exact h.en,by rw[e m5];exact h.pr,by rw[e m6];exact h.ids,h.tok,h.eok,h.pok,h.dok,h.pk,λg c q=>?_,λj c q=>(h.ds j c q).keep (e λw=>m1 (by rw[w];exact tn q)),h.dn,h.nd⟩;by_cases hg:g=f;subst hg;rw[hf]at q;cases q;exact hb.iff λx=>by rw[if_pos rfl]
 exact((h.ps g c q).keep (e λw=>hg (afy n1 (w▸q) hf))).iff λx=>by rw[if_neg hg]
theorem IxH.dmSet(h:IxH L it im ie ip ii tm tc em ec pm pc dm dc Q R){j:aU}{b:Nat}(hf:bB dm j=some b){k:Blk}{P:Int->Prop}(hb:sc (L.set b k) b P):IxH (L.set b k) it im ie ip ii tm tc em ec pm pc dm dc Q (λg x=>if g=j then P x else R g x):=by
 obtain⟨n1,n2,n3,n4,_⟩:=h.ne;obtain⟨m2,m3,m4,m5,m6⟩:=n4 b (tn hf);have e:∀{i:Nat},b≠i->(L.set b k)[i]?=L[i]?:=λq=>alE q
 refine⟨by rw[e m2];exact h.st,by rw[e m3];exact h.ty,by rw[e m4];exact h.en,by rw[e m5];exact h.pr,by rw[e m6];exact h.ids,h.tok,h.eok,h.pok,h.dok,h.pk,λg c q=>(h.ps g c q).keep (e λw=>(n3 c (yy q)).1 (by rw[<- w];exact tn hf)),λg c q=>?_,λg q x=>?_,h.nd⟩;by_cases hg:g=j;subst hg;rw[hf]at q;cases q;exact hb.iff λx=>by rw[if_pos rfl]
 exact((h.ds g c q).keep (e λw=>hg (afy n2 (w▸q) hf))).iff λx=>by rw[if_neg hg]
 have hg:g≠j:=λw=>by rw[w,hf]at q;cases q
 rw[if_neg hg];exact h.dn g q x
theorem IxH.dmNew(h:IxH L it im ie ip ii tm tc em ec pm pc dm dc Q R){j:aU}(hf:bB dm j=none):IxH ((L++[lY [] 0]).set ii (YH (dm++[(j,L.length,dc)]) (dc+1))) it im ie ip ii tm tc em ec pm pc (dm++[(j,L.length,dc)]) (dc+1) Q R:=by
 obtain⟨n1,n2,n3,n4,a1,a2,a3,a4,b1,b2,b3,c1,c2,d1⟩:=h.ne;have hj:=rn.1 hf;have hlt:=h.lt;have hii:ii<L.length:=hlt ii aoA;have e:∀{i:Nat},ii≠i->i<L.length->((L++[lY [] 0]).set ii (YH (dm++[(j,L.length,dc)]) (dc+1)))[i]?=L[i]?:=λq r=>by rw[alE q,alm r]
 have g:∀{i:Nat}{b:Blk},L[i]?=some b->i<L.length:=λq=>(ald.1 q).1
 refine⟨by rw[e a4.symm (g h.st)];exact h.st,by rw[e b3.symm (g h.ty)];exact h.ty,by rw[e c2.symm (g h.en)];exact h.en,by rw[e d1.symm (g h.pr)];exact h.pr,?_,h.tok,h.eok,h.pok,h.dok.add hj,h.pk,λf c q=>?_,λk c q=>?_,λk q x=>?_,?_⟩;rw[amf (by simp;omega)];have hc:=yy q;exact(h.ps f c q).keep (e (n3 c hc).2.2.2.2.2.symm (hlt c (by simp only[alj,alh];exact .inr (.inr (.inr (.inr (.inr (.inl hc))))))));rw[Ll hj]at q;by_cases hk:k=j;subst hk;rw[if_pos rfl]at q;cases q;refine⟨[],0,?_,cW.nil,(λe he=>by cases he),λx=>?_⟩;rw[alE aoz,alH (ale _)];simp;constructor;intro hx;cases hx;intro hx;exact absurd hx (h.dn k hf x);rw[if_neg hk]at q;have hc:=tn q;exact(h.ds k c q).keep (e (n4 c hc).2.2.2.2.symm (hlt c (by simp only[alj,alh];exact .inr (.inr (.inr (.inr (.inr (.inr hc))))))));rw[Ll hj]at q;by_cases hk:k=j;rw[if_pos hk]at q;cases q;rw[if_neg hk]at q;exact h.dn k q x;have hn:L.length∉it::im::ie::ip::ii::(pm.map (·.2.1)++dm.map (·.2.1)):=λq=>absurd (hlt _ q) aoz
 have hp:(it::im::ie::ip::ii::(pm.map (·.2.1)++(dm++[(j,L.length,dc)]).map (·.2.1)))=(it::im::ie::ip::ii::(pm.map (·.2.1)++dm.map (·.2.1)))++[L.length]:=aoA;rw[hp,anS];exact⟨h.nd,aoA,λa ha b hb w=>hn (by rw[alB.1 hb]at w;rw[<- w];exact ha)⟩
theorem IxH.dmDel(h:IxH L it im ie ip ii tm tc em ec pm pc dm dc Q R){j:aU}(hj:∀x,¬R j x):IxH (L.set ii (YH (ij dm j) dc)) it im ie ip ii tm tc em ec pm pc (ij dm j) dc Q R:=by
 obtain⟨n1,n2,n3,n4,a1,a2,a3,a4,b1,b2,b3,c1,c2,d1⟩:=h.ne;have hii:ii<L.length:=h.lt ii aoA;have e:∀{i:Nat},ii≠i->(L.set ii (YH (ij dm j) dc))[i]?=L[i]?:=λq=>alE q
 refine⟨by rw[e a4.symm];exact h.st,by rw[e b3.symm];exact h.ty,by rw[e c2.symm];exact h.en,by rw[e d1.symm];exact h.pr,amf hii,h.tok,h.eok,h.pok,h.dok.filter _,h.pk,λf c q=>(h.ps f c q).keep (e (n3 c (yy q)).2.2.2.2.2.symm),λk c q=>?_,λk q x=>?_,?_⟩;rw[Lk]at q;by_cases hk:k=j;rw[if_pos hk]at q;cases q;rw[if_neg hk]at q;exact(h.ds k c q).keep (e (n4 c (tn q)).2.2.2.2.symm);rw[Lk]at q;by_cases hk:k=j;subst hk;exact hj x;rw[if_neg hk]at q;exact h.dn k q x;refine List.Pairwise.sublist ?_ h.nd;refine anT _ (anT _ (anT _ (anT _ (anT _ ?_))));exact List.Sublist.append (List.Sublist.refl _) (List.Sublist.map _ ane)
theorem IxH.enSet(h:IxH L it im ie ip ii tm tc em ec pm pc dm dc Q R){em':List (bc Int (List Atr))}{ec':Nat}(ho:cW em' ec'):IxH (L.set ie (agx em' ec')) it im ie ip ii tm tc em' ec' pm pc dm dc Q R:=by
 obtain⟨n1,n2,n3,n4,a1,a2,a3,a4,b1,b2,b3,c1,c2,d1⟩:=h.ne;have hie:ie<L.length:=h.lt ie aoA;have e:∀{i:Nat},ie≠i->(L.set ie (agx em' ec'))[i]?=L[i]?:=λq=>alE q
 exact⟨by rw[e a2.symm];exact h.st,by rw[e b1.symm];exact h.ty,amf hie,by rw[e c1];exact h.pr,by rw[e c2];exact h.ids,h.tok,ho,h.pok,h.dok,h.pk,λf c q=>(h.ps f c q).keep (e (n3 c (yy q)).2.2.2.1.symm),λk c q=>(h.ds k c q).keep (e (n4 c (tn q)).2.2.1.symm),h.dn,h.nd⟩
end
def abh(x:Int):List Int->List Int
 |[]=>[x]
 |y::l=>if x<=y then x::y::l else y::abh x l
def eA(l:List Int):List Int:=l.foldr abh []
theorem SG(x:Int):∀l:List Int,(abh x l).Perm (x::l)
 |[]=>.refl _
 | y::l=>by
   unfold abh;split
   .exact .refl _
   .exact((SG x l).cons y).trans (.swap x y l)
theorem cX:∀l:List Int,(eA l).Perm l
 |[]=>.refl _
 |x::l=>(SG x _).trans ((cX l).cons x)
theorem acn(x:Int):∀l:List Int,l.Pairwise (·<=·)->(abh x l).Pairwise (·<=·)
 |[],_=>by simp[abh]
 | y::l,h=>by
   have h':=al2.1 h;unfold abh;split
   .rename_i hle;refine al2.2 ⟨λz hz=>?_,h⟩;rcases alj.1 hz with rfl|hz
    .exact hle
    .exact Int.le_trans hle (h'.1 z hz)
   .rename_i hle;refine al2.2 ⟨λz hz=>?_,acn x l h'.2⟩;rcases alj.1 ((SG x l).mem_iff.1 hz)with rfl|hz
    .omega
    .exact h'.1 z hz
theorem xW:∀l:List Int,(eA l).Pairwise (·<=·)
 |[]=>.nil
 |x::l=>acn x _ (xW l)
theorem XK(l:List Int):l.mergeSort (λx y=>decide (x<=y))=eA l:=by refine aog (le:=λa b=>a<=b) (λa b _ _ h1 h2=>Int.le_antisymm h1 h2) ?_ (xW l) ((anx l _).trans (cX l).symm);have:=aoq (le:=λx y:Int=>decide (x<=y)) (λa b c h1 h2=>by simp only[decide_eq_true_eq]at *;omega) (λa b=>by simp only[alW,decide_eq_true_eq];omega) l;exact this.imp λh=>by simpa using h
def yp:List (AV×AV×Nat)->Option (List Int)
 |[]=>some []
 |(.int .i64 k,_,_)::l=>(yp l).map (k::·)
 |_=>none
def Sy:List Nat->Bool
 |[]=>true
 |x::l => !l.contains x&&Sy l
def Sx:List Int->Bool
 |[]=>true
 |x::l => !l.contains x&&Sx l
theorem Xz:∀{l:List Nat},Sy l=true->l.Nodup
 |[],_=>anJ
 |x::l,h=>by simp only[Sy,alk,alT,al8,decide_eq_false_iff_not]at h;exact ame.2 ⟨h.1,Xz h.2⟩
theorem Xx:∀{l:List Int},Sx l=true->l.Nodup
 |[],_=>anJ
 |x::l,h=>by simp only[Sx,alk,alT,al8,decide_eq_false_iff_not]at h;exact ame.2 ⟨h.1,Xx h.2⟩
def UO(es:List (AV×AV×Nat))(ck:Nat)(ks:List Int):Bool :=
 ks.all (λk=>decide (-9223372036854775808<=k/\k<=9223372036854775807))&&Sx ks&&Sy (es.map (·.2.2))&&es.all (λe=>decide (e.2.2<ck))&&decide (es.length<=1000)
theorem XE{E:Env}:∀{es:List (AV×AV×Nat)}{rs:List MapEntry}{ks:List Int},aq E es rs->yp es=some ks->rs.map (·.key)=ks.map (Value.int .i64)/\rs.map (·.born)=es.map (·.2.2)
 |[],rs,ks,hm,hk=>by simp only[aq]at hm;subst hm;simp only[yp,alf]at hk;subst hk;exact⟨rfl,rfl⟩
 | (q,x,b)::es,rs,ks,hm,hk=>by
   simp only[aq]at hm;obtain⟨e,t,rfl,h1,h2,h3,h4⟩:=hm;cases q<;>try (simp[yp]at hk;done)
   rename_i kd k;cases kd<;>simp only[yp,reduceCtorEq,alI]at hk;obtain⟨ks',h5,rfl⟩:=hk;obtain⟨i1,i2⟩:=XE h4 h5;simp only[VR]at h1;exact⟨by simp[h1,i1],by simp[h3,i2]⟩
theorem XD:∀xs:List (bc Int Bool),yp (a7 (AV.int .i64) AV.bool xs)=some (xs.map (·.1))
 |[]=>rfl
 |x::t=>by have ih:=XD t;unfold a7 at ih⊢;rw[alr,alr];simp only[GU,yp,ih,alz]
theorem XA:∀{l:List Nat},l.Nodup->Sy l=true
 |[],_=>rfl
 |x::l,h=>by rw[ame]at h;simp only[Sy,alk,alT,al8,decide_eq_false_iff_not];exact⟨h.1,XA h.2⟩
theorem Xy:∀{l:List Int},l.Nodup->Sx l=true
 |[],_=>rfl
 |x::l,h=>by rw[ame]at h;simp only[Sx,alk,alT,al8,decide_eq_false_iff_not];exact⟨h.1,Xy h.2⟩
theorem ZP{ks l:List Int}(hn:ks.Nodup)(hl:l.Pairwise (· < ·))(h:∀x,x∈ks↔x∈l):eA ks=l:=by
 have hp:=cX ks;refine L8 ?_ hl λx=>(hp.mem_iff).trans (h x)
 have hnd:(eA ks).Nodup:=hp.nodup_iff.2 hn;exact(xW ks).imp₂ (λa b h1 h2=>aoz) hnd
theorem sc.rise{L:List Blk}{b:Nat}{P:Int->Prop}(h:sc L b P){l:List Int}(hl:l.Pairwise (· < ·))(hp:∀x,P x↔x∈l)(hi:∀x∈l,-9223372036854775808<=x/\x<=9223372036854775807)(hn:l.length<=1000):
  ∃es ck ks,L[b]?=some (.map es ck)/\yp es=some ks/\UO es ck ks=true/\eA ks=l/\ks.length=l.length:=by
 obtain⟨xs,ck,h1,h2,h3,h4⟩:=h;have hm:∀x,x∈xs.map (·.1)↔x∈l:=λx=>(h4 x).trans (hp x)
 have hs:=ZP h2.keys hl hm;have hlen:(xs.map (·.1)).length=l.length:=by rw[<- hs];exact(cX _).length_eq.symm
 refine⟨_,ck,xs.map (·.1),h1,XD xs,?_,hs,hlen⟩;have e1:(a7 (AV.int .i64) AV.bool xs).map (·.2.2)=xs.map (·.2.2):=by unfold a7;rw[alR];rfl
 unfold UO;rw[e1,XA h2.born,Xy h2.keys];simp only[alk,al0,anh,aln,decide_eq_true_eq];refine⟨⟨λk hk=>hi k ((hm k).1 hk),λe he=>?_⟩,?_⟩;unfold a7 at he;obtain⟨q,hq,rfl⟩:=alg.1 he;exact h2.lt q hq;unfold a7;rw[alU];rw[alU]at hlen;omega
theorem Xq{l:List aQ}{f:List UInt8}{id x:Int}:x∈lG (cG id l) f↔x∈lG l f/\x≠id:=by rw[pU,pU];constructor;rintro⟨b,h1,h2⟩;obtain⟨e,e2⟩:=gn.1 h1;exact⟨⟨b,e,h2⟩,e2⟩;rintro⟨⟨b,h1,h2⟩,h3⟩;exact⟨b,gn.2 ⟨h1,h3⟩,h2⟩
def P9(em:List (bc Int (List Atr)))(l:List aQ):Prop:=∀id a,bB em id=some a↔(id,a)∈l
theorem P9.nil:P9 [] []:=λid a=>by simp[bB]
theorem P9.o{em:List (bc Int (List Atr))}{l:List aQ}(h:P9 em l){id:Int}:bB em id=none↔∀a,(id,a)∉l:=by
 constructor;intro q a m;rw[(h id a).2 m]at q;cases q;intro q;cases hg:bB em id with
 |none=>rfl
 |some a=>exact absurd ((h id a).1 hg) (q a)
theorem P9.drop{em:List (bc Int (List Atr))}{l:List aQ}(h:P9 em l)(id:Int):P9 (ij em id) (cG id l):=λj a=>by rw[Lk,gn];by_cases hj:j=id;rw[if_pos hj];simp[hj];rw[if_neg hj,h j a];exact⟨λq=>⟨q,hj⟩,λq=>q.1⟩
theorem P9.put{em:List (bc Int (List Atr))}{l:List aQ}{id:Int}(h:P9 em (cG id l))(a:List Atr){ck:Nat}:P9 (rB em id a ck) (GR id a l):=λj b=>by rw[ago,lF];by_cases hj:j=id;subst hj;rw[if_pos rfl];constructor;intro q;cases q;exact .inl rfl;rintro(q|⟨_,q⟩);cases q;rfl;exact absurd rfl q;rw[if_neg hj,h j b,gn];constructor;rintro⟨q1,q2⟩;exact .inr ⟨q1,q2⟩;rintro(q|⟨q1,q2⟩);cases q;exact absurd rfl hj;exact⟨q1,q2⟩
theorem ad7{l:List aQ}{id:Int}(h:∀a,(id,a)∉l):cG id l=l:=by
 unfold cG;refine anC.2 λe he=>?_
 have:e.1≠id:=λq=>h e.2 (by rw[<- q];exact he)
 simpa using this
def WK(R:aU->Int->Prop)(id:Int)(ks:List aU):aU->Int->Prop:=λk x=>R k x\/(x=id/\k∈ks)
def SW(R:aU->Int->Prop)(id:Int)(ks:List aU):aU->Int->Prop:=λk x=>R k x/\¬(x=id/\k∈ks)
theorem Xp{R:aU->Int->Prop}{id:Int}{ks:List aU}{j:aU}(k:aU)(x:Int):(if k=j then(WK R id ks j x\/x=id)else WK R id ks k x)↔WK R id (ks++[j]) k x:=by unfold WK;by_cases h:k=j;subst h;rw[if_pos rfl];simp only[alh,alB];constructor;rintro((q|q)|q);exact .inl q;exact .inr ⟨q.1,.inl q.2⟩;exact .inr ⟨q,.inr trivial⟩;rintro(q|⟨q,_⟩);exact .inl (.inl q);exact .inr q;rw[if_neg h];simp only[alh,alB,h,or_false]
theorem SV{R:aU->Int->Prop}{id:Int}{ks:List aU}{j:aU}(k:aU)(x:Int):(if k=j then(SW R id ks j x/\x≠id)else SW R id ks k x)↔SW R id (ks++[j]) k x:=by unfold SW;by_cases h:k=j;subst h;rw[if_pos rfl];simp only[alh,alB];constructor;rintro⟨⟨q1,q2⟩,q3⟩;exact⟨q1,λw=>q3 w.1⟩;rintro⟨q1,q2⟩;exact⟨⟨q1,λw=>q2 ⟨w.1,.inl w.2⟩⟩,λw=>q2 ⟨w,.inr trivial⟩⟩;rw[if_neg h];simp only[alh,alB,h,or_false]
theorem agA{tys:List (List UInt8×Int)}{l:List aQ}(hr:eE l){id:Int}{a:List Atr}(ha:(id,a)∈l){ks:List aU}(hk:∀k,k∈ks↔k∈d9 tys a)(k:aU)(x:Int):SW (λk x=>x∈fP tys l k) id ks k x↔x∈fP tys (cG id l) k:=by unfold SW;rw[XO];constructor;rintro⟨q1,q2⟩;refine⟨q1,λw=>?_⟩;subst w;obtain⟨b,m1,m2⟩:=ic.1 q1;have e:=Xl hr m1 ha rfl;cases e;exact q2 ⟨rfl,(hk k).2 m2⟩;rintro⟨q1,q2⟩;exact⟨q1,λw=>q2 w.1⟩
theorem afk{tys:List (List UInt8×Int)}{l:List aQ}{id:Int}{a:List Atr}{ks:List aU}(hk:∀k,k∈ks↔k∈d9 tys a)(k:aU)(x:Int):WK (λk x=>x∈fP tys (cG id l) k) id ks k x↔x∈fP tys (GR id a l) k:=by unfold WK;simp only;rw[XO,af5,hk]
abbrev TMp:=List (bc (List UInt8) Typ)
def ed(tm:TMp):List (List UInt8×Int):=tm.map λe=>(e.1,e.2.1.2.1)
theorem W9(tm:TMp):(ed tm).map (·.1)=tm.map (·.1):=by unfold ed;rw[alR];rfl
theorem Zg{tm:TMp}(h:(tm.map (·.1)).Nodup){f:List UInt8}{s:Int}:(f,s)∈ed tm↔∃ty,bB tm f=some ty/\ty.2.1=s:=by unfold ed;rw[alg];constructor;rintro⟨e,he,q⟩;cases q;exact⟨_,xQ h he,rfl⟩;rintro⟨ty,h1,rfl⟩;obtain⟨c,hc⟩:=f9 h1;exact⟨_,hc,rfl⟩
def Mu(ts:List Typ):TMp->List (List UInt8)->Int×TMp
 |tm,[]=>(0,tm)
 | tm,n::r=>match eF ts n with
   |none=>(20,tm)
   |some ty=>if af n∈tm.map (·.1)then(21,tm)else Mu ts (tm++[(af n,ty,tm.length)]) r
structure TmS(ts:List Typ)(tm:TMp):Prop where
 ok:cW tm tm.length
 ty:∀e∈tm,∃n,eF ts n=some e.2.1/\af n=e.1/\aR n
theorem TmS.nil(ts:List Typ):TmS ts []:=⟨cW.nil,λe he=>by cases he⟩
theorem TmS.add{ts:List Typ}{tm:TMp}(h:TmS ts tm){n:List UInt8}{ty:Typ}(ht:eF ts n=some ty)(hn:af n∉tm.map (·.1))(hr:aR n):TmS ts (tm++[(af n,ty,tm.length)]):=by refine⟨?_,λe he=>?_⟩;have:=h.ok.add (w:=ty) hn;rw[alw];exact this;rcases alh.1 he with he|he;exact h.ty e he;rw[alB.1 he];exact⟨n,ht,rfl,hr⟩
theorem Yw{ts:List Typ}:∀{ns:List (List UInt8)}{tm:TMp},TmS ts tm->(∀n∈ns,aR n)->TmS ts (Mu ts tm ns).2
 |[],tm,h,_=>h
 | n::r,tm,h,hr=>by
   rw[Mu];cases ht:eF ts n with
   |none=>exact h
   | some ty =>
     simp only;split
     .exact h
     .rename_i hn;exact Yw (h.add ht hn (hr n aoA)) λm hm=>hr m (by simp[hm])
def IxO(L:List Blk)(it:Nat)(tm:TMp)(l:List aQ)(B:Nat->Prop):Prop :=
 ∃im ie ip ii em ec pm pc dm dc,IxH L it im ie ip ii tm tm.length em ec pm pc dm dc (λf x=>x∈lG l f) (λk x=>x∈fP (ed tm) l k)/\P9 em l/\eE l/\∀i,B i↔i∈it::im::ie::ip::ii::(pm.map (·.2.1)++dm.map (·.2.1))
structure bP(B:Nat->Prop)(L L':List Blk):Prop where
 len:L.length<=L'.length
 eq:∀i,i<L.length->¬B i->L'[i]?=L[i]?
theorem bP.refl{B:Nat->Prop}(L:List Blk):bP B L L:=⟨ale _,λ_ _ _=>rfl⟩
theorem bP.app{B:Nat->Prop}(L X:List Blk):bP B L (L++X):=⟨aoA,λi hi _=>alm hi⟩
theorem bP.trans{B B':Nat->Prop}{L L1 L2:List Blk}(h:bP B L L1)(g:bP B' L1 L2)(hb:∀i,i<L.length->B' i->B i):bP B L L2:=⟨alF h.len g.len,λi hi hn=>by rw[g.eq i (amL hi h.len) (λe=>hn (hb i hi e)),h.eq i hi hn]⟩
theorem bP.set{B:Nat->Prop}(L:List Blk){j:Nat}(hj:B j\/L.length<=j)(b:Blk):bP B L (L.set j b):=⟨aoA,λi hi hb=>alE (λe=>by rcases hj with hj|hj;exact hb (by rw[<- e];exact hj);omega)⟩
theorem bP.get{B:Nat->Prop}{L L':List Blk}(h:bP B L L'){i:Nat}{b:Blk}(hi:L[i]?=some b)(hb:¬B i):L'[i]?=some b:=by rw[h.eq i (ald.1 hi).1 hb];exact hi
theorem IxO.lt{L:List Blk}{it:Nat}{tm:TMp}{l:List aQ}{B:Nat->Prop}(h:IxO L it tm l B){i:Nat}(hi:B i):i<L.length:=by obtain⟨im,ie,ip,ii,em,ec,pm,pc,dm,dc,h1,_,_,h4⟩:=h;exact h1.lt i ((h4 i).1 hi)
theorem IxO.own{L:List Blk}{it:Nat}{tm:TMp}{l:List aQ}{B:Nat->Prop}(h:IxO L it tm l B):B it:=by obtain⟨im,ie,ip,ii,em,ec,pm,pc,dm,dc,h1,_,_,h4⟩:=h;exact(h4 it).2 aoA
theorem IxO.rise{L:List Blk}{it:Nat}{tm:TMp}{l:List aQ}{B:Nat->Prop}(h:IxO L it tm l B):eE l:=by obtain⟨im,ie,ip,ii,em,ec,pm,pc,dm,dc,h1,_,h3,h4⟩:=h;exact h3
theorem IxO.keep{L L':List Blk}{it:Nat}{tm:TMp}{l:List aQ}{B C:Nat->Prop}(h:IxO L it tm l B)(hb:bP C L L')(hd:∀i,B i->¬C i):IxO L' it tm l B:=by
 have hlt:=λi hi=>h.lt (i:=i) hi
 obtain⟨im,ie,ip,ii,em,ec,pm,pc,dm,dc,h1,h2,h3,h4⟩:=h;exact⟨im,ie,ip,ii,em,ec,pm,pc,dm,dc,h1.keep λi hi=>hb.eq i (h1.lt i hi) (hd i ((h4 i).2 hi)),h2,h3,h4⟩
theorem IxO.app{L:List Blk}{it:Nat}{tm:TMp}{l:List aQ}{B:Nat->Prop}(h:IxO L it tm l B)(X:List Blk):IxO (L++X) it tm l B:=h.keep (C:=λ_=>False) (bP.app L X) λ_ _ e=>e
section
variable {L:List Blk}{it im ie ip ii:Nat}{tm:TMp}{em:List (bc Int (List Atr))}{ec:Nat}{pm:List (bc (List UInt8) Nat)}{pc:Nat}{dm:List (bc aU Nat)}{dc:Nat}{Q:List UInt8->Int->Prop}{R:aU->Int->Prop}
theorem IxH.tyNew(h:IxH L it im ie ip ii tm tm.length em ec pm pc dm dc Q R){f:List UInt8}(hf:f∉tm.map (·.1))(ty:Typ)(hq:∀x,¬Q f x):
  IxH (((L.set im (aaF (tm++[(f,ty,tm.length)]) (tm.length+1)))++[lY [] 0]).set ip (afp (pm++[(f,L.length,pc)]) (pc+1))) it im ie ip ii (tm++[(f,ty,tm.length)]) (tm++[(f,ty,tm.length)]).length em ec (pm++[(f,L.length,pc)]) (pc+1) dm dc Q R:=by
 obtain⟨n1,n2,n3,n4,a1,a2,a3,a4,b1,b2,b3,c1,c2,d1⟩:=h.ne;have hlt:=h.lt;have him:im<L.length:=hlt im aoA;have hip:ip<L.length:=hlt ip aoA;have hfp:f∉pm.map (·.1):=λe=>hf ((h.pk f).1 e)
 have e:∀{i:Nat},ip≠i->im≠i->i<L.length->(((L.set im (aaF (tm++[(f,ty,tm.length)]) (tm.length+1)))++[lY [] 0]).set ip (afp (pm++[(f,L.length,pc)]) (pc+1)))[i]?=L[i]?:=λq1 q2 r=>by rw[alE q1,alm (by simpa using r),alE q2]
 have g:∀{i:Nat}{b:Blk},L[i]?=some b->i<L.length:=λq=>(ald.1 q).1
 have hl1:(tm++[(f,ty,tm.length)]).length=tm.length+1:=aoA;refine⟨by rw[e a3.symm a1.symm (g h.st)];exact h.st,?_,by rw[e c1.symm b1 (g h.en)];exact h.en,?_,by rw[e d1 b3 (g h.ids)];exact h.ids,by rw[hl1];exact h.tok.add hf,h.eok,h.pok.add hfp,h.dok,λg=>?_,λk c q=>?_,λk c q=>?_,h.dn,?_⟩;rw[alE b2.symm,alm (by simpa using him),amf him,hl1];rw[amf (by simp;omega)];rw[alM,alM,alh,alh,h.pk];simp;rw[Ll hfp]at q;by_cases hk:k=f;subst hk;rw[if_pos rfl]at q;cases q;refine⟨[],0,?_,cW.nil,(λe he=>by cases he),λx=>?_⟩;rw[alE aoz,alH aoA];simp;exact⟨λhx=>(by cases hx),λhx=>absurd hx (hq x)⟩;rw[if_neg hk]at q;have hc:=yy q;obtain⟨m1,m2,m3,m4,m5,m6⟩:=n3 c hc;exact(h.ps k c q).keep (e m5.symm m3.symm (hlt c (by simp only[alj,alh];exact .inr (.inr (.inr (.inr (.inr (.inl hc))))))));have hc:=tn q;obtain⟨m2,m3,m4,m5,m6⟩:=n4 c hc;exact(h.ds k c q).keep (e m5.symm m3.symm (hlt c (by simp only[alj,alh];exact .inr (.inr (.inr (.inr (.inr (.inr hc))))))));have hn:L.length∉it::im::ie::ip::ii::(pm.map (·.2.1)++dm.map (·.2.1)):=λq=>absurd (hlt _ q) aoz
 have hp:(it::im::ie::ip::ii::((pm++[(f,L.length,pc)]).map (·.2.1)++dm.map (·.2.1))).Perm (L.length::(it::im::ie::ip::ii::(pm.map (·.2.1)++dm.map (·.2.1)))):=by have e1:it::im::ie::ip::ii::((pm++[(f,L.length,pc)]).map (·.2.1)++dm.map (·.2.1))=(it::im::ie::ip::ii::pm.map (·.2.1))++L.length::dm.map (·.2.1):=aoA;rw[e1];exact List.perm_middle
 exact hp.nodup_iff.2 (ame.2 ⟨hn,h.nd⟩)
theorem IxH.start{L:List Blk}{it im ie ip ii:Nat}(h1:L[it]?=some (.cells [.lmap im,.lmap ie,.lmap ip,.lmap ii]))(h2:L[im]?=some (aaF [] 0))(h3:L[ie]?=some (agx [] 0))(h4:L[ip]?=some (afp [] 0))(h5:L[ii]?=some (YH [] 0))(hn:[it,im,ie,ip,ii].Nodup){Q:List UInt8->Int->Prop}{R:aU->Int->Prop}(hr:∀k x,¬R k x):
  IxH L it im ie ip ii [] 0 [] 0 [] 0 [] 0 Q R :=
 ⟨h1,h2,h3,h4,h5,cW.nil,cW.nil,cW.nil,cW.nil,λf=>aoA,λf b e=>(by simp[bB]at e),λf b e=>(by simp[bB]at e),λk _ x=>hr k x,by simpa using hn⟩
end
section
variable {κ υ:Type}
structure yh(xs ps:List (bc κ υ))(seen:List Nat):Prop where
 sub:∀x∈ps,x∈xs
 eq:seen=ps.map (·.2.2)
theorem yh.nil{xs:List (bc κ υ)}:yh xs [] []:=⟨λ_ h=>(by cases h),rfl⟩
theorem yh.next{xs ps:List (bc κ υ)}{seen:List Nat}(h:yh xs ps seen){x:bc κ υ}(hx:x∈xs):yh xs (ps++[x]) (seen++[x.2.2]):=by refine⟨λy hy=>?_,by rw[h.eq];simp⟩;rcases alh.1 hy with hy|hy;exact h.sub y hy;rw[alB.1 hy];exact hx
theorem afD{α β:Type}{f:α->β}:∀{l:List α},(l.map f).Nodup->∀{a b:α},a∈l->b∈l->f a=f b->a=b
 | x::l,h,a,b,ha,hb,e=>by
   rw[alr,ame]at h;rcases alj.1 ha with h1|h1
   .rcases alj.1 hb with h2|h2
    .rw[h1,h2]
    .exact absurd (alg.2 ⟨b,h2,by rw[<- e,h1]⟩) h.1
   .rcases alj.1 hb with h2|h2
    .exact absurd (alg.2 ⟨a,h1,by rw[e,h2]⟩) h.1
    .exact afD h.2 h1 h2 e
theorem yh.all{xs ps:List (bc κ υ)}{seen:List Nat}{ck:Nat}(h:yh xs ps seen)(hx:cW xs ck)(ha:∀x∈xs,seen.contains x.2.2=true)(x:bc κ υ):x∈ps↔x∈xs:=by refine⟨h.sub x,λhm=>?_⟩;have:=ha x hm;rw[alQ,h.eq]at this;obtain⟨y,hy,e⟩:=alg.1 this;rw[<- afD (f:=λx:bc κ υ=>x.2.2) hx.born (h.sub y hy) hm e];exact hy
theorem ajk{xs:List (bc κ υ)}{seen:List Nat}{x:bc κ υ}(hx:x∈xs)(hs:seen.contains x.2.2=false):(xs.filter λr => !(seen++[x.2.2]).contains r.2.2).length<(xs.filter λr => !seen.contains r.2.2).length:=by
 have e:(xs.filter λr => !(seen++[x.2.2]).contains r.2.2)=(xs.filter λr => !seen.contains r.2.2).filter (λr=>decide (r.2.2≠x.2.2)):=by
  rw[List.filter_filter];refine anU λr _=>?_
  by_cases h:r.2.2=x.2.2<;>simp[h]
 rw[e];refine aor.2 ⟨x,alO.2 ⟨hx,by rw[hs];rfl⟩,aoA⟩
end
theorem bP.weak{B C:Nat->Prop}{L L':List Blk}(h:bP B L L')(hb:∀i,i<L.length->B i->C i):bP C L L':=⟨h.len,λi hi hn=>h.eq i hi λe=>hn (hb i hi e)⟩
structure DoK(P:Program)(f:FuncId)(caps:List AV)(it im ie ip ii:Nat)(tm:TMp)(J:List aU->(Nat->Prop)->List Blk->Prop):Prop where
 st:∀ks B L,J ks B L->L[it]?=some (.cells [.lmap im,.lmap ie,.lmap ip,.lmap ii])
 ty:∀ks B L,J ks B L->L[im]?=some (aaF tm tm.length)
 lt:∀ks B L,J ks B L->∀i,B i->i<L.length
 keep:∀ks B L L',J ks B L->bP (λi=>¬B i) L L'->J ks B L'
 go:∀ks B L k (K:AV->List Blk->Prop),J ks B L->(∀L' B',J (ks++[k]) B' L'->bP B L L'->(∀i,B' i->B i\/L.length<=i)->K (.tup []) L')->ad P f (p9 k::caps) L K
def EaI(J:List aU->(Nat->Prop)->List Blk->Prop)(B0:Nat->Prop)(L0:List Blk)(F:List (Nat×Blk))(M:aU->Prop)(L1:List Blk):Prop :=
 ∃ks B',J ks B' L1/\(∀k,k∈ks↔M k)/\bP B0 L0 L1/\(∀i,B' i->B0 i\/L0.length<=i)/\∀p∈F,¬B' p.1/\L1[p.1]?=some p.2/\L0.length<=p.1
section
variable {P:Program}{f:FuncId}{caps:List AV}{it im ie ip ii:Nat}{tm:TMp}{J:List aU->(Nat->Prop)->List Blk->Prop}{B0:Nat->Prop}{L0 L1:List Blk}{F:List (Nat×Blk)}{M:aU->Prop}
theorem EaI.iff{M':aU->Prop}(h:EaI J B0 L0 F M L1)(e:∀k,M k↔M' k):EaI J B0 L0 F M' L1:=by obtain⟨ks,B',h1,h2,h3⟩:=h;exact⟨ks,B',h1,λk=>(h2 k).trans (e k),h3⟩
theorem EaI.sub{F':List (Nat×Blk)}(h:EaI J B0 L0 F M L1)(e:∀p∈F',p∈F):EaI J B0 L0 F' M L1:=by obtain⟨ks,B',h1,h2,h3,h4,h5⟩:=h;exact⟨ks,B',h1,h2,h3,h4,λp hp=>h5 p (e p hp)⟩
theorem EaI.at(h:EaI J B0 L0 F M L1){i:Nat}{b:Blk}(e:(i,b)∈F):L1[i]?=some b:=by obtain⟨ks,B',h1,h2,h3,h4,h5⟩:=h;exact(h5 _ e).2.1
theorem EaI.len(h:EaI J B0 L0 F M L1):L0.length<=L1.length:=by obtain⟨ks,B',h1,h2,h3,h4,h5⟩:=h;exact h3.len
theorem EaI.start{L0:List Blk}{B0:Nat->Prop}(h:J [] B0 L0):EaI J B0 L0 [] (λ_=>False) L0 :=
 ⟨[],B0,h,λk=>aoA,.refl _,λi hi=>.inl hi,λp hp=>by cases hp⟩
theorem EaI.app(hd:DoK P f caps it im ie ip ii tm J)(h:EaI J B0 L0 F M L1)(b:Blk):EaI J B0 L0 ((L1.length,b)::F) M (L1++[b]):=by obtain⟨ks,B',h1,h2,h3,h4,h5⟩:=h;refine⟨ks,B',hd.keep _ _ _ _ h1 (bP.app _ _),h2,h3.trans (bP.app (B:=λ_=>False) _ _) (λi _ e=>e.elim),h4,λp hp=>?_⟩;rcases alj.1 hp with rfl|hp;exact⟨λe=>absurd (hd.lt _ _ _ h1 _ e) aoA,aoA,h3.len⟩;obtain⟨g1,g2,g3⟩:=h5 p hp;exact⟨g1,ak8 g2,g3⟩
theorem EaI.turn(hd:DoK P f caps it im ie ip ii tm J){i:Nat}{b:Blk}(h:EaI J B0 L0 ((i,b)::F) M L1)(b':Blk)(hF:∀p∈F,p.1≠i):EaI J B0 L0 ((i,b')::F) M (L1.set i b'):=by obtain⟨ks,B',h1,h2,h3,h4,h5⟩:=h;obtain⟨q1,q2,q3⟩:=h5 (i,b) aoA;simp only at q1 q2 q3;refine⟨ks,B',hd.keep _ _ _ _ h1 (bP.set _ (.inl q1) _),h2,h3.trans (bP.set (B:=λj=>j=i) L1 (.inl rfl) b') (λj hj e=>absurd hj aoz),h4,λp hp=>?_⟩;rcases alj.1 hp with rfl|hp;exact⟨q1,amf (ald.1 q2).1,q3⟩;obtain⟨g1,g2,g3⟩:=h5 p (by simp[hp]);exact⟨g1,by rw[alE (λe=>hF p hp e.symm)];exact g2,g3⟩
theorem EaI.st(hd:DoK P f caps it im ie ip ii tm J)(h:EaI J B0 L0 F M L1):L1[it]?=some (.cells [.lmap im,.lmap ie,.lmap ip,.lmap ii])/\L1[im]?=some (aaF tm tm.length):=by obtain⟨ks,B',h1,_⟩:=h;exact⟨hd.st _ _ _ h1,hd.ty _ _ _ h1⟩
theorem EaI.go(hd:DoK P f caps it im ie ip ii tm J)(h:EaI J B0 L0 F M L1){k:aU}{K:alc}(hk:∀L2,EaI J B0 L0 F (λx=>M x\/x=k) L2->L1.length<=L2.length->K (.tup []) L2):ad P f (p9 k::caps) L1 K:=by
 obtain⟨ks,B',h1,h2,h3,h4,h5⟩:=h;refine hd.go ks B' L1 k K h1 λL2 B2 g1 g2 g3=>hk L2 ⟨ks++[k],B2,g1,λx=>by simp[h2],h3.trans g2 (λi hi e=>(h4 i e).resolve_right aoz),λi hi=>?_,λp hp=>?_⟩ g2.len
 rcases g3 i hi with e|e;exact h4 i e;exact .inr (alF h3.len e);obtain⟨q1,q2,q3⟩:=h5 p hp;have hl:=(ald.1 q2).1;refine⟨λe=>?_,g2.get q2 q1,q3⟩;rcases g3 _ e with e|e;exact q1 e;omega
end
variable {L:List Blk}{K:alc}
set_option maxHeartbeats 8000000
set_option maxRecDepth 100000
def GI(l:List UInt8):Bool:=l.any λc=>c != 32
def Qo(t:List UInt8)(k:Nat):List UInt8:=if GI (t.drop k)=true then bR (t.take k)else du (bR (t.take k))
theorem XW{t:List UInt8}{k:Nat}(h:k<t.length):t.drop k=t.getD k 0::t.drop (k+1):=by rw[al1 h,alD,alu h];rfl
theorem VJ(c:UInt8)(l:List UInt8):GI (c::l)=(c != 32 ||GI l):=rfl
theorem gg(b:List UInt8)(c:UInt8):du (b++[c])=if c=32 then b else b++[c]:=by simp[du]
theorem VB(t:List UInt8):∀k,k<=t.length->bR (t.take k)≠[]->(x8 (bR (t.take k))=true↔t.getD (k-1) 0=32)
 |0,_,h=>by simp[bR]at h
 | k+1,hk,h=>by
   have ih:=VB t k aoz;rw[ym (show k<t.length by omega)]at h⊢;rw[show k+1-1=k by omega];unfold aD at h⊢;split
   .rename_i e;exact⟨λ_=>e.1,λ_=>e.2⟩
   .simp[x8]
theorem adh{t:List UInt8}{k:Nat}(h:k<t.length):Qo t (k+1) =
  if GI (t.drop k)=false\/(t.getD k 0=32/\(Qo t k=[]\/t.getD (k-1) 0=32))then Qo t k else Qo t k++[t.getD k 0]:=by
 have hd:=XW h;have hl:=VB t k aoz;unfold Qo;rw[ym h,hd,VJ];obtain⟨c,hc⟩:=ak7 (t.getD k 0);obtain⟨p,hp⟩:=ak7 (bR (t.take k));rw[hc];rw[hp]at hl⊢;have he:p=[]->x8 p=true:=λe=>by rw[e];rfl
 by_cases h32:c=32;subst h32;by_cases hn:GI (t.drop (k+1))=true;simp only[hn,bne_self_eq_false,amP,if_true,aD,true_and,amq,false_or];by_cases hp0:p=[];simp[hp0,x8];simp[hp0,hl hp0];have hn':GI (t.drop (k+1))=false:=by simpa using hn
 simp only[hn',bne_self_eq_false,amP,alx,if_false,true_or,if_true];unfold aD;split;rfl;rename_i e;rw[gg,if_pos rfl];unfold du;rw[if_neg];intro e2;exact e ⟨rfl,by simp[x8,e2]⟩;have hb:(c != 32)=true:=by simpa using h32
 simp only[hb,anv,if_true,h32,false_and,or_false,amq,if_false];have:aD p c=p++[c]:=by rw[aD,if_neg λe=>h32 e.1]
 rw[this,gg,if_neg h32];split<;>rfl
theorem adg(t:List UInt8):Qo t 0=[]:=by unfold Qo;split<;>simp[bR,du]
theorem afe(t:List UInt8):Qo t t.length=du (bR t):=by simp[Qo,GI]
theorem afd(t:List UInt8)(k:Nat):(Qo t k).length<=k:=by have:=rk t k;unfold Qo;split;exact this;unfold du;split;simp;omega;exact this
theorem yj{s:List UInt8}(hs:(s.length:Int)<=100000)(h:K (.str (bL s)) L):alb 90 [.str s] L K:=by
 replace h:=hid h;refine ac UA (by simp[yP]) ?_;simp only[yP,am];obtain⟨t,ht⟩:=ak7 (af s);have htl:(t.length:Int)<=100000:=by rw[<- ht];simpa[af]using hs
 have hfin:=hid (show Qo t t.length=bL s by rw[afe,bL,ht]);have kk1:=@aoG _ _ _ _ (oe hs);refine wk ?_;refine bt (l:=[]) (n:=0) 4 1 rfl (alG 1).symm ?_;refine ah (λn T' L'=>∃(k:Nat) (b:List UInt8) (v:List AV) (m:Nat),n=t.length-k/\k<=t.length/\b=Qo t k/\v=u8s b/\m=b.length/\T'=[(5,.int .i64 (k:Int)),(4,.gsl v m L.length 1),(3,.str t),(2,.str [])]/\L'=L++[.spare m 1]) aoD ⟨0,[],[],0,rfl,ali _,(adg t).symm,rfl,rfl,rfl,rfl⟩ ?_;rintro _ _ _ ⟨k,b,v,m,rfl,hk,hb,rfl,rfl,rfl,rfl⟩;replace hb:=hid hb;by_cases hlt:k<t.length
 .have h1:(k:Int)<(t.length:Int):=aoz;have h2:=ak9 k aoz;refine wk ?_;have hbl:b.length<=k:=(by rw[hb.o];exact afd t k);have hub:(u8s b).length=b.length:=(by simp[u8s]);have hsucc:=hid (adh hlt);refine ah (λn T' L'=>∃(j:Nat) (later:Bool),n=t.length-j/\j<=t.length/\(later=true->GI (t.drop k)=true)/\(later=false->GI (t.drop k)=GI (t.drop j))/\T'=[(7,.int .i64 (j:Int)),(6,.bool later),(5,.int .i64 (k:Int)),(4,.gsl (u8s b) b.length L.length 1),(3,.str t),(2,.str [])]/\L'=L++[.spare b.length 1]) aoD ⟨k,false,rfl,aoz,aoA,aoA,rfl,rfl⟩ ?_;rintro _ _ _ ⟨j,later,rfl,hj,hla,hlb,rfl,rfl⟩;replace hla:=hid hla;replace hlb:=hid hlb;obtain⟨c,hc⟩:=ak7 (t.getD k 0);rw[hc]at hsucc;have hc':((t[k]?.getD 0))=c:=(by rw[<- hc,alD]);cases later;by_cases hjl:j<t.length;have g1:(j:Int)<(t.length:Int):=aoz;have g2:=ak9 j aoz;have hd:=hid (XW hjl);obtain⟨x,hx⟩:=ak7 (t.getD j 0);rw[hx]at hd;refine wk ?_;have hx32:(x != 32) = !decide ((x.toNat:Int)=32):=by have:(x.toNat:Int)=32↔x=32:=⟨λh=>am2.1 (by have:(32:UInt8).toNat=32:=rfl;omega),λh=>by rw[h];rfl⟩;by_cases h:x=32<;>simp[h,this]
  have hnb:=hlb.o rfl;rw[hd.o,VJ,hx32]at hnb;refine aoE aoz aoC ⟨j+1, !decide ((x.toNat:Int)=32),rfl,hjl,λe=>by rw[hnb,e];rfl,λe=>by rw[hnb,e];rfl,rfl,rfl⟩;have g1:¬(j:Int)<(t.length:Int):=aoz;have hn:GI (t.drop k)=false:=(by rw[hlb.o rfl,amU aoz];rfl);replace hsucc:=hid (show Qo t (k+1)=b by rw[hsucc.o,if_pos (.inl hn),hb.o]);refine wk ?_;exact aoE aoz aoC ⟨k+1,b,_,b.length,rfl,hlt,hsucc.o.symm,rfl,rfl,rfl,rfl⟩
  .have hn:GI (t.drop k)=true:=hla.o rfl;have hs2:=hsucc.o;rw[hn]at hs2;simp only[amq,false_or,<- hb.o]at hs2;replace hs2:=hid hs2;have g6:b.length≠0->(1:Int)<=(k:Int):=λh=>aoz
   replace g6:=hid g6;have g7:=hid λh:1<=k=>show IntKind.i64.wrap ((k:Int)-1)=(k:Int)-1 from ab aoz aoz
   have u32:∀x:UInt8,(x.toNat:Int)=32↔x=32:=λx=>⟨λh=>am2.1 (by have:(32:UInt8).toNat=32:=rfl;omega),λh=>by rw[h];rfl⟩
   replace u32:=hid u32
   repeat' first
    |refine bu ?_
    | (first|refine bj aoB ?_|refine aJ aoB ?_|refine aM ?_|refine cN ?_|refine bE (fun _=>?_)|refine aC ?_|refine bo ?_)
      refine sm ?_
    | (first|refine a8 aoB ?_|refine ba ?_|refine aL ?_|refine bm ?_|refine bJ (aB ?_))
      refine sl ?_
    |exact bF
    |first|apply bG|apply be|apply bH|apply bf|apply bI|apply bg
    |refine aP ?_
    |refine aK ?_
    |first|refine aN rfl ?_|refine aO rfl ?_|refine ax rfl ?_ ?_|refine aT rfl (λ_=>?_) (λ_=>?_)|refine aS rfl (λ_=>?_) (λ_=>?_)
    |((first|refine au (λ_=>?_) (λ_=>?_)|refine aA (λ_=>?_) (λ_=>?_))<;>try refine sm ?_)
    |refine And.intro trivial ?_
    |refine And.intro aoz ?_
    |refine aY rfl (λ_=>?_) (λ_=>?_)
    |refine And.intro ?_ ?_
   rename_i hz;rw[g7.o aoz];omega;rename_i hz;rw[g7.o aoz];omega;rename_i hq;have hcond:c=32/\(b=[]\/t.getD (k-1) 0=32):=by refine⟨(u32.o c).1 hq.1,?_⟩;rcases hq.2 with e|e;exact .inl (alS.1 aoz);by_cases hb0:b=[];exact .inl hb0;have hk1:1<=k:=(by have:=amv.2 hb0;omega);rw[g7.o hk1,show((k:Int)-1).toNat=k-1 by omega]at e;exact .inr ((u32.o _).1 e)
   exact aoE aoz aoC ⟨k+1,b,_,b.length,rfl,hlt,by rw[hs2.o,if_pos hcond],rfl,rfl,rfl,rfl⟩;rename_i hq;have hcond:¬(c=32/\(b=[]\/t.getD (k-1) 0=32)):=λ⟨e1,e2⟩=>hq (by refine⟨(u32.o c).2 e1,?_⟩;by_cases hb0:b=[];exact .inl (by rw[hb0];rfl);have hk1:1<=k:=(by have:=amv.2 hb0;omega);rcases e2 with e|e;exact absurd e hb0;refine .inr ?_;rw[g7.o hk1,show((k:Int)-1).toNat=k-1 by omega];exact(u32.o _).2 e)
   rw[show u8s b++[AV.int IntKind.u8 (c.toNat:Int)]=u8s (b++[c])by simp[u8s]];exact aoE aoz aoC ⟨k+1,b++[c],_,b.length+1,rfl,hlt,by rw[hs2.o,if_neg hcond],rfl,aoA,rfl,rfl⟩
 have hke:k=t.length:=aoz;subst hke;have h1:¬(t.length:Int)<(t.length:Int):=aoz;have e1:=jA b;have e2:=gM b;have e3:=hid (show b=bL s by rw[hb.o,hfin.o]);refine wk ?_;refine ae rfl ?_;rw[e3.o];exact h.o
end Go.Proofs.YtcmfcpjnhephaaaGreatDoor.Av
set_option maxRecDepth 100000
namespace Go.Proofs.YtcmfcpjnhephaaaGreatDoor.Av
open Go
variable {s b:List UInt8}{a c:UInt8}
def Jf:LSO:=[Ag 2]
def Je:LSO:=[Aa 6 0,Am 7 39 6,Aa 3 7]
def Jd:LSO:=[Aa 8 3,Ax 9 8,Bg 10 9 1,Aa 11 10,.grp none 11 true
 [Ae 12 11 3,BP 13 11 12,Cp 14 11 13 32]
 15 (tm 14),Aa 4 15]
def Jc:LSO:=[Ad 5 0]
def Jb:LSO:=[Aa 16 5,Aa 17 3,Ax 18 17,Al 19 16 18,Aa 20 19,.grp none 20 true
 [Ae 21 20 4]
 22 (tm 21)]
def Ja:LSO:=[Aa 25 3,Aa 26 5,AB 27 25 26,
 o1 28 (.call 170 [(tm 27),(.av (.str [97,98,99,100,101,102,103,104,105,106,107,108,109,110,111,112,113,114,115,116,117,118,119,120,121,122]))]),Aa 29 28,.grp none 29 false
 [Aj 30 29 5,A9 31 29 30 0,Aj 32 29 31,.grp (some (29,false)) 32 true
 [Ae 33 32 3,Ae 34 32 5,AT 35 32 33 34,og 36 32 true (.call 170 [(tm 35),(.av (.str [48,49,50,51,52,53,54,55,56,57,45]))])]
 37 (tm 36)]
 38 (tm 37),Aa 4 38]
def I9:LSO:=[Aa 23 5,Af 24 23 1,Aa 5 24]
def I8:LSO:=[Aa 39 4,Aa 2 39]
def yN:aG:=⟨40,(aos Jf [] (aos Je Cv (aos Jd Cy (.seq (aos Jc [] (aov 0 (.seq (aos Jb Cy (aow 22 0)) (.seq (.block 1 (.sreg Ja C0)) (.sreg I9 Cv))))) (aos I8 Cu .ret))))),[(.tmp 2)]⟩
attribute [push_cast] Jf Je Jd Jc Jb Ja I9 I8
theorem Uy:aox 134=aoy yN:=aoB
def QV:LSO:=[Ag 4]
def QU:LSO:=[Ad 5 0]
def QT:LSO:=[Aa 6 5,Aa 7 1,Ax 8 7,Al 9 6 8]
def QS:LSO:=[Aa 12 1,Aa 13 5,AB 14 12 13,Aa 15 0,AC 16 14 15]
def QR:LSO:=[Az 4]
def QQ:LSO:=[Aa 10 5,Af 11 10 1,Aa 5 11]
def QP:LSO:=[Ag 4]
def P2:aG:=⟨17,(aos QV [] (.seq (aos QU [] (aov 0 (.seq (aos QT Cw (aow 9 0)) (.seq (.block 1 (aos QS Cx (aou 16 (.sreg QR [])))) (.sreg QQ Cv))))) (aos QP [] .ret))),[(.tmp 4)]⟩
attribute [push_cast] QV QU QT QS QR QQ QP
theorem WX:aox 170=aoy P2:=aoB
def NU:LSO:=[Ag 4]
def NT:LSO:=[Aa 7 0,Ak 8 7,Ad 9 0]
def NR:LSO:=[Al 10 9 8]
def NQ:LSO:=[An 11 2 7 9,Ap 12 2 11,Bh 6,Ai 2 6 12]
def NP:LSO:=[Ac 13 0 6,Ab 14 1 13,Am 15 39 14,Aa 16 1,Am 17 39 16,AC 18 15 17]
def NO:LSO:=[Az 4]
def NN:LSO:=[Af 19 9 1,Aa 9 19]
def NM:LSO:=[Ag 4]
def LF:aG:=⟨20,(aos NU [] (.seq (aos NT [] (aov 0 (aos NR [] (.seq (aow 10 0) (.seq (.block 1 (aos NQ Cv (aos NP Cy (aou 18 (.sreg NO []))))) (.sreg NN Cu)))))) (aos NM [] .ret))),[(.tmp 4)]⟩
attribute [push_cast] NU NT NR NQ NP NO NN NM
theorem Wh:aox 165=aoy LF:=aoB
def EP:LSO:=[Ah 2,Ad 3 0]
def EO:LSO:=[Aa 12 0,Ax 13 12,A3 14 13 4096]
def EN:LSO:=[Ah 2,Ad 3 5]
def EM:LSO:=[Ah 4]
def EL:LSO:=[Ad 5 0]
def EK:LSO:=[Aa 15 0,Ax 16 15,A3 17 16 0]
def EJ:LSO:=[Ah 6]
def EI:LSO:=[Aa 18 4,Ak 19 18,Ao 20 19 32]
def EH:LSO:=[Ah 2,Ad 3 9]
def EG:LSO:=[Aa 21 6,Ak 22 21,Ao 23 22 8]
def xo:LSO:=[Ah 2,Ad 3 9]
def xm:LSO:=[Aa 24 5,Aa 7 24]
def xl:LSO:=[Aa 25 7,Aa 26 0,Ax 27 26,Al 28 25 27,Aa 29 28,.grp none 29 true
 [Ae 30 29 0,Ae 31 29 7,AT 32 29 30 31,og 33 29 true (.bin .neq (tm 32) (.av (.int .u8 61)))]
 34 (tm 33)]
def xk:LSO:=[Aa 35 7,Af 36 35 1,Aa 7 36]
def xj:LSO:=[Aa 37 7,Aa 38 0,Ax 39 38,AC 40 37 39,Aa 41 40,.grp none 41 false
 [Aj 42 41 0,Aj 43 41 5,Aj 44 41 7,og 45 41 false (.slS (tm 42) (some (tm 43)) (some (tm 44))),Ba 46 41 134 45,Bl 47 41 46]
 48 (tm 47)]
def xi:LSO:=[Ah 2,Ad 3 4]
def xh:LSO:=[Aa 49 0,Aa 50 5,Aa 51 7,Bm 52 49 50 51,o1 53 (.build [(.str []),(.str [])] [(0,(1,(tm 52)))]),Bh 8,Ai 2 8 53]
def xg:LSO:=[Aa 54 6,Ac 55 0 8,Ab 56 1 55,Aq 57 165 54 56]
def xf:LSO:=[Ah 2,Ad 3 21]
def xe:LSO:=[Aa 59 0,Aa 60 7,Af 61 60 1,Aq 62 166 59 61,Aa 58 62,As 63 58,Aw 64 58,Bt 65 58,Aa 9 63,Aa 10 64,Aa 11 65]
def xd:LSO:=[Aa 66 11,Ay 67 66]
def xc:LSO:=[Ah 2,Ad 3 4]
def xa:LSO:=[Aa 68 9,Ac 69 1 8,Ai 1 69 68]
def w9:LSO:=[Aa 70 6,Ap 71 2 8,Ci 72 71,BE 73 70 72,Aa 6 73]
def w8:LSO:=[Aa 74 10,Aa 5 74]
def w7:LSO:=[Aa 75 5,Aa 76 0,Ax 77 76,AC 78 75 77,Aa 79 78,.grp none 79 false
 [Aj 80 79 0,Aj 81 79 5,Bu 82 79 80 81,og 83 79 false (.bin .eql (tm 82) (.av (.int .u8 44)))]
 84 (tm 83)]
def wZ:LSO:=[Aa 85 5,Af 86 85 1,Aa 5 86]
def wY:LSO:=[Aa 87 4,Aa 88 6,Bx 89 88,By 90 87 89,Aa 4 90]
def wX:LSO:=[Aa 91 5,Aa 92 0,Ax 93 92,AC 94 91 93]
def wW:LSO:=[Aa 95 4,Aa 2 95,Ad 3 0]
def wV:LSO:=[Aa 96 5,Af 97 96 1,Aa 5 97]
def wU:LSO:=[Ah 2,Ad 3 0]
def tE:aG:=⟨98,(aos EP [] (.seq (aos EO Cv (aou 14 (.sreg EN []))) (aos EM [] (aos EL [] (.seq (aov 0 (.seq (aos EK Cv (aow 17 0)) (.block 1 (aos EJ [] (.seq (aos EI Cv (aou 20 (.sreg EH []))) (.seq (aov 2 (.block 3 (.seq (aos EG Cv (aou 23 (.sreg xo []))) (aos xm Cu (.seq (aov 4 (.seq (aos xl Cy (aow 34 4)) (.block 5 (.sreg xk Cv)))) (.seq (aos xj Cy (aou 48 (.sreg xi []))) (aos xh Cy (.seq (aos xg Cw (aou 57 (.sreg xf []))) (aos xe [true,true,true,false,false,false,false,false,false,false,false] (.seq (aos xd Cu (aou 67 (.sreg xc []))) (aos xa C3 (aos w9 Cx (aos w8 Cu (.seq (aos w7 Cy (aot 84 (.exit 2) .skip)) (.sreg wZ Cv))))))))))))))) (aos wY Cx (.seq (aos wX Cw (aou 94 (.sreg wW Cz))) (.sreg wV Cv))))))))) (aos wU [] .ret)))))),[(.tmp 2),(.tmp 3)]⟩
attribute [push_cast] EP EO EN EM EL EK EJ EI EH EG xo xm xl xk xj xi xh xg xf xe xd xc xa w9 w8 w7 wZ wY wX wW wV wU
theorem Td:aox 131=aoy tE:=aoB
def Ee:LSO:=[Au 4,Ad 5 0,Ag 6]
def Ed:LSO:=[Ah 7]
def Ec:LSO:=[Az 8]
def Eb:LSO:=[Aa 13 1,Aa 14 0,Ax 15 14,Al 16 13 15,Aa 17 16,.grp none 17 true
 [Ae 18 17 0,Ae 19 17 1,AT 20 17 18 19,og 21 17 true (.bin .neq (tm 20) (.av (.int .u8 44)))]
 22 (tm 21),Aa 23 22,.grp none 23 true
 [Ae 24 23 0,Ae 25 23 1,AT 26 23 24 25,og 27 23 true (.bin .neq (tm 26) (.av (.int .u8 43)))]
 28 (tm 27)]
def Ea:LSO:=[Aa 29 0,Aa 30 1,AB 31 29 30,Aa 9 31]
def D9:LSO:=[Aa 32 1,Af 33 32 1,Aa 1 33]
def D8:LSO:=[Aa 34 1,Aa 35 0,Ax 36 35,AC 37 34 36,Aa 38 37,.grp none 38 false
 [Aj 39 38 0,Aj 40 38 1,Bu 41 38 39 40,og 42 38 false (.bin .eql (tm 41) (.av (.int .u8 44)))]
 43 (tm 42),Aa 44 43,.grp none 44 false
 [Aj 45 44 0,Aj 46 44 1,Bu 47 44 45 46,og 48 44 false (.bin .eql (tm 47) (.av (.int .u8 43)))]
 49 (tm 48),Aa 10 49]
def D7:LSO:=[Aa 50 9,o1 51 (.bin .eql (tm 50) (.av (.int .u8 92)))]
def D6:LSO:=[Aa 52 1,Aa 53 0,Ax 54 53,Al 55 52 54,Aa 56 55,.grp none 56 true
 [Ae 57 56 0,Ae 58 56 1,AT 59 56 57 58,og 60 56 true (.call 170 [(tm 59),(.av (.str [34,43,44,59,60,62,92,32,35,61]))])]
 61 (tm 60)]
def D5:LSO:=[Aa 62 7,Aa 63 0,Aa 64 1,AB 65 63 64,AM 66 65,AH 67 62 66,Aa 7 67]
def wo:LSO:=[Aa 68 1,Af 69 68 1,Aa 1 69]
def wn:LSO:=[Aa 70 1,Af 71 70 2,Aa 72 0,Ax 73 72,o1 74 (.bin .gtr (tm 71) (tm 73))]
def wm:LSO:=[Au 4,Ad 5 0,Ag 6]
def wl:LSO:=[Aa 76 0,Aa 77 1,Aa 78 1,Af 79 78 2,Bm 80 76 77 79,Am 81 189 80,Aa 75 81,As 82 75,Aw 83 75,Aa 11 82,Aa 12 83]
def wj:LSO:=[Aa 84 12,Ay 85 84]
def wi:LSO:=[Au 4,Ad 5 0,Ag 6]
def wh:LSO:=[Aa 86 7,Aa 87 11,BA 88 87 0,AM 89 88,AH 90 86 89,Aa 7 90]
def wg:LSO:=[Aa 91 1,Af 92 91 2,Aa 1 92]
def wc:LSO:=[Aa 93 9,BD 94 93,Aa 95 94,.grp none 95 false
 [Aj 96 95 9,og 97 95 false (.call 170 [(tm 96),(.av (.str [34,59,60,62]))])]
 98 (tm 97),Aa 99 98,.grp none 99 false
 [Aj 100 99 8,Aj 101 99 100,.grp (some (99,false)) 101 true
 [Ae 102 101 9,og 103 101 true (.call 170 [(tm 102),(.av (.str [32,35]))])]
 104 (tm 103)]
 105 (tm 104),Aa 106 105,.grp none 106 false
 [Aj 107 106 10,Aj 108 106 107,.grp (some (106,false)) 108 true
 [Ae 109 108 9,Bw 110 108 109]
 111 (tm 110)]
 112 (tm 111)]
def wb:LSO:=[Au 4,Ad 5 0,Ag 6]
def wa:LSO:=[Aa 113 7,Aa 114 9,AM 115 114,AH 116 113 115,Aa 7 116]
def v8:LSO:=[Ag 8]
def v7:LSO:=[Aa 117 7,AO 118 117,Aa 119 1,Aa 4 118,Aa 5 119,Az 6]
def tB:aG:=⟨120,(aos Ee [] (aos Ed [] (aos Ec [] (.seq (aov 0 (.seq (aos Eb C2 (aow 28 0)) (.block 1 (aos Ea Cw (aos D9 Cv (aos D8 CG (.seq (aos D7 Cu (aot 51 (aos D6 Cy (aot 61 (aos D5 C0 (.sreg wo Cv)) (.seq (aos wn Cx (aou 74 (.sreg wm []))) (aos wl CR (.seq (aos wj Cu (aou 85 (.sreg wi []))) (aos wh Cy (.sreg wg Cv))))))) (.seq (aos wc C2 (aou 112 (.sreg wb []))) (.sreg wa Cx)))) (.sreg v8 [])))))))) (aos v7 CL .ret))))),[(.tmp 4),(.tmp 5),(.tmp 6)]⟩
attribute [push_cast] Ee Ed Ec Eb Ea D9 D8 D7 D6 D5 wo wn wm wl wj wi wh wg wc wb wa v8 v7
theorem S9:aox 166=aoy tB:=aoB
def sV:LSO:=[Au 2]
def sU:LSO:=[Ah 3]
def sT:LSO:=[Ad 4 0]
def sS:LSO:=[Aa 6 4,Aa 7 0,Ax 8 7,Al 9 6 8]
def sR:LSO:=[Aa 12 0,Aa 13 4,AB 14 12 13,Aa 5 14]
def sQ:LSO:=[Aa 15 5,BD 16 15]
def sP:LSO:=[Aa 17 3,o1 18 (.app 1 1 1 [(.int .u8 0)] (tm 17) (.av (.str [92,48,48]))),Aa 3 18]
def sO:LSO:=[Aa 19 5,o1 20 (.call 170 [(tm 19),(.av (.str [34,43,44,59,60,62,92]))]),Aa 21 20,.grp none 21 false
 [Aj 22 21 4,AJ 23 21 22 0,Aj 24 21 23,.grp (some (21,false)) 24 true
 [Ae 25 24 5,og 26 24 true (.call 170 [(tm 25),(.av (.str [32,35]))])]
 27 (tm 26)]
 28 (tm 27),Aa 29 28,.grp none 29 false
 [Aj 30 29 4,og 31 29 false (.bin .add (tm 30) (iv 1)),Aj 32 29 0,Bv 33 29 32,og 34 29 false (.bin .eql (tm 31) (tm 33)),Aj 35 29 34,.grp (some (29,false)) 35 true
 [Ae 36 35 5,Bw 37 35 36]
 38 (tm 37)]
 39 (tm 38)]
def sN:LSO:=[Aa 40 3,o1 41 (.bslice false 1 1 [(.int .u8 0)] [(0,(1,(.av (.int .u8 92))))]),AH 42 40 41,Aa 3 42]
def sM:LSO:=[Aa 43 3,Aa 44 5,AM 45 44,AH 46 43 45,Aa 3 46]
def rK:LSO:=[Aa 10 4,Af 11 10 1,Aa 4 11]
def rJ:LSO:=[Aa 47 3,AO 48 47,Aa 2 48]
def qf:aG:=⟨49,(aos sV [] (aos sU [] (.seq (aos sT [] (aov 0 (.seq (aos sS Cw (aow 9 0)) (.seq (.block 1 (aos sR Cw (.seq (aos sQ Cu (aot 16 (aos sP Cv (.exit 1)) .skip)) (.seq (aos sO Cy (aot 39 (.sreg sN Cw) .skip)) (.sreg sM Cx))))) (.sreg rK Cv))))) (aos rJ Cv .ret)))),[(.tmp 2)]⟩
attribute [push_cast] sV sU sT sS sR sQ sP sO sN sM rK rJ
theorem P1:aox 197=aoy qf:=aoB
def I7:LSO:=[Au 2]
def I6:LSO:=[Au 3]
def I5:LSO:=[Aa 8 0,Ak 9 8,Ad 10 0]
def I4:LSO:=[Al 11 10 9]
def I3:LSO:=[Aa 12 10,An 13 1 8 10,Ab 14 1 13,Aa 4 12,Aa 5 14]
def I2:LSO:=[Aa 15 4,A3 16 15 0]
def I1:LSO:=[Aa 17 3,o1 18 (.bin .add (tm 17) (.av (.str [44]))),Aa 3 18]
def I0:LSO:=[Aa 19 5,Ak 20 19,Ad 21 0]
def IZ:LSO:=[Al 22 21 20]
def IY:LSO:=[Aa 23 21,An 24 2 19 21,Ap 25 2 24,Bh 7,Aa 6 23,Ai 2 7 25]
def Ek:LSO:=[Aa 26 6,A3 27 26 0]
def Ej:LSO:=[Aa 28 3,o1 29 (.bin .add (tm 28) (.av (.str [43]))),Aa 3 29]
def Ei:LSO:=[Aa 30 3,Ac 31 0 7,Ab 32 1 31,AY 33 30 32,o1 34 (.bin .add (tm 33) (.av (.str [61]))),Ac 35 1 7,Ab 36 1 35,Am 37 197 36,AY 38 34 37,Aa 3 38]
def Eh:LSO:=[Af 39 21 1,Aa 21 39]
def Eg:LSO:=[Af 40 10 1,Aa 10 40]
def Ef:LSO:=[Aa 41 3,Aa 2 41]
def yM:aG:=⟨42,(aos I7 [] (aos I6 [] (.seq (aos I5 [] (aov 0 (aos I4 [] (.seq (aow 11 0) (.seq (.block 1 (aos I3 C4 (.seq (aos I2 Cu (aot 16 (.sreg I1 Cv) .skip)) (aos I0 [] (aov 2 (aos IZ [] (.seq (aow 22 2) (.seq (.block 3 (aos IY C4 (.seq (aos Ek Cu (aot 27 (.sreg Ej Cv) .skip)) (.sdreg Ei [.pure,.pure,(.read 0 0),.pure,.pure,.pure,(.read 0 0),(.read 0 0)] CI)))) (.sreg Eh Cu))))))))) (.sreg Eg Cu)))))) (aos Ef Cu .ret)))),[(.tmp 2)]⟩
attribute [push_cast] I7 I6 I5 I4 I3 I2 I1 I0 IZ IY Ek Ej Ei Eh Eg Ef
theorem Ux:aox 168=aoy yM:=aoB
def EF:LSO:=[Au 2,Ad 3 0]
def EE:LSO:=[Ad 4 0]
def ED:LSO:=[Aa 9 0,Ak 10 9,Ad 11 0]
def EC:LSO:=[Al 12 11 10]
def EB:LSO:=[Aa 13 11,An 14 1 9 11,Ab 15 1 14,Aa 5 13,Aa 6 15]
def EA:LSO:=[Aa 16 5,Ao 17 16 32]
def Ez:LSO:=[Au 2,Ad 3 9]
def Ey:LSO:=[Aa 18 6,Ak 19 18,Ao 20 19 0]
def Ex:LSO:=[Au 2,Ad 3 2]
def Ew:LSO:=[Aa 21 6,Ak 22 21,Ad 23 0]
def wT:LSO:=[Al 24 23 22]
def wS:LSO:=[Aa 25 23,An 26 2 21 23,Ap 27 2 26,Bh 8,Aa 7 25,Ai 2 8 27]
def wR:LSO:=[Aa 28 7,Ao 29 28 8]
def wQ:LSO:=[Au 2,Ad 3 9]
def wP:LSO:=[Ac 30 0 8,Ab 31 1 30,Am 32 134 31,Ay 33 32]
def wO:LSO:=[Au 2,Ad 3 20]
def wN:LSO:=[Aa 34 6,Aa 35 7,Ck 36 34 35,Ac 37 0 8,Ab 38 1 37,Aq 39 165 36 38]
def wM:LSO:=[Au 2,Ad 3 21]
def wL:LSO:=[Aa 40 4,Ac 41 1 8,Ab 42 1 41,Ax 43 42,o1 44 (.minmax false [(tm 43),(iv 5000)]),AY 45 40 44,Aa 4 45]
def wK:LSO:=[Af 46 23 1,Aa 23 46]
def wJ:LSO:=[Af 47 11 1,Aa 11 47]
def wI:LSO:=[Aa 48 4,A3 49 48 4096,Aa 50 49,.grp none 50 false
 [Aj 51 50 0,Ba 52 50 168 51,Bv 53 50 52,A9 54 50 53 4096]
 55 (tm 54)]
def wH:LSO:=[Au 2,Ad 3 5]
def wG:LSO:=[Aa 56 0,Am 57 168 56,Aa 2 57,Ad 3 0]
def tD:aG:=⟨58,(aos EF [] (aos EE [] (.seq (aos ED [] (aov 0 (aos EC [] (.seq (aow 12 0) (.seq (.block 1 (aos EB C4 (.seq (aos EA Cu (aou 17 (.sreg Ez []))) (.seq (aos Ey Cv (aou 20 (.sreg Ex []))) (aos Ew [] (aov 2 (aos wT [] (.seq (aow 24 2) (.seq (.block 3 (aos wS C4 (.seq (aos wR Cu (aou 29 (.sreg wQ []))) (.seq (aos wP Cw (aou 33 (.sreg wO []))) (.seq (.seq (.sdreg wN [.pure,.pure,(.read 0 0),.pure,(.read 0 0)] Cy) (aou 39 (.sreg wM []))) (.sreg wL C0)))))) (.sreg wK Cu)))))))))) (.sreg wJ Cu)))))) (.seq (aos wI Cw (aou 55 (.sreg wH []))) (aos wG CB .ret))))),[(.tmp 2),(.tmp 3)]⟩
attribute [push_cast] EF EE ED EC EB EA Ez Ey Ex Ew wT wS wR wQ wP wO wN wM wL wK wJ wI wH wG
theorem Tc:aox 167=aoy tD:=aoB
def Ev:LSO:=[Ah 2]
def Eu:LSO:=[Ah 3]
def Et:LSO:=[Aa 12 0,Ak 13 12,Ad 14 0]
def Es:LSO:=[Al 15 14 13]
def Er:LSO:=[An 16 1 12 14,Ab 17 1 16,Aa 5 17]
def Ep:LSO:=[Ah 6]
def Eo:LSO:=[Aa 18 5,Ak 19 18,Ad 20 0]
def En:LSO:=[Al 21 20 19]
def Em:LSO:=[An 22 2 18 20,Ap 23 2 22,Bh 8,Ai 2 8 23]
def El:List (aj×Kd):=
 [A7 24 0 8,A0 25 1 24 0 1,Bb 26 39 25 0 1,A7 27 1 8,A0 28 1 27 0 1,Bb 29 90 28 0 1,od 30 (.build [(.str []),(.str [])] [(0,(1,(tm 26))),(1,(1,(tm 29)))]) .pure,
 od 9 (.alloc [(.str []),(.str [])]) .eff]
def wp:List aj :=
 [⟨none,(.store 2 (tm 9) (tm 30)),none⟩]
def wF:LSO:=[Aa 31 6,Ak 32 31,Aa 10 32]
def wD:LSO:=[Aa 33 10,A3 34 33 0,Aa 35 34,.grp none 35 true
 [Ae 36 35 6,Ae 37 35 10,BQ 38 35 37 1,B8 39 35 2 36 38,A6 40 35 0 39,A5 41 35 1 40,og 42 35 true (.bin .add (tm 41) (.av (.str [61]))),Ae 43 35 6,Ae 44 35 10,BQ 45 35 44 1,
 B8 46 35 2 43 45,A6 47 35 1 46,A5 48 35 1 47,AL 49 35 197 48,og 50 35 true (.bin .add (tm 42) (tm 49)),A6 51 35 0 9,A5 52 35 1 51,
 og 53 35 true (.bin .add (tm 52) (.av (.str [61]))),A6 54 35 1 9,A5 55 35 1 54,AL 56 35 197 55,og 57 35 true (.bin .add (tm 53) (tm 56)),
 og 58 35 true (.bin .gtr (tm 50) (tm 57))]
 59 (tm 58)]
def wC:LSO:=[Aa 60 10,Bk 61 60 1,Aa 10 61]
def wB:LSO:=[Ah 11]
def wA:LSO:=[Aa 62 11,Aa 63 6,Aa 64 10,Ck 65 63 64,BE 66 62 65,Aa 11 66]
def wz:LSO:=[Aa 67 11,Ap 68 2 9,Ci 69 68,BE 70 67 69,Aa 11 70]
def wy:LSO:=[Aa 71 11,Aa 72 6,Aa 73 10,o1 74 (.slV 2 (tm 72) (some (tm 73)) none none),BE 75 71 74,Aa 11 75]
def ww:LSO:=[Aa 76 11,Aa 6 76]
def wu:LSO:=[Af 77 20 1,Aa 20 77]
def wt:LSO:=[Aa 78 3,Aa 79 6,Bx 80 79,By 81 78 80,Aa 3 81]
def wr:LSO:=[Af 82 14 1,Aa 14 82]
def wq:LSO:=[Aa 83 3,Aa 2 83]
def tC:aG:=⟨84,(aos Ev [] (aos Eu [] (.seq (aos Et [] (aov 0 (aos Es [] (.seq (aow 15 0) (.seq (.block 1 (aos Er Cv (aos Ep [] (.seq (aos Eo [] (aov 2 (aos En [] (.seq (aow 21 2) (.seq (.block 3 (aos Em Cv (.seq (.dregM El wp C2) (aos wF Cv (.seq (aov 4 (.seq (.seq (.sdreg wD [.pure,.pure,.pure,.pure,.pure,.pure,(.read 0 0),.pure,(.read 0 0),.pure,.pure,.pure,.pure,(.read 0 0),.pure,(.read 0 0),(.read 0 0),.pure,.pure,(.read 0 0),.pure,.pure,(.read 0 0),(.read 0 0),.pure] Cw) (aow 59 4)) (.block 5 (.sreg wC Cv)))) (aos wB [] (aos wA Cy (aos wz Cx (aos wy Cy (.sreg ww Cu)))))))))) (.sreg wu Cu)))))) (.sreg wt Cx))))) (.sreg wr Cu)))))) (aos wq Cu .ret)))),[(.tmp 2)]⟩
attribute [push_cast] Ev Eu Et Es Er Ep Eo En Em El wp wF wD wC wB wA wz wy ww wu wt wr wq
theorem Ta:aox 169=aoy tC:=aoB
def Jk:LSO:=[Au 2,Ad 3 0]
def Jj:LSO:=[Aa 7 0,Am 8 167 7,Aa 6 8,As 9 6,Aw 10 6,Aa 4 9,Aa 5 10]
def Ji:LSO:=[Aa 11 5,AE 12 11 0]
def Jh:LSO:=[Aa 13 5,Au 2,Aa 3 13]
def Jg:LSO:=[Aa 14 0,Am 15 169 14,Am 16 168 15,Aa 2 16,Ad 3 0]
def yO:aG:=⟨17,(aos Jk [] (aos Jj C0 (.seq (aos Ji Cu (aou 12 (.sreg Jh Cz))) (aos Jg C4 .ret)))),[(.tmp 2),(.tmp 3)]⟩
attribute [push_cast] Jk Jj Ji Jh Jg
theorem Uz:aox 132=aoy yO:=aoB
def NZ:LSO:=[Au 2,Ad 3 0]
def NY:LSO:=[Aa 7 0,Am 8 131 7,Aa 6 8,As 9 6,Aw 10 6,Aa 4 9,Aa 5 10]
def NX:LSO:=[Aa 11 5,AE 12 11 0]
def NW:LSO:=[Aa 13 5,Au 2,Aa 3 13]
def NV:LSO:=[Aa 14 4,Am 15 132 14,As 16 15,Aw 17 15,Aa 2 16,Aa 3 17]
def LG:aG:=⟨18,(aos NZ [] (aos NY CH (.seq (aos NX Cu (aou 12 (.sreg NW Cz))) (aos NV CO .ret)))),[(.tmp 2),(.tmp 3)]⟩
attribute [push_cast] NZ NY NX NW NV
theorem Wi:aox 92=aoy LG:=aoB
attribute [push_cast] yN P2 LF tB qf yM tD tC yO LG
variable {L:List Blk}{K:alc}
set_option maxHeartbeats 8000000
set_option maxRecDepth 100000
theorem oo{l:List UInt8}{x:UInt8}(hn:l.length<=1100000)(h:K (.bool (l.contains x)) L):
  alb 170 [.int .u8 x.toNat,.str l] L K:=by
 replace h:=hid h;refine ala WX ?_;refine ah (λn T' L'=>∃(i:Nat),n=l.length-i/\i<=l.length/\Hid (∀j,j<i->l.getD j 0≠x)/\T'=[(5,.int .i64 (i:Int)),(0,.int .u8 x.toNat),(1,.str l)]/\L=L') (CutS (b:=ale _)) ⟨0,rfl,ali _,hid aoA,rfl,rfl⟩ ?_;rintro _ _ _ ⟨i,rfl,hi,hno,rfl,rfl⟩;by_cases hlt:i<l.length;have h1:(i:Int)<(l.length:Int):=aoz;have h2:=ak9 i aoz;obtain⟨p,hp⟩:=ak7 (l.getD i 0);by_cases hpq:p=x;have hc:l.contains x=true:=by rw[alQ,<- hpq,<- hp,alD,alu hlt];exact al6 _
 have h':=h.o;rw[hc]at h';replace h':=hid h';clear hc;subst hpq;refine wk ?_;exact aa h'.o;have k1:¬(p.toNat:Int)=(x.toNat:Int):=λe=>hpq ((bv p x).1 e)
 have hp':=hid hp;refine wk ?_;refine aoE aoz (CutS (b:=ale _)) ⟨i+1,rfl,hlt,hid λj hj=>?_,rfl,rfl⟩;rcases alA j i with e|e;exact hno.o j e;have:j=i:=aoz;subst this;rw[hp];exact hpq;have hke:i=l.length:=aoz;subst hke;have h1:¬(l.length:Int)<(l.length:Int):=aoz;have hc:l.contains x=false:=by rw[<- amF,alQ];intro hm;obtain⟨j,hj,e⟩:=aml.1 hm;exact hno.o j hj (by simp[hj,e])
 have h':=h.o;rw[hc]at h';replace h':=hid h';clear hc;refine wk ?_;exact aa h'.o
abbrev pX:List UInt8:=[97,98,99,100,101,102,103,104,105,106,107,108,109,110,111,112,113,114,115,116,117,118,119,120,121,122]
abbrev XX:List UInt8:=[48,49,50,51,52,53,54,55,56,57,45]
theorem aie:∀n:_root_.Fin 256,pX.contains (dF (UInt8.ofNat n.val))=pZ (n.val:Int)/\(pX.contains (dF (UInt8.ofNat n.val)) ||XX.contains (dF (UInt8.ofNat n.val)))=Qg (n.val:Int):=by decide +kernel
theorem YC(c:UInt8):pX.contains (dF c)=pZ (c.toNat:Int)/\(pX.contains (dF c) ||XX.contains (dF c))=Qg (c.toNat:Int):=by have:=aie ⟨c.toNat,c.toNat_lt⟩;simpa using this
def okC(j:Nat)(c:UInt8):Bool:=pX.contains (dF c) ||(decide (0<j)&&XX.contains (dF c))
theorem aeM(s:List UInt8):eV s=true↔(1<=s.length/\s.length<=32)/\∀j,j<s.length->okC j (s.getD j 0)=true:=by
 simp only[eV,alk,decide_eq_true_eq,aln];constructor;rintro⟨⟨⟨h1,h2⟩,h3⟩,h4⟩;refine⟨⟨h1,h2⟩,λj hj=>?_⟩;obtain⟨e1,e2⟩:=YC (s.getD j 0);by_cases h0:j=0;subst h0;rw[okC,e1,h3];rfl;have hm:s.getD j 0∈s:=by simp[hj]
 have:=h4 _ hm;rw[<- e2]at this;rw[okC,show decide (0<j)=true by simp;omega,al0];exact this;rintro⟨⟨h1,h2⟩,h3⟩;refine⟨⟨⟨h1,h2⟩,?_⟩,λc hc=>?_⟩;have:=h3 0 aoz;rw[okC]at this;simp only[Nat.lt_irrefl,decide_false,amA,anu]at this;rw[<- (YC _).1];exact this;obtain⟨j,hj,rfl⟩:=aml.1 hc;have:=h3 j hj;have e:s.getD j 0=s[j]:=by simp[hj]
 rw[e,okC]at this;rw[<- (YC _).2];cases hl:pX.contains (dF s[j])with
 |true=>rfl
 | false =>
   rw[hl,amP,alk]at this;rw[this.2];rfl
theorem Zn(hs:(s.length:Int)<=140737488351232)(h:K (.bool (eV s)) L):alb 134 [.str s] L K:=by
 replace h:=hid h;obtain⟨t,ht⟩:=ak7 (af s);have htl:t.length=s.length:=by rw[<- ht];simp[af]
 have hg:∀j,j<s.length->t.getD j 0=dF (s.getD j 0):=λj hj=>by rw[<- ht];simp[af,hj]
 replace htl:=hid htl;replace hg:=hid hg;have hit:=hid (aeM s);refine ala Uy ?_;refine bQ hs ?_;rw[ht];refine aoH ?_;refine ah (λn T' L'=>∃(i:Nat) (b:Bool),n=s.length+1-i/\i<=s.length/\Hid (b=true↔(1<=s.length/\s.length<=32)/\∀j,j<i->okC j (s.getD j 0)=true)/\T'=[(5,.int .i64 (i:Int)),(4,.bool b),(3,.str t)]/\L=L') (CutS (b:=ale _)) ⟨0,_,rfl,ali _,hid (by have:=htl.o;simp;omega),rfl,rfl⟩ ?_;rintro _ _ _ ⟨i,b,rfl,hi,hb,rfl,rfl⟩;have htl':=htl.o;by_cases hlt:i<s.length
 .have g1:(i:Int)<(t.length:Int):=aoz;have g2:=ak9 i aoz;have g3:=hg.o i hlt;obtain⟨c,hc⟩:=ak7 (s.getD i 0);rw[hc]at g3;replace hc:=hid hc;clear htl';cases b with
  | false =>
    have hf:eV s=false:=by rw[<- amF,hit.o];intro⟨q1,q2⟩;have:=hb.o.2 ⟨q1,λj hj=>q2 j aoz⟩;cases this
    have h':=h.o;rw[hf]at h';replace h':=hid h';clear hf;refine wk ?_;exact aa h'.o
  | true =>
    have hnext:okC i c=true↔((1<=s.length/\s.length<=32)/\∀j,j<i+1->okC j (s.getD j 0)=true):=by
     have hb1:=hb.o.1 rfl;constructor
     .intro e;refine⟨hb1.1,λj hj=>?_⟩;rcases alA j i with q|q
      .exact hb1.2 j q
      .have:j=i:=aoz;subst this;rw[hc.o];exact e
     .rintro⟨_,e⟩;have:=e i aoz;rwa[hc.o]at this
    replace hnext:=hid hnext;have hok:okC i c=(pX.contains (dF c) ||(decide (0<i)&&XX.contains (dF c))):=rfl;replace hok:=hid hok;refine wk ?_;refine oo aoA ?_;cases hl:pX.contains (dF c)with
    | true =>
      have hk:=hid (show okC i c=true by rw[hok.o,hl];rfl);refine aoH ?_;exact aoE aoz (CutL (b:=ale _)) ⟨i+1,true,rfl,hlt,hid (by rw[<- hnext.o,hk.o]),rfl,rfl⟩
    | false =>
      by_cases h0:i=0
      .have hk:=hid (show okC i c=false by rw[hok.o,hl,h0];rfl);have k0:¬(0:Int)<(i:Int):=aoz;clear h0;refine aoH ?_;exact aoE aoz (CutL (b:=ale _)) ⟨i+1,false,rfl,hlt,hid (by rw[<- hnext.o,hk.o]),rfl,rfl⟩
      .have hk:=hid (show okC i c=XX.contains (dF c)by rw[hok.o,hl,show decide (0<i)=true by simp;omega];simp);have k0:(0:Int)<(i:Int):=aoz;clear h0;refine sk ?_
       repeat' first
        |refine bu ?_
        | (first|refine bj aoB ?_|refine aJ aoB ?_|refine aM ?_|refine cN ?_|refine bE (fun _=>?_)|refine aC ?_|refine bo ?_)
          refine sm ?_
        | (first|refine a8 aoB ?_|refine ba ?_|refine aL ?_|refine bm ?_|refine bJ (aB ?_))
          refine sl ?_
        |exact bF
        |first|apply bG|apply be|apply bH|apply bf|apply bI|apply bg
        |refine aP ?_
        |refine aK ?_
        |first|refine aN rfl ?_|refine aO rfl ?_|refine ax rfl ?_ ?_|refine aT rfl (λ_=>?_) (λ_=>?_)|refine aS rfl (λ_=>?_) (λ_=>?_)
        |((first|refine au (λ_=>?_) (λ_=>?_)|refine aA (λ_=>?_) (λ_=>?_))<;>try refine sm ?_)
        |refine And.intro trivial ?_
        |refine And.intro aoz ?_
        |refine aY rfl (λ_=>?_) (λ_=>?_)
        |refine And.intro ?_ ?_
       refine aF (oo aoA ⟨rfl,rfl⟩) ?_;refine sk ?_
       repeat' first
        |refine bu ?_
        | (first|refine bj aoB ?_|refine aJ aoB ?_|refine aM ?_|refine cN ?_|refine bE (fun _=>?_)|refine aC ?_|refine bo ?_)
          refine sm ?_
        | (first|refine a8 aoB ?_|refine ba ?_|refine aL ?_|refine bm ?_|refine bJ (aB ?_))
          refine sl ?_
        |exact bF
        |first|apply bG|apply be|apply bH|apply bf|apply bI|apply bg
        |refine aP ?_
        |refine aK ?_
        |first|refine aN rfl ?_|refine aO rfl ?_|refine ax rfl ?_ ?_|refine aT rfl (λ_=>?_) (λ_=>?_)|refine aS rfl (λ_=>?_) (λ_=>?_)
        |((first|refine au (λ_=>?_) (λ_=>?_)|refine aA (λ_=>?_) (λ_=>?_))<;>try refine sm ?_)
        |refine And.intro trivial ?_
        |refine And.intro aoz ?_
        |refine aY rfl (λ_=>?_) (λ_=>?_)
        |refine And.intro ?_ ?_
       exact aoE aoz (CutL (b:=ale _)) ⟨i+1,XX.contains (dF c),rfl,hlt,hid (by rw[<- hnext.o,hk.o]),rfl,rfl⟩
 have hke:i=s.length:=aoz;subst hke;have g1:¬(s.length:Int)<(t.length:Int):=aoz;have hfin:b=eV s:=by have e:=hb.o.trans hit.o.symm;cases b<;>cases hs':eV s<;>simp_all
 have h':=h.o;rw[<- hfin]at h';replace h':=hid h';clear hfin;clear htl';refine wk ?_;exact aa h'.o
theorem ra(hs:(s.length:Int)<=100000)(h:K (.bool (eV s)) L):alb 134 [.str s] L K:=Zn aoz h
theorem afa{r:List Ava}{typ:List UInt8}{cap:Option Nat}(hn:r.length<=100000)(h1:∀a∈r,(a.1.length:Int)<=100000)(h2:(typ.length:Int)<=100000)(h:K (.bool (lZ r typ)) L):
  alb 165 [aaQ r cap,.str typ] L K:=by
 replace h:=hid h;replace h1:=hid h1;refine ala Wh ?_;refine ah (λn T' L'=>∃(k:Nat) (Z:List Blk),n=r.length-k/\k<=r.length/\Hid (lZ (r.take k) typ=false)/\T'=[(9,.int .i64 (k:Int)),(8,.int .i64 r.length),(7,aaQ r cap),(1,.str typ)]/\L'=L++Z) aoD ⟨0,[],rfl,ali _,hid rfl,rfl,aoA⟩ ?_;rintro _ _ _ ⟨k,Z,rfl,hk,hf,rfl,rfl⟩;by_cases hlt:k<r.length;have g1:(k:Int)<(r.length:Int):=aoz;have g2:=ak9 k aoz;have e1:=gf hlt;have e2:k*2+2<=(aV r).length:=by rw[dM];omega
 obtain⟨⟨ty,va⟩,ha⟩:∃a,r.getD k ([],[])=a:=⟨_,rfl⟩;have ham:(ty,va)∈r:=by rw[<- ha];simp[hlt]
 have htk:r.take (k+1)=r.take k++[(ty,va)]:=by rw[aly hlt,<- ha];simp[hlt]
 rw[ha]at e1;simp only[sf]at e1;have hs:lZ (r.take (k+1)) typ=decide (af ty=af typ):=by have:=hf.o;simp only[lZ]at this⊢;rw[htk,anP,this];simp
 have ha1:=h1.o _ ham;simp only at ha1;have hall:af ty=af typ->lZ r typ=true:=λe=>am1.2 ⟨_,ham,by simpa using e⟩
 replace hall:=hid hall;replace hs:=hid hs;clear ha ham htk;by_cases hq:af ty=af typ;have h':=h.o;rw[hall.o hq]at h';replace h':=hid h';have kk1:=@aoG _ _ _ _ (oe ha1);have kk2:=@aoG _ _ _ _ (oe h2);refine wk ?_;exact ae rfl h'.o;have kk1:=@aoG _ _ _ _ (oe ha1);have kk2:=@aoG _ _ _ _ (oe h2);refine wk ?_;exact aoE aoz aoC ⟨k+1,_,rfl,hlt,hid (by rw[hs.o];simpa using hq),rfl,rfl⟩;have hke:k=r.length:=aoz;subst hke;have g1:¬(r.length:Int)<(r.length:Int):=aoz;have hn':=hf.o;rw[alt]at hn';have h':=h.o;rw[hn']at h';replace h':=hid h';clear hn';refine wk ?_;exact ae rfl h'.o
theorem nR(hs:s.length<=100000)(h:K (.str (eH s)) L):alb 197 [.str s] L K:=by
 replace h:=hid h;refine ala P1 ?_;refine bt (l:=[]) (n:=0) 3 1 rfl (alG 1).symm ?_;refine ah (λn T' L'=>∃(i m:Nat) (b:List UInt8),n=s.length-i/\i<=s.length/\m<=3*i/\Hid (m=b.length/\b++wrL s.length i (s.drop i)=eH s)/\T'=[(4,.int .i64 (i:Int)),(3,.gsl (u8s b) m L.length 1),(0,.str s)]/\L'=L++[.spare m 1]) aoD ⟨0,0,[],rfl,ali _,aoz,hid ⟨rfl,rfl⟩,rfl,rfl⟩ ?_;rintro _ _ _ ⟨i,m,b,rfl,hi,hm,hb,rfl,rfl⟩;by_cases hlt:i<s.length
 .have g1:(i:Int)<(s.length:Int):=aoz;have g2:=ak9 i aoz;obtain⟨c,hc⟩:=ak7 (s.getD i 0);have hdr:=nM hlt;rw[hc]at hdr;have hb2:=hb.o.2;rw[hdr]at hb2;simp only[wrL]at hb2;clear hdr;replace hb2:=hid hb2;obtain⟨p1,hp1⟩:=ak7 (([34,43,44,59,60,62,92]:List UInt8).contains c);obtain⟨p2,hp2⟩:=ak7 (([32,35]:List UInt8).contains c);have hq1:p1=true↔c∈([34,43,44,59,60,62,92]:List UInt8):=(by rw[<- hp1,alQ]);have hq2:p2=true↔(c=32\/c=35):=(by rw[<- hp2,alQ];simp);replace hq1:=hid hq1;replace hq2:=hid hq2
  repeat' first
   |refine bu ?_
   | (first|refine bj aoB ?_|refine aJ aoB ?_|refine aM ?_|refine cN ?_|refine bE (fun _=>?_)|refine aC ?_|refine bo ?_|refine oo aoA ?_|refine bh (oo aoA ⟨rfl,rfl⟩) (oo aoA ⟨rfl,rfl⟩) ?_|refine aF (oo aoA ⟨rfl,rfl⟩) ?_)
     refine sm ?_
   | (first|refine a8 aoB ?_|refine ba ?_|refine aL ?_|refine bm ?_|refine bJ (aB ?_))
     refine sl ?_
   |exact bF
   |first|apply bG|apply be|apply bH|apply bf|apply bI|apply bg
   |refine aP ?_
   |refine aK ?_
   |first|refine aN rfl ?_|refine aO rfl ?_|refine ax rfl ?_ ?_|refine aT rfl (λ_=>?_) (λ_=>?_)|refine aS rfl (λ_=>?_) (λ_=>?_)
   |((first|refine au (λ_=>?_) (λ_=>?_)|refine aA (λ_=>?_) (λ_=>?_))<;>try refine sm ?_)
   |refine And.intro trivial ?_
   |refine And.intro aoz ?_
   |refine aY rfl (λ_=>?_) (λ_=>?_)
   |refine And.intro ?_ ?_
  rfl;omega;rename_i h0;have hc0:=(bv c 0).1 h0;rw[show u8s b++AV.frzL (u8s [92,48,48])=u8s (b++[92,48,48])by simp[u8s,AV.frzL,AV.frz]];refine aoE aoz aoC ⟨i+1,m+3,b++[92,48,48],rfl,hlt,aoz,hid ⟨by simp[hb.o.1],?_⟩,rfl,rfl⟩;rw[<- hb2.o,wrB,if_pos hc0,alv];rename_i h0 h1;have hc0:¬c=0:=λe=>h0 ((bv c 0).2 e)
  have hq:(i=0/\(c=32\/c=35))\/(i+1=s.length/\c=32)\/c∈[34,43,44,59,60,62,92]:=by simp only[alW,alk,decide_eq_true_eq]at h1;rcases h1 with(e|⟨e1,e2⟩)|⟨e1,e2⟩;exact .inr (.inr (hq1.o.1 e));exact .inl ⟨aoz,hq2.o.1 e2⟩;exact .inr (.inl ⟨aoz,(bv c 32).1 e2⟩)
  rw[show u8s b++[AV.int IntKind.u8 92,AV.int IntKind.u8 (c.toNat:Int)]=u8s (b++[92,c])by simp[u8s]];refine aoE aoz aoC ⟨i+1,m+1+1,b++[92,c],rfl,hlt,aoz,hid ⟨by simp[hb.o.1],?_⟩,rfl,rfl⟩;rw[<- hb2.o,wrB,if_neg hc0,if_pos hq,alv];rename_i h0 h1;have hc0:¬c=0:=λe=>h0 ((bv c 0).2 e)
  have hq:¬((i=0/\(c=32\/c=35))\/(i+1=s.length/\c=32)\/c∈[34,43,44,59,60,62,92]):=λhq=>by rw[<- amF]at h1;refine h1 ?_;simp only[alW,alk,decide_eq_true_eq];rcases hq with⟨e1,e2⟩|⟨e1,e2⟩|e;exact .inl (.inr ⟨aoz,hq2.o.2 e2⟩);exact .inr ⟨aoz,(bv c 32).2 e2⟩;exact .inl (.inl (hq1.o.2 e))
  rw[show u8s b++[AV.int IntKind.u8 (c.toNat:Int)]=u8s (b++[c])by simp[u8s]];refine aoE aoz aoC ⟨i+1,m+1,b++[c],rfl,hlt,aoz,hid ⟨by simp[hb.o.1],?_⟩,rfl,rfl⟩;rw[<- hb2.o,wrB,if_neg hc0,if_neg hq,alv]
 have hke:i=s.length:=aoz;subst hke;have g1:¬(s.length:Int)<(s.length:Int):=aoz;have e1:=jA b;have e2:=gM b;have e:=hb.o.2;rw[alY,wrL,alJ]at e;have h':=h.o;rw[<- e]at h';replace h':=hid h';clear e;refine wk ?_;exact ae rfl h'.o
def ad8(n:Nat):Nat:=if n<10 then 48+n else 87+n
theorem Hb{n:Nat}(hn:n<16)(h:K (.int .u8 (ad8 n:Nat)) L):alb 221 [.int .u8 n] L K:=by unfold ad8 at h;refine ac Te (by simp[tF]) ?_;simp only[tF,am];by_cases h1:n<10;rw[if_pos h1]at h;replace h:=hid h;have k1:(n:Int)<10:=aoz;have k2:IntKind.u8.wrap (48+(n:Int))=48+(n:Int):=cL aoz aoz;clear h1;refine wk ?_;refine aa ?_;simpa using h.o;rw[if_neg h1]at h;replace h:=hid h;have k1:¬(n:Int)<10:=aoz;have k2:IntKind.u8.wrap (97+(n:Int))=97+(n:Int):=cL aoz aoz;have k3:IntKind.u8.wrap (97+(n:Int)-10)=97+(n:Int)-10:=cL aoz aoz;clear h1;refine wk ?_;refine aa ?_;have:=h.o;rwa[show((87+n:Nat):Int)=97+(n:Int)-10 by omega]at this
theorem aio:∀(a:_root_.Fin 256) (x:_root_.Fin 16),(ad8 x.val=(dF (UInt8.ofNat a.val)).toNat)↔lL (UInt8.ofNat a.val)=some x.val:=by decide +kernel
theorem aky{x:Nat}(hx:x<16):((ad8 x:Nat):Int)=((dF a).toNat:Int)↔lL a=some x:=by have:=aio ⟨a.toNat,a.toNat_lt⟩ ⟨x,hx⟩;simp only[UInt8.ofNat_toNat]at this;rw[<- this];omega
def abi(a b:UInt8)(k:Nat):Prop:=lL a=some (k/16)/\lL b=some (k%16)
theorem adJ{b:UInt8}{k:Nat}(h:abi a b k):RX a b=some (UInt8.ofNat k):=by obtain⟨h1,h2⟩:=h;simp only[RX,h1,h2];congr 2;omega
theorem adK{b:UInt8}(h:∀j,j<256->¬abi a b j):RX a b=none:=by unfold RX;rcases h1:lL a with _|x;rfl;rcases h2:lL b with _|y;rfl;have:=Mg h1;have:=Mg h2;exact absurd ⟨by rw[h1];congr 1;omega,by rw[h2];congr 1;omega⟩ (h (16*x+y) aoz)
theorem ac9{b:UInt8}(h:K (PO a b) L):alb 189 [.str [a,b]] L K:=by
 obtain⟨p,hp⟩:=ak7 (dF a);obtain⟨q,hq⟩:=ak7 (dF b);have hf:af [a,b]=[p,q]:=by simp[af,hp,hq]
 have hl:[p,q].length=2:=rfl;have hl':[a,b].length=2:=rfl;have ha:[p,q].getD 0 0=p:=rfl;have hb:[p,q].getD 1 0=q:=rfl;have d1:Int.tmod 2 2=0:=by decide
 replace h:=hid h;refine ala Tf ?_;refine oe aoA ?_;rw[hf];refine aoH ?_;refine bt (l:=[]) (n:=0) 4 1 rfl (alG 1).symm ?_;refine ah (λn T' L'=>(n=1/\T'=[(6,.int .i64 0),(4,.gsl [] 0 L.length 1),(5,.str [p,q]),(0,.str [a,b])]/\L'=L++[.spare 0 1])\/(n=0/\∃(x:UInt8) (w:List AV),Hid (RX a b=some x/\w=u8s [x])/\T'=[(6,.int .i64 2),(4,.gsl w 1 L.length 1),(5,.str [p,q]),(0,.str [a,b])]/\L'=L++[.spare 1 1])) (n0:=1) (T0:=[(6,.int .i64 0),(4,.gsl [] 0 L.length 1),(5,.str [p,q]),(0,.str [a,b])]) (L0:=L++[.spare 0 1]) aoD (.inl ⟨rfl,rfl,rfl⟩) ?_;rintro _ _ _ (⟨rfl,rfl,rfl⟩|⟨rfl,x,w,hx,rfl,rfl⟩);refine wk ?_;refine ah (λn T' L'=>(∃k:Nat,n=257-k/\k<=256/\Hid (∀j,j<k->¬abi a b j)/\T'=[(8,.int .i64 (k:Int)),(7,.bool false),(6,.int .i64 0),(4,.gsl [] 0 L.length 1),(5,.str [p,q]),(0,.str [a,b])]/\L'=L++[.spare 0 1])\/(n=0/\∃(x:UInt8) (k:Nat) (w:List AV),k<=256/\Hid (RX a b=some x/\w=u8s [x])/\T'=[(8,.int .i64 (k:Int)),(7,.bool true),(6,.int .i64 0),(4,.gsl w 1 L.length 1),(5,.str [p,q]),(0,.str [a,b])]/\L'=L++[.spare 1 1])) (n0:=257) (T0:=[(8,.int .i64 0),(7,.bool false),(6,.int .i64 0),(4,.gsl [] 0 L.length 1),(5,.str [p,q]),(0,.str [a,b])]) (L0:=L++[.spare 0 1]) aoD (.inl ⟨0,rfl,aoz,hid aoA,rfl,rfl⟩) ?_;rintro _ _ _ (⟨k,rfl,hk,hno,rfl,rfl⟩|⟨rfl,x,k,w,hk,hx,rfl,rfl⟩);by_cases hlt:k<256;have g1:(k:Int)<256:=aoz;have g2:=ak9 k aoz;have g3:IntKind.u8.wrap (k:Int)=(k:Int):=cL aoz aoz;obtain⟨u,hu⟩:=ak7 (k/16);obtain⟨v,hv⟩:=ak7 (k%16);have hu16:u<16:=aoz;have hv16:v<16:=aoz;have g4:IntKind.i64.wrap (Int.tdiv (k:Int) 16)=(u:Int):=by rw[Int.tdiv_eq_ediv_of_nonneg aoz,ab aoz aoz];omega
 have g5:IntKind.u8.wrap (u:Int)=(u:Int):=cL aoz aoz;have g6:Int.tmod (k:Int) 16=(v:Int):=by rw[ank aoz];omega
 have g7:IntKind.u8.wrap (v:Int)=(v:Int):=cL aoz aoz;have m1:=aky (a:=a) hu16;have m2:=aky (a:=b) hv16;rw[hp]at m1;rw[hq]at m2;have mk:abi a b k↔lL a=some u/\lL b=some v:=by unfold abi;rw[hu,hv]
 replace hu:=hid hu;replace hv:=hid hv;replace mk:=hid mk;have nxt:=hid λ(e:¬abi a b k)=>show ∀j,j<k+1->¬abi a b j from λj hj=>by rcases alA j k with e'|e';exact hno.o j e';rw[show j=k by omega];exact e
 by_cases h1:lL a=some u;have k1:=m1.2 h1;by_cases h2:lL b=some v;have k2:=m2.2 h2;have hx:=adJ (mk.o.2 ⟨h1,h2⟩);have hkk:((UInt8.ofNat k).toNat:Int)=(k:Int):=by simp;omega
 replace hkk:=hid hkk;replace hx:=hid hx;clear m1 m2 h1 h2;have kk1:=@aoG _ _ _ _ (Hb hu16);have kk2:=@aoG _ _ _ _ (Hb hv16);refine wk ?_;refine aoE aoz aoC (.inr ⟨rfl,UInt8.ofNat k,k+1,_,aoz,hid ⟨hx.o,?_⟩,rfl,rfl⟩);simp only[u8s,List.map,hkk.o];have k2:¬((ad8 v:Nat):Int)=(q.toNat:Int):=λe=>h2 (m2.1 e)
 have hn:=hid (nxt.o λe=>h2 (mk.o.1 e).2);clear m1 m2 h1 h2;have kk1:=@aoG _ _ _ _ (Hb hu16);have kk2:=@aoG _ _ _ _ (Hb hv16);refine wk ?_;exact aoE aoz aoC (.inl ⟨k+1,rfl,aoz,hn,rfl,rfl⟩);have k1:¬((ad8 u:Nat):Int)=(p.toNat:Int):=λe=>h1 (m1.1 e)
 have hn:=hid (nxt.o λe=>h1 (mk.o.1 e).1);clear m1 m2 h1;have kk1:=@aoG _ _ _ _ (Hb hu16);refine wk ?_;exact aoE aoz aoC (.inl ⟨k+1,rfl,aoz,hn,rfl,rfl⟩);have hke:k=256:=aoz;subst hke;have h':=h.o;simp only[PO,adK hno.o]at h';replace h':=hid h';have g1:¬((256:Nat):Int)<256:=aoz;refine wk ?_;exact ae rfl h'.o;by_cases hlt:(k:Int)<256;refine wk ?_;exact aoE aoz aoC (.inr ⟨rfl,x,w,hx,rfl,rfl⟩);refine wk ?_;exact aoE aoz aoC (.inr ⟨rfl,x,w,hx,rfl,rfl⟩);have h':=h.o;simp only[PO,hx.o.1]at h';replace h':=hid h';rw[hx.o.2];have e1:=jA [x];have e2:=gM [x];refine wk ?_;exact ae rfl h'.o
def nP(b:List UInt8)(bl:Bool)(s:List UInt8):Option (List UInt8×List UInt8):=match fR b bl s with
 |some (v,r,true)=>some (v,r)
 |_=>none
def aaE(n:Nat)(o:Option (List UInt8×List UInt8)):AV:=match o with
 |none=>.tup [.str [],.int .i64 0,.bool false]
 |some (v,r)=>.tup [.str v,.int .i64 ((n-r.length:Nat):Int),.bool true]
theorem acN(h:c=44\/c=43):nP b false (c::s)=some (b,c::s):=by simp only[nP,ri h];rfl
theorem aaD(h:c=44\/c=43):nP b true (c::s)=none:=by simp only[nP,ri h];rfl
theorem aeF :nP b false []=some (b,[]):=by simp only[nP,om];rfl
theorem acP :nP b true []=none:=by simp only[nP,om];rfl
theorem aeG{bl:Bool}(h:¬(c=44\/c=43))(h2:c≠92)(hb:c=0\/c∈([34,59,60,62]:List UInt8)\/(b=[]/\(c=32\/c=35))):nP b bl (c::s)=none:=by simp only[nP,nQ h h2,if_pos hb]
theorem U3{bl:Bool}(h:¬(c=44\/c=43))(h2:c≠92)(hb:¬(c=0\/c∈([34,59,60,62]:List UInt8)\/(b=[]/\(c=32\/c=35)))):nP b bl (c::s)=nP (b++[c]) (decide (c=32)) s:=by simp only[nP,nQ h h2,if_neg hb]
theorem UL{x:UInt8}{L:List Blk}{K:alc}(h:K (.bool (rz.contains x)) L):alb 170 [.int .u8 x.toNat,.str rz] L K:=oo aoA h
theorem Yl{a b c d x:UInt8}{L:List Blk}{K:alc}(h:K (.bool ([a,b,c,d].contains x)) L):alb 170 [.int .u8 x.toNat,.str [a,b,c,d]] L K:=oo aoA h
theorem Ym{a b x:UInt8}{L:List Blk}{K:alc}(h:K (.bool ([a,b].contains x)) L):alb 170 [.int .u8 x.toNat,.str [a,b]] L K:=oo aoA h
theorem aeZ{at0:Nat}(hs:s.length<=100000)(hat:at0<=s.length)(h:K (aaE s.length (nP [] false (s.drop at0))) L):alb 166 [.str s,.int .i64 (at0:Int)] L K:=by
 obtain⟨R,hR⟩:=ak7 (nP [] false (s.drop at0));rw[hR]at h;replace h:=hid h;refine ala S9 ?_;refine bt (l:=[]) (n:=0) 7 1 rfl (alG 1).symm ?_;refine ah (λn T' L'=>∃(i m:Nat) (b:List UInt8) (bl fb:Bool),n=s.length-i/\i<=s.length/\m<=i/\Hid (m=b.length/\nP b bl (s.drop i)=R/\(bl=true->i<s.length/\s.getD i 0≠44/\s.getD i 0≠43)/\(fb=true↔b=[]))/\T'=[(8,.bool fb),(1,.int .i64 (i:Int)),(7,.gsl (u8s b) m L.length 1),(0,.str s)]/\L'=L++[.spare m 1]) aoD ⟨at0,0,[],false,true,rfl,hat,aoz,hid ⟨rfl,hR,aoA,aoA⟩,rfl,rfl⟩ ?_;rintro _ _ _ ⟨i,m,b,bl,fb,rfl,hi,hm,hI,rfl,rfl⟩;have e1:=jA b;have e2:=gM b;by_cases hlt:i<s.length
 .have g1:(i:Int)<(s.length:Int):=aoz;have g2:=ak9 i aoz;obtain⟨c,hc⟩:=ak7 (s.getD i 0);have hdr:=nM hlt;rw[hc]at hdr;have hb2:=hI.o.2.1;rw[hdr]at hb2;by_cases hcc:c=44\/c=43;have hbl:bl=false:=by
   cases bl with
   |false=>rfl
   | true =>
     obtain⟨_,n1,n2⟩:=hI.o.2.2.1 rfl;rw[hc]at n1 n2;rcases hcc with e|e
     .exact absurd e n1
     .exact absurd e n2
  subst hbl;rw[acN hcc]at hb2;have h':=h.o;rw[<- hb2]at h';simp only[aaE]at h';rw[<- hdr,anm,show s.length-(s.length-i)=i by omega]at h';replace h':=hid h';have k1:((c.toNat:Int)=44)\/((c.toNat:Int)=43):=hcc.imp (bv c 44).2 (bv c 43).2;clear hb2 hcc hdr;rcases k1 with k1|k1;refine wk ?_;exact ae rfl h'.o;refine wk ?_;exact ae rfl h'.o
  .have k1:¬(c.toNat:Int)=44:=λe=>hcc (.inl ((bv c 44).1 e))
   have k2:¬(c.toNat:Int)=43:=λe=>hcc (.inr ((bv c 43).1 e))
   by_cases h92:c=92;subst h92;have g3:IntKind.i64.wrap ((i:Int)+1+1)=(i:Int)+1+1:=ab aoz aoz;have g4:IntKind.i64.wrap ((i:Int)+1+2)=(i:Int)+1+2:=ab aoz aoz;have t1:((i:Int)+1).toNat=i+1:=aoz;have t3:((i:Int)+1+2).toNat=i+3:=aoz;by_cases h1:i+1<s.length;have f1:(i:Int)+1<(s.length:Int):=aoz;have f0:¬(i:Int)+1=(s.length:Int):=aoz;obtain⟨d,hd⟩:=ak7 (s.getD (i+1) 0);have hdr1:=nM h1;rw[hd]at hdr1;rw[hdr1]at hb2;by_cases hsp:d∈rz;simp only[nP,tR hsp]at hb2;have f2:rz.contains d=true:=alQ.2 hsp;clear hdr hdr1 hcc;replace hb2:=hid hb2;have kk1:=@hid _ @UL;have kk2:=@hid _ @Yl;have kk3:=@hid _ @Ym;refine wk ?_;rw[show u8s b++[AV.int IntKind.u8 (d.toNat:Int)]=u8s (b++[d])by simp[u8s]];exact aoE aoz aoC ⟨i+1+1,m+1,b++[d],false,false,rfl,h1,aoz,hid ⟨by simp[hI.o.1],hb2.o,aoA,aoA⟩,rfl,rfl⟩;have f2:rz.contains d=false:=by rw[<- amF,alQ];exact hsp
   by_cases h2:i+2<s.length;have f3:¬(s.length:Int)<(i:Int)+1+2:=aoz;have f4:(i:Int)+1<=(i:Int)+1+2:=aoz;have f5:(i:Int)+1+2<=(s.length:Int):=aoz;have f6:(0:Int)<=(i:Int)+1:=aoz;obtain⟨e,he⟩:=ak7 (s.getD (i+2) 0);have hdr2:=nM h2;rw[he]at hdr2;rw[hdr2]at hb2;simp only[nP,G1 hsp]at hb2;have hcut:(s.drop (i+1)).take (i+3-(i+1))=[d,e]:=by rw[hdr1,hdr2,show i+3-(i+1)=2 by omega];rfl
   clear hdr hdr1 hdr2 hcc;replace hb2:=hid hb2;have kk1:=@hid _ @UL;have kk2:=@hid _ @Yl;have kk3:=@hid _ @Ym;refine wk ?_;refine ac9 ?_;rcases hx:RX d e with _|x;rw[show PO d e=.tup [.str [],.bool false]by simp only[PO,hx]];have h':=h.o;rw[<- hb2.o,hx]at h';simp only[aaE]at h';replace h':=hid h';clear hx;refine aoH ?_;exact ae rfl h'.o;rw[show PO d e=.tup [.str [x],.bool true]by simp only[PO,hx]];have hb3:=hb2.o;rw[hx]at hb3;simp only at hb3;replace hb3:=hid hb3;have q1:[x].getD 0 0=x:=rfl;clear hx hb2;refine aoH ?_;rw[show u8s b++[AV.int IntKind.u8 (x.toNat:Int)]=u8s (b++[x])by simp[u8s]];exact aoE aoz aoC ⟨i+1+2,m+1,b++[x],false,false,rfl,h2,aoz,hid ⟨by simp[hI.o.1],hb3.o,aoA,aoA⟩,rfl,rfl⟩;have f3:(s.length:Int)<(i:Int)+1+2:=aoz;have hnil:s.drop (i+1+1)=[]:=amU aoz;rw[hnil]at hb2;simp only[nP,LW hsp]at hb2;have h':=h.o;rw[<- hb2]at h';replace h':=hid h';clear hdr hdr1 hb2 hcc;have kk1:=@hid _ @UL;have kk2:=@hid _ @Yl;have kk3:=@hid _ @Ym;refine wk ?_;exact ae rfl h'.o;have f1:¬(i:Int)+1<(s.length:Int):=aoz;have f0:(i:Int)+1=(s.length:Int):=aoz;have f3:(s.length:Int)<(s.length:Int)+2:=aoz;have f4:¬(s.length:Int)<(s.length:Int):=aoz;have g5:IntKind.i64.wrap (s.length:Int)=(s.length:Int):=ab aoz aoz;have g6:IntKind.i64.wrap ((s.length:Int)+2)=(s.length:Int)+2:=ab aoz aoz;have hnil:s.drop (i+1)=[]:=amU aoz;rw[hnil]at hb2;simp only[nP,LX]at hb2;have h':=h.o;rw[<- hb2]at h';replace h':=hid h';clear hdr hb2 hcc;have kk1:=@hid _ @UL;have kk2:=@hid _ @Yl;have kk3:=@hid _ @Ym;refine wk ?_;exact ae rfl h'.o
   .have k3:¬(c.toNat:Int)=92:=λe=>h92 ((bv c 92).1 e)
    obtain⟨p1,hp1⟩:=ak7 (([34,59,60,62]:List UInt8).contains c);obtain⟨p2,hp2⟩:=ak7 (([32,35]:List UInt8).contains c);have hq1:p1=true↔c∈([34,59,60,62]:List UInt8):=(by rw[<- hp1,alQ]);have hq2:p2=true↔(c=32\/c=35):=(by rw[<- hp2,alQ];simp);replace hq1:=hid hq1;replace hq2:=hid hq2;have h0:=hid (bv c 0);have h32:=hid (bv c 32);have hfb:=hid hI.o.2.2.2;obtain⟨lst,hlst⟩:∃lst:Bool,decide (i+1<s.length->s.getD (i+1) 0=44\/s.getD (i+1) 0=43)=lst:=⟨_,rfl⟩;have hbad:=hid λ(e:c=0\/c∈([34,59,60,62]:List UInt8)\/(b=[]/\(c=32\/c=35)))=>(show R=none by rw[<- hb2,aeG hcc h92 e])
    have hend:=hid λ(e:lst=true/\c=32)=>(show R=none by by_cases eb:c=0\/c∈([34,59,60,62]:List UInt8)\/(b=[]/\(c=32\/c=35));exact hbad.o eb;rw[<- hb2,U3 hcc h92 eb,e.2];have el:=of_decide_eq_true (hlst.trans e.1);simp only[decide_true];by_cases h1:i+1<s.length;rw[nM h1,aaD (el h1)];rw[amU aoz,acP])
    have hgo:=hid λ(e:¬(c=0\/c∈([34,59,60,62]:List UInt8)\/(b=[]/\(c=32\/c=35))))=>(show nP (b++[c]) (decide (c=32)) (s.drop (i+1))=R by rw[<- hb2,U3 hcc h92 e])
    replace hlst:=hid hlst;clear hdr hb2 hcc;have bad:R=none->Fin L (.tup [.str [],.int .i64 0,.bool false]) (L++[.spare m 1]) K:=λe=>ae rfl (by have h':=h.o;rwa[e]at h')
    replace bad:=hid bad;by_cases h1:i+1<s.length
    .have f1:(i:Int)+1<(s.length:Int):=aoz;have f0:¬(i:Int)+1=(s.length:Int):=aoz;have t1:((i:Int)+1).toNat=i+1:=aoz;obtain⟨d,hd⟩:=ak7 (s.getD (i+1) 0);have hlst2:=hid (show lst=true↔((d.toNat:Int)=44\/(d.toNat:Int)=43)by rw[<- hlst.o,decide_eq_true_eq,hd,show(44:Int)=((44:UInt8).toNat:Int)from rfl,show(43:Int)=((43:UInt8).toNat:Int)from rfl,bv,bv];exact⟨λe=>e h1,λe _=>e⟩)
     repeat' first
      |refine bu ?_
      | (first|refine bj aoB ?_|refine aJ aoB ?_|refine aM ?_|refine cN ?_|refine bE (fun _=>?_)|refine aC ?_|refine bo ?_|refine oo aoA ?_|refine bh (oo aoA ⟨rfl,rfl⟩) (oo aoA ⟨rfl,rfl⟩) ?_|refine aF (oo aoA ⟨rfl,rfl⟩) ?_)
        refine sm ?_
      | (first|refine a8 aoB ?_|refine ba ?_|refine aL ?_|refine bm ?_|refine bJ (aB ?_))
        refine sl ?_
      |exact bF
      |first|apply bG|apply be|apply bH|apply bf|apply bI|apply bg
      |refine aP ?_
      |refine aK ?_
      |first|refine aN rfl ?_|refine aO rfl ?_|refine ax rfl ?_ ?_|refine aT rfl (λ_=>?_) (λ_=>?_)|refine aS rfl (λ_=>?_) (λ_=>?_)
      |((first|refine au (λ_=>?_) (λ_=>?_)|refine aA (λ_=>?_) (λ_=>?_))<;>try refine sm ?_)
      |refine And.intro trivial ?_
      |refine And.intro aoz ?_
      |refine aY rfl (λ_=>?_) (λ_=>?_)
      |refine And.intro ?_ ?_
     rename_i hx;refine bad.o ?_;simp only[alW,alk,decide_eq_true_eq]at hx;rcases hx with((e|e)|⟨e,e'⟩)|e;exact hbad.o (.inl (h0.o.1 e));exact hbad.o (.inr (.inl (hq1.o.1 e)));exact hbad.o (.inr (.inr ⟨hfb.o.1 e,hq2.o.1 e'⟩));exact hend.o ⟨hlst2.o.2 e.1,h32.o.1 e.2⟩;rename_i hx;rw[<- amF]at hx;simp only[alW,alk,decide_eq_true_eq]at hx;rw[show u8s b++[AV.int IntKind.u8 (c.toNat:Int)]=u8s (b++[c])by simp[u8s]];refine aoE aoz aoC ⟨i+1,m+1,b++[c],decide (c=32),false,rfl,hlt,aoz,hid ⟨by simp[hI.o.1],?_,λe=>?_,aoA⟩,rfl,rfl⟩;refine hgo.o λe=>hx ?_
     rcases e with e|e|⟨e,e'⟩;exact .inl (.inl (.inl (h0.o.2 e)));exact .inl (.inl (.inr (hq1.o.2 e)));exact .inl (.inr ⟨hfb.o.2 e,hq2.o.2 e'⟩);have e32:=h32.o.2 (of_decide_eq_true e);refine⟨h1,?_,?_⟩;intro e4;exact hx (.inr ⟨.inl (by rw[<- hd,e4];rfl),e32⟩);intro e4;exact hx (.inr ⟨.inr (by rw[<- hd,e4];rfl),e32⟩)
    .have f1:¬(i:Int)+1<(s.length:Int):=aoz;have f0:(i:Int)+1=(s.length:Int):=aoz;have g5:IntKind.i64.wrap (s.length:Int)=(s.length:Int):=ab aoz aoz;have hlst2:=hid (show lst=true by rw[<- hlst.o,decide_eq_true_eq];exact λe=>absurd e h1)
     repeat' first
      |refine bu ?_
      | (first|refine bj aoB ?_|refine aJ aoB ?_|refine aM ?_|refine cN ?_|refine bE (fun _=>?_)|refine aC ?_|refine bo ?_|refine oo aoA ?_|refine bh (oo aoA ⟨rfl,rfl⟩) (oo aoA ⟨rfl,rfl⟩) ?_|refine aF (oo aoA ⟨rfl,rfl⟩) ?_)
        refine sm ?_
      | (first|refine a8 aoB ?_|refine ba ?_|refine aL ?_|refine bm ?_|refine bJ (aB ?_))
        refine sl ?_
      |exact bF
      |first|apply bG|apply be|apply bH|apply bf|apply bI|apply bg
      |refine aP ?_
      |refine aK ?_
      |first|refine aN rfl ?_|refine aO rfl ?_|refine ax rfl ?_ ?_|refine aT rfl (λ_=>?_) (λ_=>?_)|refine aS rfl (λ_=>?_) (λ_=>?_)
      |((first|refine au (λ_=>?_) (λ_=>?_)|refine aA (λ_=>?_) (λ_=>?_))<;>try refine sm ?_)
      |refine And.intro trivial ?_
      |refine And.intro aoz ?_
      |refine aY rfl (λ_=>?_) (λ_=>?_)
      |refine And.intro ?_ ?_
     rename_i hx;refine bad.o ?_;simp only[alW,alk,decide_eq_true_eq]at hx;rcases hx with((e|e)|⟨e,e'⟩)|e;exact hbad.o (.inl (h0.o.1 e));exact hbad.o (.inr (.inl (hq1.o.1 e)));exact hbad.o (.inr (.inr ⟨hfb.o.1 e,hq2.o.1 e'⟩));exact hend.o ⟨hlst2.o,h32.o.1 e⟩;rename_i hx;rw[<- amF]at hx;simp only[alW,alk,decide_eq_true_eq]at hx;rw[show u8s b++[AV.int IntKind.u8 (c.toNat:Int)]=u8s (b++[c])by simp[u8s]];refine aoE aoz aoC ⟨i+1,m+1,b++[c],decide (c=32),false,rfl,hlt,aoz,hid ⟨by simp[hI.o.1],?_,λe=>?_,aoA⟩,rfl,rfl⟩;refine hgo.o λe=>hx ?_
     rcases e with e|e|⟨e,e'⟩;exact .inl (.inl (.inl (h0.o.2 e)));exact .inl (.inl (.inr (hq1.o.2 e)));exact .inl (.inr ⟨hfb.o.2 e,hq2.o.2 e'⟩);have e32:=h32.o.2 (of_decide_eq_true e);exact absurd (.inr e32) hx
 have hke:i=s.length:=aoz;subst hke;have g1:¬(s.length:Int)<(s.length:Int):=aoz;have hbl:bl=false:=by
  cases bl with
  |false=>rfl
  |true=>exact absurd (hI.o.2.2.1 rfl).1 aoz
 subst hbl;have h':=h.o;rw[<- hI.o.2.1,alY,aeF]at h';simp only[aaE,al9,Nat.sub_zero]at h';replace h':=hid h';refine wk ?_;exact ae rfl h'.o
theorem aeH:∀(n:Nat){s b:List UInt8}{bl:Bool}{v r:List UInt8}{ok:Bool},s.length<=n->fR b bl s=some (v,r,ok)->r <:+ s:=by
 intro n;induction n with
 | zero =>
   intro s b bl v r ok hn h;obtain rfl:=alS.1 (Nat.le_zero.1 hn);rw[om]at h;cases h;exact List.suffix_refl _
 | succ n ih =>
   intro s b bl v r ok hn h;cases s with
   |nil=>rw[om]at h;cases h;exact List.suffix_refl _
   | cons c s =>
     simp only[alp]at hn;by_cases hc:c=44\/c=43
     .rw[ri hc]at h;cases h;exact List.suffix_refl _
     by_cases h92:c=92
     .subst h92;cases s with
      |nil=>rw[LX]at h;cases h
      | cons d s =>
        by_cases hd:d∈rz
        .rw[tR hd]at h;exact(ih (by simp at hn;omega) h).trans ((anD _ _).trans (anD _ _))
        .cases s with
         |nil=>rw[LW hd]at h;cases h
         | cons e s =>
           rw[G1 hd]at h;split at h
           .cases h
           .exact(ih (by simp at hn;omega) h).trans ((anD _ _).trans ((anD _ _).trans (anD _ _)))
     .rw[nQ hc h92]at h;split at h
      .cases h
      .exact(ih aoz h).trans (anD _ _)
theorem acO{v r:List UInt8}(h:nP [] false s=some (v,r)):fR [] false s=some (v,r,true):=by unfold nP at h;split at h;rename_i e;cases h;exact e;cases h
theorem Xs(f:Nat)(out:List Rdn)(now:Rdn)(s:List UInt8):se (f+1) out now s=if out.length=32\/now.length=8 then([],9)else match lN s with
  |none=>([],4)
  | some (typ,rest)=>if eV typ=false then ([],4) else if lZ now typ=true then ([],21) else match nP [] false rest with
    |none=>([],4)
    | some (v,r2)=>match r2 with
      |[]=>(out++[now++[(typ,v)]],0)
      |c::s'=>if c=44 then se f (out++[now++[(typ,v)]]) [] s' else se f out (now++[(typ,v)]) s':=by
 rw[se];congr 1;rcases lN s with _|⟨typ,rest⟩;rfl;simp only;congr 1;congr 1;unfold nP;rcases fR [] false rest with _|⟨v,r2,ok⟩;rfl;cases ok<;>rfl
theorem aea{i j:Nat}(hij:i<=j)(hj:j<s.length)(hc:s.getD j 0≠61)(h:lN (s.drop i)=(lN (s.drop j)).map λp=>((s.drop i).take (j-i)++p.1,p.2)):
  lN (s.drop i)=(lN (s.drop (j+1))).map λp=>((s.drop i).take (j+1-i)++p.1,p.2):=by
 rw[h,nM hj];simp only[lN,if_neg hc];have ht:(s.drop i).take (j+1-i)=(s.drop i).take (j-i)++[s.getD j 0]:=by rw[show j+1-i=(j-i)+1 by omega,aly (by simp;omega)];congr 2;simp[show i+(j-i)=j by omega,hj]
 rw[ht];rcases lN (s.drop (j+1))with _|⟨a,b⟩;rfl;simp
theorem ahU{r:Rdn}{typ:List UInt8}{i n:Nat}(hr:r.length=n)(hn:n<=8)(h1:∀a∈r,a.1.length<=32)(h2:typ.length<=4096)(h:K (.bool (lZ r typ)) L):
  alb 165 [.gsl (aV r) n i 2,.str typ] L K:=by
 subst hr;exact fI (by simpa only[AV.frzL,AV.frz,ju]using afa (cap:=none) aoz (λa ha=>by have:=h1 a ha;omega) aoz h)
theorem ac8{z:Int}{at0:Nat}(hz:z=(at0:Int))(hs:s.length<=100000)(hat:at0<=s.length)(h:K (aaE s.length (nP [] false (s.drop at0))) L):alb 166 [.str s,.int .i64 z] L K:=by subst hz;exact aeZ hs hat h
theorem ae2(h:K (aaY (xN s)) L):alb 131 [.str s] L K:=by
 refine ac Td (by simp[tE]) ?_;simp only[tE,am];by_cases h1:4096<s.length;have f1:(4096:Int)<(s.length:Int):=aoz;rw[xN,if_pos h1]at h;replace h:=hid h;clear h1;refine wk ?_;exact aW (aa h.o);have f1:¬(4096:Int)<(s.length:Int):=aoz;rw[xN,if_neg h1]at h;have hs:=hid (show s.length<=4096 by omega);clear h1;obtain⟨R,hR⟩:=ak7 ((if s=[]then([],0)else se (s.length+1) [] [] s));rw[hR]at h;replace h:=hid h;replace hR:=hid hR;refine wk ?_;refine bt (l:=[]) (n:=0) 4 1 rfl (alG 1).symm ?_;refine ah (λn T' L'=>∃(f m i:Nat) (out:List Rdn) (X:List Blk),f=n/\i<=s.length/\m<=32/\Hid (s≠[]->s.length-i<f/\se f out [] (s.drop i)=R)/\Hid (s=[]->out=[])/\Hid (m=out.length)/\L'[L.length]?=some (.spare m 1)/\T'=[(5,.int .i64 (i:Int)),(4,.gsl (out.map cC) m L.length 1),(0,.str s)]/\L'=L++X) aoD ⟨s.length+1,0,0,[],[.spare 0 1],rfl,ali _,aoz,hid (λe=>⟨aoz,by have:=hR.o;rw[if_neg e]at this;simpa using this⟩),hid (λ_=>rfl),hid rfl,aoA,rfl,rfl⟩ ?_;rintro _ _ _ ⟨f,m,i,out,X,rfl,hi,hm32,hI,hI0,hm,ho,rfl,rfl⟩;by_cases h0:s=[];have h':=h.o;rw[<- hR.o,if_pos h0]at h';replace h':=hid h';have f2:¬(0:Int)<(s.length:Int):=by rw[h0];simp
 clear h0;refine wk ?_;exact aW (ae rfl h'.o);obtain⟨hf,hp⟩:=hI.o h0;have f2:(0:Int)<(s.length:Int):=by have:=amv.2 h0;omega
 clear hI hI0 hR h0;have hB:L.length<(L++X).length:=(ald.1 ho).1;by_cases hlim:m=32;obtain⟨f,rfl⟩:∃g,f=g+1:=⟨f-1,aoz⟩;rw[Xs,if_pos (.inl (by rw[<- hm.o];exact hlim))]at hp;have h':=h.o;rw[<- hp]at h';replace h':=hid h';have k:(m:Int)=32:=aoz;clear hp hlim hf;refine wk ?_;exact gm h'.o;have k1:¬(m:Int)=32:=aoz;replace hp:=hid hp;refine wk ?_;refine ah (λn T' L'=>∃(g i:Nat) (now:Rdn) (v:AV) (Z:List Blk),g=n/\g<=f/\i<=s.length/\now.length<=8/\Hid (s.length-i<g/\se g out now (s.drop i)=R/\(∀a∈now,a.1.length<=32)/\ake L.length now v L')/\L'[L.length]?=some (.spare m 1)/\X.length<=Z.length/\T'=[(6,v),(5,.int .i64 (i:Int)),(4,.gsl (out.map cC) m L.length 1),(0,.str s)]/\L'=L++Z) aoD ⟨f,i,[],_,X,rfl,ale _,hi,aoA,hid ⟨hf,hp.o,aoA,.inl ⟨rfl,rfl,rfl⟩⟩,ho,ale _,rfl,rfl⟩ ?_;clear hp hf ho hi;rintro _ _ _ ⟨g,i,now,v,X1,rfl,hgf,hi,hn8,hI,ho,hXZ,rfl,rfl⟩;obtain⟨hf,hp,ht,hv⟩:=hI.o;clear hI;obtain⟨g,rfl⟩:∃g',g=g'+1:=⟨g-1,aoz⟩;have hB1:L.length<(L++X1).length:=(ald.1 ho).1;refine Y8 6 2 L.length rfl hB1 hv λp Y hBi hpi=>?_
 rw[alv]at hpi⊢;have ho2:(L++(X1++Y))[L.length]?=some (.spare m 1):=by rw[<- alv,alm hB1];exact ho
 have hXZ2:X.length<=(X1++Y).length:=by simp;omega
 generalize X1++Y=Z at hpi ho2 hXZ2⊢;clear ho hB1 hv hXZ X1 Y;replace hXZ2:=hid hXZ2;have hpl:=(ald.1 hpi).1;have hol:=(ald.1 ho2).1;have hz:p-L.length≠0:=aoz;obtain⟨c,hc⟩:∃c:Nat,now.length=c:=⟨_,rfl⟩;rw[Xs]at hp;rw[hc]at hp hpi hn8⊢;rw[alw]at hpl hol;replace hz:=hid hz;replace hpl:=hid hpl;replace hol:=hid hol;by_cases hlim2:c=8;rw[if_pos (.inr hlim2)]at hp;have h':=h.o;rw[<- hp]at h';replace h':=hid h';have k:(c:Int)=8:=aoz;clear hp hlim2;refine wk ?_;exact gm h'.o;rw[if_neg (by rw[<- hm.o];omega)]at hp;have k2:¬(c:Int)=8:=aoz;replace hp:=hid hp;replace ht:=hid ht;replace hf:=hid hf;refine wk ?_;refine ah (λn T' L'=>∃j:Nat,n=s.length-j/\i<=j/\j<=s.length/\Hid (lN (s.drop i)=(lN (s.drop j)).map λp=>((s.drop i).take (j-i)++p.1,p.2))/\T'=[(7,.int .i64 (j:Int)),(6,.gsl (aV now) c p 2),(5,.int .i64 (i:Int)),(4,.gsl (out.map cC) m L.length 1),(0,.str s)]/\L'=L++Z) aoD ⟨i,rfl,ale _,hi,hid (by rcases lN (s.drop i)with _|⟨a,b⟩<;>simp),rfl,rfl⟩ ?_;rintro _ _ _ ⟨j,rfl,hij,hj,hcut,rfl,rfl⟩;by_cases hjl:j<s.length;rotate_left;have hje:j=s.length:=aoz;subst hje;have g1:¬(s.length:Int)<(s.length:Int):=aoz;have e:=hcut.o;rw[alY]at e;simp only[lN,alP]at e;have h':=h.o;rw[<- hp.o,e]at h';simp only at h';replace h':=hid h';clear e;refine wk ?_;exact gm h'.o;have g1:(j:Int)<(s.length:Int):=aoz;have g2:=ak9 j aoz;obtain⟨x,hx⟩:=ak7 (s.getD j 0);by_cases h61:x=61;rotate_left;have g3:¬(x.toNat:Int)=61:=λe=>h61 ((bv x 61).1 e)
 have hcut':=hid (aea hij hjl (by rw[hx];exact h61) hcut.o);clear h61;refine wk ?_;exact aoE aoz aoC ⟨j+1,rfl,aoz,hjl,hcut',rfl,rfl⟩;subst h61;have g3:((61:UInt8).toNat:Int)=61:=rfl;have hcutS:lN (s.drop i)=some ((s.drop i).take (j-i),s.drop (j+1)):=by rw[hcut.o,nM hjl,hx];simp[lN]
 clear hcut;obtain⟨typ,htyp⟩:=ak7 ((s.drop i).take (j-i));have htl:typ.length<=4096:=by rw[<- htyp];have:=hs.o;simp;omega
 have htl3:(typ.length:Int)<=100000:=aoz;rw[htyp]at hcutS;have hp2:=hp.o;rw[hcutS]at hp2;simp only at hp2;have g4:¬(j:Int)=(s.length:Int):=aoz;have g5:(i:Int)<=(j:Int):=aoz;have g6:(j:Int)<=(s.length:Int):=aoz;replace hp2:=hid hp2;clear hcutS hp;cases hty:eV typ with
 | false =>
   have h':=h.o;rw[<- hp2.o,if_pos hty]at h';replace h':=hid h';have kk1:=@aoG _ _ _ _ (ra htl3);refine wk ?_;exact gm h'.o
 |true =>
 have hp3:=hp2.o;rw[if_neg (by rw[hty];simp)]at hp3;replace hp3:=hid hp3;clear hp2;have hpn:=hid (show p≠L.length+Z.length by have:=hpl.o;omega);have b1:∀b,(L++(Z++[b]))[p]?=some (.spare c 2):=λb=>by rw[<- alv,alm (ald.1 hpi).1];exact hpi
 have b2:∀A b,(L++(Z++[b])).set p A=L++(Z.set (p-L.length) A++[b]):=λA b=>by rw[al4 _ _ aoz,ama _ _ (by have:=hpl.o;omega)]
 have b3:∀A b,(L++(Z.set (p-L.length) A++[b]))[L.length]?=some (.spare m 1):=λA b=>by rw[<- b2,alE aoz,<- alv,alm (ald.1 ho2).1];exact ho2
 have b4:∀A b,(L++(Z.set (p-L.length) A++[b]))[p]?=some A:=λA b=>by rw[<- b2,alC,if_pos rfl,if_pos (by have:=hpl.o;simp;omega)]
 have hsl:(i:Int).toNat=i:=aoz;have kk1:=@aoG _ _ _ _ (ra htl3);refine wk ?_;refine ahU hc hn8 ht.o aoz ?_;cases hha:lZ now typ with
 | true =>
   have h':=h.o;rw[<- hp3.o,if_pos hha]at h';replace h':=hid h';refine aoH ?_;exact gm h'.o
 |false =>
 have hp4:=hp3.o;rw[if_neg (by rw[hha];simp)]at hp4;replace hp4:=hid hp4;clear hp3;refine aoH ?_;refine ac8 (at0:=j+1) aoz (by have:=hs.o;omega) hjl ?_;rcases hvl:nP [] false (s.drop (j+1))with _|⟨w,r2⟩;have h':=h.o;rw[<- hp4.o,hvl]at h';simp only at h';replace h':=hid h';simp only[aaE];refine aoH ?_;exact gm h'.o;have hp5:=hp4.o;rw[hvl]at hp5;simp only at hp5;have hsuf:=aeH _ (ale _) (acO hvl);have hsd:r2=s.drop (s.length-r2.length):=List.suffix_iff_eq_drop.1 (hsuf.trans (List.drop_suffix _ _));have hl2:r2.length<=s.length-(j+1):=by have:=hsuf.length_le;simpa using this
 obtain⟨t,ht0⟩:=ak7 (s.length-r2.length);rw[ht0]at hsd;have htj:j<t:=aoz;have hts:t<=s.length:=aoz;simp only[aaE,ht0];replace hp5:=hid hp5;clear hp4 hvl hsuf;replace hsd:=hid hsd;have q1:(c+1)*32<=140737488355328:=aoz;have q2:c+1<=140737488355328:=aoz;have q3:(m+1)*24<=140737488355328:=aoz;have q4:m+1<=140737488355328:=aoz;have e1:aV now++[AV.str typ,AV.str w]=aV (now++[(typ,w)]):=(X9 _ _ _).symm;have e2:out.map cC++[AV.sl (AV.frzL (aV now++[AV.str typ,AV.str w])) (c+1) none]=(out++[now++[(typ,w)]]).map cC:=by rw[e1,ju,alM];simp[hc]
 have e3:(out++[now++[(typ,w)]]).length=m+1:=by simp[hm.o]
 have e4:(now++[(typ,w)]).length=c+1:=by simp[hc]
 have e5:∀a∈now++[(typ,w)],a.1.length<=32:=λa ha=>by rcases alh.1 ha with h|h;exact ht.o a h;rw[alB.1 h];exact tS hty
 have s4:∀(W:List Blk) A,(L++W).set L.length A=L++W.set 0 A:=λW A=>by rw[al4 _ _ (ale _),amz]
 have g7:IntKind.i64.wrap ((t:Int)+1)=(t:Int)+1:=ab (by have:=hs.o;omega) (by have:=hs.o;omega);replace e1:=hid e1;replace e2:=hid e2;replace e3:=hid e3;replace e4:=hid e4;replace e5:=hid e5;cases r2 with
 | nil =>
   have h':=h.o;rw[<- hp5.o]at h';simp only at h';replace h':=hid h';have hte:t=s.length:=(by simp at ht0;omega);subst hte;refine aoH ?_;rw[e2.o];refine aW (ae ?_ ?_)
   .simp only[AV.frz,AV.frzL,tV,AV.refs,AV.refsL,Ma,alX]
   .simp only[AV.frz,AV.frzL,tV];have:=h'.o;simp only[aaY,e3.o]at this;exact this
 | cons x s' =>
   simp only at hp5;have htl2:t<s.length:=(by simp at ht0 hl2;omega);have k3:¬(t:Int)=(s.length:Int):=aoz;have k4:(t:Int)<(s.length:Int):=aoz;have hxd:=hsd.o;rw[nM htl2]at hxd;obtain⟨hx1,hx2⟩:=List.cons.inj hxd;have hx3:=hx1.symm;replace hx2:=hid hx2;clear hxd hx1;by_cases hx:x=44
   .subst hx;refine aoH ?_;rw[e2.o];refine aoE ?_ (CutS (b:=?_)) ⟨g,m+1,t+1,out++[now++[(typ,w)]],_,rfl,htl2,?_,hid λ_=>⟨?_,?_⟩,hid λe=>?_,hid e3.o.symm,?_,rfl,rfl⟩
    .omega
    .simp
    .have:=hm.o;omega
    .have:=hf.o;omega
    .rw[<- hx2.o,<- hp5.o,if_pos rfl]
    .rw[e]at htl2;simp at htl2
    .rw[<- s4,alC,if_pos rfl,if_pos aoA]
   .have q6:¬(x.toNat:Int)=44:=λe=>hx ((bv x 44).1 e)
    refine aoH ?_;rw[e1.o];refine aoE ?_ (CutS (b:=?_)) ⟨g,t+1,now++[(typ,w)],_,_,rfl,?_,htl2,?_,hid ⟨?_,?_,e5.o,.inr ⟨p,hBi,by rw[e4.o],by rw[e4.o];exact b4 _ _⟩⟩,b3 _ _,?_,rfl,rfl⟩
    .omega
    .have:=hXZ2.o;simp;omega
    .omega
    .rw[e4.o];omega
    .have:=hf.o;omega
    .rw[<- hx2.o,<- hp5.o,if_neg hx]
    .have:=hXZ2.o;simp;omega
end Go.Proofs.YtcmfcpjnhephaaaGreatDoor.Av
