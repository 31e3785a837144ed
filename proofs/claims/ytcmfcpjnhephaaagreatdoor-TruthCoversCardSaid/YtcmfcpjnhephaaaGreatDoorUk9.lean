/- Joined texts of the walk, made small by a program. -/
import Derived.Test.YtcmfcpjnhephaaaGreatDoorUk8
import Derived.Test.YtcmfcpjnhephaaaGreatDoorUk5
import Derived.Test.YtcmfcpjnhephaaaGreatDoorUk6
import Derived.Test.YtcmfcpjnhephaaaGreatDoorUk4
import Derived.Test.YtcmfcpjnhephaaaGreatDoorRows
import Derived.KernelRfl
import Derived.Test.YtcmfcpjnhephaaaGreatDoorUk7
set_option linter.unusedSimpArgs false
set_option linter.unusedVariables false
namespace Go.Proofs.YtcmfcpjnhephaaaGreatDoor.Av
open Go
abbrev TMp:=List (bp (List UInt8) Typ)
def gg(tm:TMp):List (List UInt8×Int):=tm.map λe=>(e.1,e.2.1.2.1)
theorem adb(tm:TMp):(gg tm).map (·.1)=tm.map (·.1):=by unfold gg;rw[al0];rfl
theorem ae2{tm:TMp}(h:(tm.map (·.1)).Nodup){f:List UInt8}{s:Int}:(f,s)∈gg tm↔∃ty,cO tm f=some ty/\ty.2.1=s:=by unfold gg;rw[alt];constructor;rintro⟨e,he,q⟩;cases q;exact⟨_,xj h he,rfl⟩;rintro⟨ty,h1,rfl⟩;obtain⟨c,hc⟩:=iF h1;exact⟨_,hc,rfl⟩
def RP(ts:List Typ):TMp->List (List UInt8)->Int×TMp
 |tm,[]=>(0,tm)
 | tm,n::r=>match ez ts n with
   |none=>(20,tm)
   |some ty=>if af n∈tm.map (·.1)then(21,tm)else RP ts (tm++[(af n,ty,tm.length)]) r
structure TmS(ts:List Typ)(tm:TMp):Prop where
 ok:di tm tm.length
 ty:∀e∈tm,∃n,ez ts n=some e.2.1/\af n=e.1/\bv n
theorem TmS.nil(ts:List Typ):TmS ts []:=⟨di.nil,λe he=>by cases he⟩
theorem TmS.add{ts:List Typ}{tm:TMp}(h:TmS ts tm){n:List UInt8}{ty:Typ}(ht:ez ts n=some ty)(hn:af n∉tm.map (·.1))(hr:bv n):TmS ts (tm++[(af n,ty,tm.length)]):=by refine⟨?_,λe he=>?_⟩;have:=h.ok.add (w:=ty) hn;rw[alJ];exact this;rcases alv.1 he with he|he;exact h.ty e he;rw[alM.1 he];exact⟨n,ht,rfl,hr⟩
theorem acC{ts:List Typ}:∀{ns:List (List UInt8)}{tm:TMp},TmS ts tm->(∀n∈ns,bv n)->TmS ts (RP ts tm ns).2
 |[],tm,h,_=>h
 | n::r,tm,h,hr=>by
   rw[RP];cases ht:ez ts n with
   |none=>exact h
   | some ty =>
     simp only;split
     .exact h
     .rename_i hn;exact acC (h.add ht hn (hr n aoK)) λm hm=>hr m (by simp[hm])
def IxO(L:List Blk)(it:Nat)(tm:TMp)(l:List bt)(B:Nat->Prop):Prop :=
 ∃im ie ip ii em ec pm pc dm dc,IxH L it im ie ip ii tm tm.length em ec pm pc dm dc (λf x=>x∈mG l f) (λk x=>x∈gb (gg tm) l k)/\PR em l/\iO l/\∀i,B i↔i∈it::im::ie::ip::ii::(pm.map (·.2.1)++dm.map (·.2.1))
structure bK(B:Nat->Prop)(L L':List Blk):Prop where
 len:L.length<=L'.length
 eq:∀i,i<L.length->¬B i->L'[i]?=L[i]?
theorem bK.refl{B:Nat->Prop}(L:List Blk):bK B L L:=⟨alr _,λ_ _ _=>rfl⟩
theorem bK.app{B:Nat->Prop}(L X:List Blk):bK B L (L++X):=⟨aoK,λi hi _=>aly hi⟩
theorem bK.trans{B B':Nat->Prop}{L L1 L2:List Blk}(h:bK B L L1)(g:bK B' L1 L2)(hb:∀i,i<L.length->B' i->B i):bK B L L2:=⟨alQ h.len g.len,λi hi hn=>by rw[g.eq i (amV hi h.len) (λe=>hn (hb i hi e)),h.eq i hi hn]⟩
theorem bK.set{B:Nat->Prop}(L:List Blk){j:Nat}(hj:B j\/L.length<=j)(b:Blk):bK B L (L.set j b):=⟨aoK,λi hi hb=>alP (λe=>by rcases hj with hj|hj;exact hb (by rw[<- e];exact hj);omega)⟩
theorem bK.get{B:Nat->Prop}{L L':List Blk}(h:bK B L L'){i:Nat}{b:Blk}(hi:L[i]?=some b)(hb:¬B i):L'[i]?=some b:=by rw[h.eq i (alq.1 hi).1 hb];exact hi
theorem IxO.lt{L:List Blk}{it:Nat}{tm:TMp}{l:List bt}{B:Nat->Prop}(h:IxO L it tm l B){i:Nat}(hi:B i):i<L.length:=by obtain⟨im,ie,ip,ii,em,ec,pm,pc,dm,dc,h1,_,_,h4⟩:=h;exact h1.lt i ((h4 i).1 hi)
theorem IxO.own{L:List Blk}{it:Nat}{tm:TMp}{l:List bt}{B:Nat->Prop}(h:IxO L it tm l B):B it:=by obtain⟨im,ie,ip,ii,em,ec,pm,pc,dm,dc,h1,_,_,h4⟩:=h;exact(h4 it).2 aoK
theorem IxO.rise{L:List Blk}{it:Nat}{tm:TMp}{l:List bt}{B:Nat->Prop}(h:IxO L it tm l B):iO l:=by obtain⟨im,ie,ip,ii,em,ec,pm,pc,dm,dc,h1,_,h3,h4⟩:=h;exact h3
theorem IxO.keep{L L':List Blk}{it:Nat}{tm:TMp}{l:List bt}{B C:Nat->Prop}(h:IxO L it tm l B)(hb:bK C L L')(hd:∀i,B i->¬C i):IxO L' it tm l B:=by
 have hlt:=λi hi=>h.lt (i:=i) hi
 obtain⟨im,ie,ip,ii,em,ec,pm,pc,dm,dc,h1,h2,h3,h4⟩:=h;exact⟨im,ie,ip,ii,em,ec,pm,pc,dm,dc,h1.keep λi hi=>hb.eq i (h1.lt i hi) (hd i ((h4 i).2 hi)),h2,h3,h4⟩
theorem IxO.app{L:List Blk}{it:Nat}{tm:TMp}{l:List bt}{B:Nat->Prop}(h:IxO L it tm l B)(X:List Blk):IxO (L++X) it tm l B:=h.keep (C:=λ_=>False) (bK.app L X) λ_ _ e=>e
section
variable {L:List Blk}{it im ie ip ii:Nat}{tm:TMp}{em:List (bp Int (List Atr))}{ec:Nat}{pm:List (bp (List UInt8) Nat)}{pc:Nat}{dm:List (bp ba Nat)}{dc:Nat}{Q:List UInt8->Int->Prop}{R:ba->Int->Prop}
theorem IxH.tyNew(h:IxH L it im ie ip ii tm tm.length em ec pm pc dm dc Q R){f:List UInt8}(hf:f∉tm.map (·.1))(ty:Typ)(hq:∀x,¬Q f x):
  IxH (((L.set im (aaY (tm++[(f,ty,tm.length)]) (tm.length+1)))++[mF [] 0]).set ip (afE (pm++[(f,L.length,pc)]) (pc+1))) it im ie ip ii (tm++[(f,ty,tm.length)]) (tm++[(f,ty,tm.length)]).length em ec (pm++[(f,L.length,pc)]) (pc+1) dm dc Q R:=by
 obtain⟨n1,n2,n3,n4,a1,a2,a3,a4,b1,b2,b3,c1,c2,d1⟩:=h.ne;have hlt:=h.lt;have him:im<L.length:=hlt im aoK;have hip:ip<L.length:=hlt ip aoK;have hfp:f∉pm.map (·.1):=λe=>hf ((h.pk f).1 e)
 have e:∀{i:Nat},ip≠i->im≠i->i<L.length->(((L.set im (aaY (tm++[(f,ty,tm.length)]) (tm.length+1)))++[mF [] 0]).set ip (afE (pm++[(f,L.length,pc)]) (pc+1)))[i]?=L[i]?:=λq1 q2 r=>by rw[alP q1,aly (by simpa using r),alP q2]
 have g:∀{i:Nat}{b:Blk},L[i]?=some b->i<L.length:=λq=>(alq.1 q).1
 have hl1:(tm++[(f,ty,tm.length)]).length=tm.length+1:=aoK;refine⟨by rw[e a3.symm a1.symm (g h.st)];exact h.st,?_,by rw[e c1.symm b1 (g h.en)];exact h.en,?_,by rw[e d1 b3 (g h.ids)];exact h.ids,by rw[hl1];exact h.tok.add hf,h.eok,h.pok.add hfp,h.dok,λg=>?_,λk c q=>?_,λk c q=>?_,h.dn,?_⟩;rw[alP b2.symm,aly (by simpa using him),amn him,hl1];rw[amn (by simp;omega)];rw[alW,alW,alv,alv,h.pk];simp;rw[Kf hfp]at q;by_cases hk:k=f;subst hk;rw[if_pos rfl]at q;cases q;refine⟨[],0,?_,di.nil,(λe he=>by cases he),λx=>?_⟩;rw[alP aoJ,alT aoK];simp;exact⟨λhx=>(by cases hx),λhx=>absurd hx (hq x)⟩;rw[if_neg hk]at q;have hc:=x9 q;obtain⟨m1,m2,m3,m4,m5,m6⟩:=n3 c hc;exact(h.ps k c q).keep (e m5.symm m3.symm (hlt c (by simp only[alu,alv];exact .inr (.inr (.inr (.inr (.inr (.inl hc))))))));have hc:=tL q;obtain⟨m2,m3,m4,m5,m6⟩:=n4 c hc;exact(h.ds k c q).keep (e m5.symm m3.symm (hlt c (by simp only[alu,alv];exact .inr (.inr (.inr (.inr (.inr (.inr hc))))))));have hn:L.length∉it::im::ie::ip::ii::(pm.map (·.2.1)++dm.map (·.2.1)):=λq=>absurd (hlt _ q) aoJ
 have hp:(it::im::ie::ip::ii::((pm++[(f,L.length,pc)]).map (·.2.1)++dm.map (·.2.1))).Perm (L.length::(it::im::ie::ip::ii::(pm.map (·.2.1)++dm.map (·.2.1)))):=by have e1:it::im::ie::ip::ii::((pm++[(f,L.length,pc)]).map (·.2.1)++dm.map (·.2.1))=(it::im::ie::ip::ii::pm.map (·.2.1))++L.length::dm.map (·.2.1):=aoK;rw[e1];exact List.perm_middle
 exact hp.nodup_iff.2 (amm.2 ⟨hn,h.nd⟩)
theorem IxH.start{L:List Blk}{it im ie ip ii:Nat}(h1:L[it]?=some (.cells [.lmap im,.lmap ie,.lmap ip,.lmap ii]))(h2:L[im]?=some (aaY [] 0))(h3:L[ie]?=some (agV [] 0))(h4:L[ip]?=some (afE [] 0))(h5:L[ii]?=some (YH [] 0))(hn:[it,im,ie,ip,ii].Nodup){Q:List UInt8->Int->Prop}{R:ba->Int->Prop}(hr:∀k x,¬R k x):
  IxH L it im ie ip ii [] 0 [] 0 [] 0 [] 0 Q R :=
 ⟨h1,h2,h3,h4,h5,di.nil,di.nil,di.nil,di.nil,λf=>aoK,λf b e=>(by simp[cO]at e),λf b e=>(by simp[cO]at e),λk _ x=>hr k x,by simpa using hn⟩
end
section
variable {κ υ:Type}
structure xI(xs ps:List (bp κ υ))(seen:List Nat):Prop where
 sub:∀x∈ps,x∈xs
 eq:seen=ps.map (·.2.2)
theorem xI.nil{xs:List (bp κ υ)}:xI xs [] []:=⟨λ_ h=>(by cases h),rfl⟩
theorem xI.next{xs ps:List (bp κ υ)}{seen:List Nat}(h:xI xs ps seen){x:bp κ υ}(hx:x∈xs):xI xs (ps++[x]) (seen++[x.2.2]):=by refine⟨λy hy=>?_,by rw[h.eq];simp⟩;rcases alv.1 hy with hy|hy;exact h.sub y hy;rw[alM.1 hy];exact hx
theorem afU{α β:Type}{f:α->β}:∀{l:List α},(l.map f).Nodup->∀{a b:α},a∈l->b∈l->f a=f b->a=b
 | x::l,h,a,b,ha,hb,e=>by
   rw[alD,amm]at h;rcases alu.1 ha with h1|h1
   .rcases alu.1 hb with h2|h2
    .rw[h1,h2]
    .exact absurd (alt.2 ⟨b,h2,by rw[<- e,h1]⟩) h.1
   .rcases alu.1 hb with h2|h2
    .exact absurd (alt.2 ⟨a,h1,by rw[e,h2]⟩) h.1
    .exact afU h.2 h1 h2 e
theorem xI.all{xs ps:List (bp κ υ)}{seen:List Nat}{ck:Nat}(h:xI xs ps seen)(hx:di xs ck)(ha:∀x∈xs,seen.contains x.2.2=true)(x:bp κ υ):x∈ps↔x∈xs:=by refine⟨h.sub x,λhm=>?_⟩;have:=ha x hm;rw[ame,h.eq]at this;obtain⟨y,hy,e⟩:=alt.1 this;rw[<- afU (f:=λx:bp κ υ=>x.2.2) hx.born (h.sub y hy) hm e];exact hy
theorem ajy{xs:List (bp κ υ)}{seen:List Nat}{x:bp κ υ}(hx:x∈xs)(hs:seen.contains x.2.2=false):(xs.filter λr => !(seen++[x.2.2]).contains r.2.2).length<(xs.filter λr => !seen.contains r.2.2).length:=by
 have e:(xs.filter λr => !(seen++[x.2.2]).contains r.2.2)=(xs.filter λr => !seen.contains r.2.2).filter (λr=>decide (r.2.2≠x.2.2)):=by
  rw[List.filter_filter];refine an5 λr _=>?_
  by_cases h:r.2.2=x.2.2<;>simp[h]
 rw[e];refine aoB.2 ⟨x,alZ.2 ⟨hx,by rw[hs];rfl⟩,aoK⟩
end
theorem bK.weak{B C:Nat->Prop}{L L':List Blk}(h:bK B L L')(hb:∀i,i<L.length->B i->C i):bK C L L':=⟨h.len,λi hi hn=>h.eq i hi λe=>hn (hb i hi e)⟩
structure DoK(P:Program)(f:FuncId)(caps:List AV)(it im ie ip ii:Nat)(tm:TMp)(J:List ba->(Nat->Prop)->List Blk->Prop):Prop where
 st:∀ks B L,J ks B L->L[it]?=some (.cells [.lmap im,.lmap ie,.lmap ip,.lmap ii])
 ty:∀ks B L,J ks B L->L[im]?=some (aaY tm tm.length)
 lt:∀ks B L,J ks B L->∀i,B i->i<L.length
 keep:∀ks B L L',J ks B L->bK (λi=>¬B i) L L'->J ks B L'
 go:∀ks B L k (K:AV->List Blk->Prop),J ks B L->(∀L' B',J (ks++[k]) B' L'->bK B L L'->(∀i,B' i->B i\/L.length<=i)->K (.tup []) L')->ae P f (qn k::caps) L K
def EaI(J:List ba->(Nat->Prop)->List Blk->Prop)(B0:Nat->Prop)(L0:List Blk)(F:List (Nat×Blk))(M:ba->Prop)(L1:List Blk):Prop :=
 ∃ks B',J ks B' L1/\(∀k,k∈ks↔M k)/\bK B0 L0 L1/\(∀i,B' i->B0 i\/L0.length<=i)/\∀p∈F,¬B' p.1/\L1[p.1]?=some p.2/\L0.length<=p.1
section
variable {P:Program}{f:FuncId}{caps:List AV}{it im ie ip ii:Nat}{tm:TMp}{J:List ba->(Nat->Prop)->List Blk->Prop}{B0:Nat->Prop}{L0 L1:List Blk}{F:List (Nat×Blk)}{M:ba->Prop}
theorem EaI.iff{M':ba->Prop}(h:EaI J B0 L0 F M L1)(e:∀k,M k↔M' k):EaI J B0 L0 F M' L1:=by obtain⟨ks,B',h1,h2,h3⟩:=h;exact⟨ks,B',h1,λk=>(h2 k).trans (e k),h3⟩
theorem EaI.sub{F':List (Nat×Blk)}(h:EaI J B0 L0 F M L1)(e:∀p∈F',p∈F):EaI J B0 L0 F' M L1:=by obtain⟨ks,B',h1,h2,h3,h4,h5⟩:=h;exact⟨ks,B',h1,h2,h3,h4,λp hp=>h5 p (e p hp)⟩
theorem EaI.at(h:EaI J B0 L0 F M L1){i:Nat}{b:Blk}(e:(i,b)∈F):L1[i]?=some b:=by obtain⟨ks,B',h1,h2,h3,h4,h5⟩:=h;exact(h5 _ e).2.1
theorem EaI.len(h:EaI J B0 L0 F M L1):L0.length<=L1.length:=by obtain⟨ks,B',h1,h2,h3,h4,h5⟩:=h;exact h3.len
theorem EaI.start{L0:List Blk}{B0:Nat->Prop}(h:J [] B0 L0):EaI J B0 L0 [] (λ_=>False) L0 :=
 ⟨[],B0,h,λk=>aoK,.refl _,λi hi=>.inl hi,λp hp=>by cases hp⟩
theorem EaI.app(hd:DoK P f caps it im ie ip ii tm J)(h:EaI J B0 L0 F M L1)(b:Blk):EaI J B0 L0 ((L1.length,b)::F) M (L1++[b]):=by obtain⟨ks,B',h1,h2,h3,h4,h5⟩:=h;refine⟨ks,B',hd.keep _ _ _ _ h1 (bK.app _ _),h2,h3.trans (bK.app (B:=λ_=>False) _ _) (λi _ e=>e.elim),h4,λp hp=>?_⟩;rcases alu.1 hp with rfl|hp;exact⟨λe=>absurd (hd.lt _ _ _ h1 _ e) aoK,aoK,h3.len⟩;obtain⟨g1,g2,g3⟩:=h5 p hp;exact⟨g1,alk g2,g3⟩
theorem EaI.turn(hd:DoK P f caps it im ie ip ii tm J){i:Nat}{b:Blk}(h:EaI J B0 L0 ((i,b)::F) M L1)(b':Blk)(hF:∀p∈F,p.1≠i):EaI J B0 L0 ((i,b')::F) M (L1.set i b'):=by obtain⟨ks,B',h1,h2,h3,h4,h5⟩:=h;obtain⟨q1,q2,q3⟩:=h5 (i,b) aoK;simp only at q1 q2 q3;refine⟨ks,B',hd.keep _ _ _ _ h1 (bK.set _ (.inl q1) _),h2,h3.trans (bK.set (B:=λj=>j=i) L1 (.inl rfl) b') (λj hj e=>absurd hj aoJ),h4,λp hp=>?_⟩;rcases alu.1 hp with rfl|hp;exact⟨q1,amn (alq.1 q2).1,q3⟩;obtain⟨g1,g2,g3⟩:=h5 p (by simp[hp]);exact⟨g1,by rw[alP (λe=>hF p hp e.symm)];exact g2,g3⟩
theorem EaI.st(hd:DoK P f caps it im ie ip ii tm J)(h:EaI J B0 L0 F M L1):L1[it]?=some (.cells [.lmap im,.lmap ie,.lmap ip,.lmap ii])/\L1[im]?=some (aaY tm tm.length):=by obtain⟨ks,B',h1,_⟩:=h;exact⟨hd.st _ _ _ h1,hd.ty _ _ _ h1⟩
theorem EaI.go(hd:DoK P f caps it im ie ip ii tm J)(h:EaI J B0 L0 F M L1){k:ba}{K:alp}(hk:∀L2,EaI J B0 L0 F (λx=>M x\/x=k) L2->L1.length<=L2.length->K (.tup []) L2):ae P f (qn k::caps) L1 K:=by
 obtain⟨ks,B',h1,h2,h3,h4,h5⟩:=h;refine hd.go ks B' L1 k K h1 λL2 B2 g1 g2 g3=>hk L2 ⟨ks++[k],B2,g1,λx=>by simp[h2],h3.trans g2 (λi hi e=>(h4 i e).resolve_right aoJ),λi hi=>?_,λp hp=>?_⟩ g2.len
 rcases g3 i hi with e|e;exact h4 i e;exact .inr (alQ h3.len e);obtain⟨q1,q2,q3⟩:=h5 p hp;have hl:=(alq.1 q2).1;refine⟨λe=>?_,g2.get q2 q1,q3⟩;rcases g3 _ e with e|e;exact q1 e;omega
end
variable {L:List Blk}{K:alp}
set_option maxHeartbeats 8000000
set_option maxRecDepth 100000
def FZ(l:List UInt8):Bool:=l.any λc=>c != 32
def P7(t:List UInt8)(k:Nat):List UInt8:=if FZ (t.drop k)=true then bL (t.take k)else dC (bL (t.take k))
theorem XY{t:List UInt8}{k:Nat}(h:k<t.length):t.drop k=t.getD k 0::t.drop (k+1):=by rw[ama h,alR,alH h];rfl
theorem VH(c:UInt8)(l:List UInt8):FZ (c::l)=(c != 32 ||FZ l):=rfl
theorem gz(b:List UInt8)(c:UInt8):dC (b++[c])=if c=32 then b else b++[c]:=by simp[dC]
theorem VA(t:List UInt8):∀k,k<=t.length->bL (t.take k)≠[]->(xy (bL (t.take k))=true↔t.getD (k-1) 0=32)
 |0,_,h=>by simp[bL]at h
 | k+1,hk,h=>by
   have ih:=VA t k aoJ;rw[xS (show k<t.length by omega)]at h⊢;rw[show k+1-1=k by omega];unfold aM at h⊢;split
   .rename_i e;exact⟨λ_=>e.1,λ_=>e.2⟩
   .simp[xy]
theorem adA{t:List UInt8}{k:Nat}(h:k<t.length):P7 t (k+1) =
  if FZ (t.drop k)=false\/(t.getD k 0=32/\(P7 t k=[]\/t.getD (k-1) 0=32))then P7 t k else P7 t k++[t.getD k 0]:=by
 have hd:=XY h;have hl:=VA t k aoJ;unfold P7;rw[xS h,hd,VH];obtain⟨c,hc⟩:=alj (t.getD k 0);obtain⟨p,hp⟩:=alj (bL (t.take k));rw[hc];rw[hp]at hl⊢;have he:p=[]->xy p=true:=λe=>by rw[e];rfl
 by_cases h32:c=32;subst h32;by_cases hn:FZ (t.drop (k+1))=true;simp only[hn,bne_self_eq_false,amY,if_true,aM,true_and,amC,false_or];by_cases hp0:p=[];simp[hp0,xy];simp[hp0,hl hp0];have hn':FZ (t.drop (k+1))=false:=by simpa using hn
 simp only[hn',bne_self_eq_false,amY,alG,if_false,true_or,if_true];unfold aM;split;rfl;rename_i e;rw[gz,if_pos rfl];unfold dC;rw[if_neg];intro e2;exact e ⟨rfl,by simp[xy,e2]⟩;have hb:(c != 32)=true:=by simpa using h32
 simp only[hb,anr,if_true,h32,false_and,or_false,amC,if_false];have:aM p c=p++[c]:=by rw[aM,if_neg λe=>h32 e.1]
 rw[this,gz,if_neg h32];split<;>rfl
theorem adz(t:List UInt8):P7 t 0=[]:=by unfold P7;split<;>simp[bL,dC]
theorem aft(t:List UInt8):P7 t t.length=dC (bL t):=by simp[P7,FZ]
theorem afs(t:List UInt8)(k:Nat):(P7 t k).length<=k:=by have:=ru t k;unfold P7;split;exact this;unfold dC;split;simp;omega;exact this
theorem xO{s:List UInt8}(hs:(s.length:Int)<=100000)(h:K (.str (bH s)) L):alo 90 [.str s] L K:=by
 replace h:=hid h;refine ac UB (by simp[yq]) ?_;simp only[yq,am];obtain⟨t,ht⟩:=alj (af s);have htl:(t.length:Int)<=100000:=by rw[<- ht];simpa[af]using hs
 have hfin:=hid (show P7 t t.length=bH s by rw[aft,bH,ht]);have kk1:=@aoQ _ _ _ _ (oK hs);refine wk ?_;refine bF (l:=[]) (n:=0) 4 1 rfl (alU 1).symm ?_;refine ah (λn T' L'=>∃(k:Nat) (b:List UInt8) (v:List AV) (m:Nat),n=t.length-k/\k<=t.length/\b=P7 t k/\v=u8s b/\m=b.length/\T'=[(5,.int .i64 (k:Int)),(4,.gsl v m L.length 1),(3,.str t),(2,.str [])]/\L'=L++[.spare m 1]) aoN ⟨0,[],[],0,rfl,alw _,(adz t).symm,rfl,rfl,rfl,rfl⟩ ?_;rintro _ _ _ ⟨k,b,v,m,rfl,hk,hb,rfl,rfl,rfl,rfl⟩;replace hb:=hid hb;by_cases hlt:k<t.length
 .have h1:(k:Int)<(t.length:Int):=aoJ;have h2:=alm k aoJ;refine wk ?_;have hbl:b.length<=k:=(by rw[hb.o];exact afs t k);have hub:(u8s b).length=b.length:=(by simp[u8s]);have hsucc:=hid (adA hlt);refine ah (λn T' L'=>∃(j:Nat) (later:Bool),n=t.length-j/\j<=t.length/\(later=true->FZ (t.drop k)=true)/\(later=false->FZ (t.drop k)=FZ (t.drop j))/\T'=[(7,.int .i64 (j:Int)),(6,.bool later),(5,.int .i64 (k:Int)),(4,.gsl (u8s b) b.length L.length 1),(3,.str t),(2,.str [])]/\L'=L++[.spare b.length 1]) aoN ⟨k,false,rfl,aoJ,aoK,aoK,rfl,rfl⟩ ?_;rintro _ _ _ ⟨j,later,rfl,hj,hla,hlb,rfl,rfl⟩;replace hla:=hid hla;replace hlb:=hid hlb;obtain⟨c,hc⟩:=alj (t.getD k 0);rw[hc]at hsucc;have hc':((t[k]?.getD 0))=c:=(by rw[<- hc,alR]);cases later;by_cases hjl:j<t.length;have g1:(j:Int)<(t.length:Int):=aoJ;have g2:=alm j aoJ;have hd:=hid (XY hjl);obtain⟨x,hx⟩:=alj (t.getD j 0);rw[hx]at hd;refine wk ?_;have hx32:(x != 32) = !decide ((x.toNat:Int)=32):=by have:(x.toNat:Int)=32↔x=32:=⟨λh=>anc.1 (by have:(32:UInt8).toNat=32:=rfl;omega),λh=>by rw[h];rfl⟩;by_cases h:x=32<;>simp[h,this]
  have hnb:=hlb.o rfl;rw[hd.o,VH,hx32]at hnb;refine aoO aoJ aoM ⟨j+1, !decide ((x.toNat:Int)=32),rfl,hjl,λe=>by rw[hnb,e];rfl,λe=>by rw[hnb,e];rfl,rfl,rfl⟩;have g1:¬(j:Int)<(t.length:Int):=aoJ;have hn:FZ (t.drop k)=false:=(by rw[hlb.o rfl,am4 aoJ];rfl);replace hsucc:=hid (show P7 t (k+1)=b by rw[hsucc.o,if_pos (.inl hn),hb.o]);refine wk ?_;exact aoO aoJ aoM ⟨k+1,b,_,b.length,rfl,hlt,hsucc.o.symm,rfl,rfl,rfl,rfl⟩
  .have hn:FZ (t.drop k)=true:=hla.o rfl;have hs2:=hsucc.o;rw[hn]at hs2;simp only[amC,false_or,<- hb.o]at hs2;replace hs2:=hid hs2;have g6:b.length≠0->(1:Int)<=(k:Int):=λh=>aoJ
   replace g6:=hid g6;have g7:=hid λh:1<=k=>show IntKind.i64.wrap ((k:Int)-1)=(k:Int)-1 from ad aoJ aoJ
   have u32:∀x:UInt8,(x.toNat:Int)=32↔x=32:=λx=>⟨λh=>anc.1 (by have:(32:UInt8).toNat=32:=rfl;omega),λh=>by rw[h];rfl⟩
   replace u32:=hid u32
   repeat' first
    |refine bd ?_
    | (first|refine aV aoL ?_|refine aB aoL ?_|refine aE ?_|refine bJ ?_|refine bg (fun _=>?_)|refine ax ?_|refine aY ?_)
      refine sm ?_
    | (first|refine aO aoL ?_|refine aP ?_|refine aD ?_|refine aW ?_|refine bq (aw ?_))
      refine sl ?_
    |exact bh
    |first|apply bj|apply aR|apply bm|apply aS|apply bo|apply aT
    |refine aH ?_
    |refine aC ?_
    |first|refine aF rfl ?_|refine aG rfl ?_|refine ao rfl ?_ ?_|refine aJ rfl (λ_=>?_) (λ_=>?_)|refine aI rfl (λ_=>?_) (λ_=>?_)
    |((first|refine an (λ_=>?_) (λ_=>?_)|refine au (λ_=>?_) (λ_=>?_))<;>try refine sm ?_)
    |refine And.intro trivial ?_
    |refine And.intro aoJ ?_
    |refine aL rfl (λ_=>?_) (λ_=>?_)
    |refine And.intro ?_ ?_
   rename_i hz;rw[g7.o aoJ];omega;rename_i hz;rw[g7.o aoJ];omega;rename_i hq;have hcond:c=32/\(b=[]\/t.getD (k-1) 0=32):=by refine⟨(u32.o c).1 hq.1,?_⟩;rcases hq.2 with e|e;exact .inl (al1.1 aoJ);by_cases hb0:b=[];exact .inl hb0;have hk1:1<=k:=(by have:=amH.2 hb0;omega);rw[g7.o hk1,show((k:Int)-1).toNat=k-1 by omega]at e;exact .inr ((u32.o _).1 e)
   exact aoO aoJ aoM ⟨k+1,b,_,b.length,rfl,hlt,by rw[hs2.o,if_pos hcond],rfl,rfl,rfl,rfl⟩;rename_i hq;have hcond:¬(c=32/\(b=[]\/t.getD (k-1) 0=32)):=λ⟨e1,e2⟩=>hq (by refine⟨(u32.o c).2 e1,?_⟩;by_cases hb0:b=[];exact .inl (by rw[hb0];rfl);have hk1:1<=k:=(by have:=amH.2 hb0;omega);rcases e2 with e|e;exact absurd e hb0;refine .inr ?_;rw[g7.o hk1,show((k:Int)-1).toNat=k-1 by omega];exact(u32.o _).2 e)
   rw[show u8s b++[AV.int IntKind.u8 (c.toNat:Int)]=u8s (b++[c])by simp[u8s]];exact aoO aoJ aoM ⟨k+1,b++[c],_,b.length+1,rfl,hlt,by rw[hs2.o,if_neg hcond],rfl,aoK,rfl,rfl⟩
 have hke:k=t.length:=aoJ;subst hke;have h1:¬(t.length:Int)<(t.length:Int):=aoJ;have e1:=jM b;have e2:=hP b;have e3:=hid (show b=bH s by rw[hb.o,hfin.o]);refine wk ?_;refine ab rfl ?_;rw[e3.o];exact h.o
end Go.Proofs.YtcmfcpjnhephaaaGreatDoor.Av
set_option maxRecDepth 100000
namespace Go.Proofs.YtcmfcpjnhephaaaGreatDoor.Av
open Go
variable {s b:List UInt8}{a c:UInt8}
def H9:LSO:=[Ae 2]
def H8:LSO:=[Aa 6 0,Ai 7 39 6,Aa 3 7]
def H7:LSO:=[Aa 8 3,Aw 9 8,Bg 10 9 1,Aa 11 10,.grp none 11 true
 [Af 12 11 3,BQ 13 11 12,og 14 11 true (.bin .leq (tm 13) (iv 32))]
 15 (tm 14),Aa 4 15]
def H6:LSO:=[Ab 5 0]
def H5:LSO:=[Aa 16 5,Aa 17 3,Aw 18 17,Ak 19 16 18,Aa 20 19,.grp none 20 true
 [Af 21 20 4]
 22 (tm 21)]
def H4:LSO:=[Aa 25 3,Aa 26 5,AB 27 25 26,
 o1 28 (.call 170 [(tm 27),(.av (.str [97,98,99,100,101,102,103,104,105,106,107,108,109,110,111,112,113,114,115,116,117,118,119,120,121,122]))]),Aa 29 28,.grp none 29 false
 [Ah 30 29 5,A9 31 29 30 0,Ah 32 29 31,.grp (some (29,false)) 32 true
 [Af 33 32 3,Af 34 32 5,AX 35 32 33 34,og 36 32 true (.call 170 [(tm 35),(.av (.str [48,49,50,51,52,53,54,55,56,57,45]))])]
 37 (tm 36)]
 38 (tm 37),Aa 4 38]
def H3:LSO:=[Aa 23 5,Ag 24 23 1,Aa 5 24]
def H2:LSO:=[Aa 39 4,Aa 2 39]
def yo:aQ:=⟨40,(aoC H9 [] (aoC H8 Cx (aoC H7 C0 (.seq (aoC H6 [] (aoF 0 (.seq (aoC H5 C0 (aoG 22 0)) (.seq (.block 1 (.sreg H4 C2)) (.sreg H3 Cx))))) (aoC H2 Cw .ret))))),[(.tmp 2)]⟩
attribute [push_cast] H9 H8 H7 H6 H5 H4 H3 H2
theorem Uz:aoH 134=aoI yo:=aoL
def QO:LSO:=[Ae 4]
def QN:LSO:=[Ab 5 0]
def QM:LSO:=[Aa 6 5,Aa 7 1,Aw 8 7,Ak 9 6 8]
def QL:LSO:=[Aa 12 1,Aa 13 5,AB 14 12 13,Aa 15 0,AH 16 14 15]
def QK:LSO:=[Az 4]
def QJ:LSO:=[Aa 10 5,Ag 11 10 1,Aa 5 11]
def QI:LSO:=[Ae 4]
def PG:aQ:=⟨17,(aoC QO [] (.seq (aoC QN [] (aoF 0 (.seq (aoC QM Cy (aoG 9 0)) (.seq (.block 1 (aoC QL Cz (aoE 16 (.sreg QK [])))) (.sreg QJ Cx))))) (aoC QI [] .ret))),[(.tmp 4)]⟩
attribute [push_cast] QO QN QM QL QK QJ QI
theorem WV:aoH 170=aoI PG:=aoL
def Np:LSO:=[Ae 4]
def No:LSO:=[Aa 7 0,Am 8 7,Ab 9 0]
def Nn:LSO:=[Ak 10 9 8]
def Nm:LSO:=[Ao 11 2 7 9,Ap 12 2 11,Bi 6,Aj 2 6 12]
def Nl:LSO:=[Ad 13 0 6,Ac 14 1 13,Ai 15 39 14,Aa 16 1,Ai 17 39 16,AH 18 15 17]
def Nk:LSO:=[Az 4]
def Nj:LSO:=[Ag 19 9 1,Aa 9 19]
def Ni:LSO:=[Ae 4]
def Ky:aQ:=⟨20,(aoC Np [] (.seq (aoC No [] (aoF 0 (aoC Nn [] (.seq (aoG 10 0) (.seq (.block 1 (aoC Nm Cx (aoC Nl C0 (aoE 18 (.sreg Nk []))))) (.sreg Nj Cw)))))) (aoC Ni [] .ret))),[(.tmp 4)]⟩
attribute [push_cast] Np No Nn Nm Nl Nk Nj Ni
theorem Wf:aoH 165=aoI Ky:=aoL
def Eb:LSO:=[Al 2,Ab 3 0]
def Ea:LSO:=[Aa 12 0,Aw 13 12,A3 14 13 4096]
def D9:LSO:=[Al 2,Ab 3 5]
def D8:LSO:=[Al 4]
def D7:LSO:=[Ab 5 0]
def D6:LSO:=[Aa 15 0,Aw 16 15,A3 17 16 0]
def D5:LSO:=[Al 6]
def D4:LSO:=[Aa 18 4,Am 19 18,An 20 19 32]
def D3:LSO:=[Al 2,Ab 3 9]
def D2:LSO:=[Aa 21 6,Am 22 21,An 23 22 8]
def wQ:LSO:=[Al 2,Ab 3 9]
def wP:LSO:=[Aa 24 5,Aa 7 24]
def wO:LSO:=[Aa 25 7,Aa 26 0,Aw 27 26,Ak 28 25 27,Aa 29 28,.grp none 29 true
 [Af 30 29 0,Af 31 29 7,AX 32 29 30 31,og 33 29 true (.bin .neq (tm 32) (.av (.int .u8 61)))]
 34 (tm 33)]
def wN:LSO:=[Aa 35 7,Ag 36 35 1,Aa 7 36]
def wM:LSO:=[Aa 37 7,Aa 38 0,Aw 39 38,AH 40 37 39,Aa 41 40,.grp none 41 false
 [Ah 42 41 0,Ah 43 41 5,Ah 44 41 7,og 45 41 false (.slS (tm 42) (some (tm 43)) (some (tm 44))),AP 46 41 134 45,Bc 47 41 46]
 48 (tm 47)]
def wL:LSO:=[Al 2,Ab 3 4]
def wK:LSO:=[Aa 49 0,Aa 50 5,Aa 51 7,BA 52 49 50 51,o1 53 (.build [(.str []),(.str [])] [(0,(1,(tm 52)))]),Bi 8,Aj 2 8 53]
def wJ:LSO:=[Aa 54 6,Ad 55 0 8,Ac 56 1 55,Ar 57 165 54 56]
def wI:LSO:=[Al 2,Ab 3 21]
def wH:LSO:=[Aa 59 0,Aa 60 7,Ag 61 60 1,Ar 62 166 59 61,Aa 58 62,Aq 63 58,Au 64 58,Bl 65 58,Aa 9 63,Aa 10 64,Aa 11 65]
def wG:LSO:=[Aa 66 11,Ay 67 66]
def wF:LSO:=[Al 2,Ab 3 4]
def wD:LSO:=[Aa 68 9,Ad 69 1 8,Aj 1 69 68]
def wC:LSO:=[Aa 70 6,Ap 71 2 8,Cl 72 71,BC 73 70 72,Aa 6 73]
def wB:LSO:=[Aa 74 10,Aa 5 74]
def wA:LSO:=[Aa 75 5,Aa 76 0,Aw 77 76,AH 78 75 77,Aa 79 78,.grp none 79 false
 [Ah 80 79 0,Ah 81 79 5,Bu 82 79 80 81,og 83 79 false (.bin .eql (tm 82) (.av (.int .u8 44)))]
 84 (tm 83)]
def wz:LSO:=[Aa 85 5,Ag 86 85 1,Aa 5 86]
def wy:LSO:=[Aa 87 4,Aa 88 6,BD 89 88,BE 90 87 89,Aa 4 90]
def ww:LSO:=[Aa 91 5,Aa 92 0,Aw 93 92,AH 94 91 93]
def wu:LSO:=[Aa 95 4,Aa 2 95,Ab 3 0]
def wt:LSO:=[Aa 96 5,Ag 97 96 1,Aa 5 97]
def wr:LSO:=[Al 2,Ab 3 0]
def tV:aQ:=⟨98,(aoC Eb [] (.seq (aoC Ea Cx (aoE 14 (.sreg D9 []))) (aoC D8 [] (aoC D7 [] (.seq (aoF 0 (.seq (aoC D6 Cx (aoG 17 0)) (.block 1 (aoC D5 [] (.seq (aoC D4 Cx (aoE 20 (.sreg D3 []))) (.seq (aoF 2 (.block 3 (.seq (aoC D2 Cx (aoE 23 (.sreg wQ []))) (aoC wP Cw (.seq (aoF 4 (.seq (aoC wO C0 (aoG 34 4)) (.block 5 (.sreg wN Cx)))) (.seq (aoC wM C0 (aoE 48 (.sreg wL []))) (aoC wK C0 (.seq (aoC wJ Cy (aoE 57 (.sreg wI []))) (aoC wH [true,true,true,false,false,false,false,false,false,false,false] (.seq (aoC wG Cw (aoE 67 (.sreg wF []))) (aoC wD C7 (aoC wC Cz (aoC wB Cw (.seq (aoC wA C0 (aoD 84 (.exit 2) .skip)) (.sreg wz Cx))))))))))))))) (aoC wy Cz (.seq (aoC ww Cy (aoE 94 (.sreg wu C3))) (.sreg wt Cx))))))))) (aoC wr [] .ret)))))),[(.tmp 2),(.tmp 3)]⟩
attribute [push_cast] Eb Ea D9 D8 D7 D6 D5 D4 D3 D2 wQ wP wO wN wM wL wK wJ wI wH wG wF wD wC wB wA wz wy ww wu wt wr
theorem Tc:aoH 131=aoI tV:=aoL
def DA:LSO:=[As 4,Ab 5 0,Ae 6]
def Dz:LSO:=[Al 7]
def Dy:LSO:=[Az 8]
def Dx:LSO:=[Aa 13 1,Aa 14 0,Aw 15 14,Ak 16 13 15,Aa 17 16,.grp none 17 true
 [Af 18 17 0,Af 19 17 1,AX 20 17 18 19,og 21 17 true (.bin .neq (tm 20) (.av (.int .u8 44)))]
 22 (tm 21),Aa 23 22,.grp none 23 true
 [Af 24 23 0,Af 25 23 1,AX 26 23 24 25,og 27 23 true (.bin .neq (tm 26) (.av (.int .u8 43)))]
 28 (tm 27)]
def Dw:LSO:=[Aa 29 0,Aa 30 1,AB 31 29 30,Aa 9 31]
def Dv:LSO:=[Aa 32 1,Ag 33 32 1,Aa 1 33]
def Du:LSO:=[Aa 34 1,Aa 35 0,Aw 36 35,AH 37 34 36,Aa 38 37,.grp none 38 false
 [Ah 39 38 0,Ah 40 38 1,Bu 41 38 39 40,og 42 38 false (.bin .eql (tm 41) (.av (.int .u8 44)))]
 43 (tm 42),Aa 44 43,.grp none 44 false
 [Ah 45 44 0,Ah 46 44 1,Bu 47 44 45 46,og 48 44 false (.bin .eql (tm 47) (.av (.int .u8 43)))]
 49 (tm 48),Aa 10 49]
def Dt:LSO:=[Aa 50 9,o1 51 (.bin .eql (tm 50) (.av (.int .u8 92)))]
def Ds:LSO:=[Aa 52 1,Aa 53 0,Aw 54 53,Ak 55 52 54,Aa 56 55,.grp none 56 true
 [Af 57 56 0,Af 58 56 1,AX 59 56 57 58,og 60 56 true (.call 170 [(tm 59),(.av (.str [34,43,44,59,60,62,92,32,35,61]))])]
 61 (tm 60)]
def Dr:LSO:=[Aa 62 7,Aa 63 0,Aa 64 1,AB 65 63 64,AM 66 65,AI 67 62 66,Aa 7 67]
def vO:LSO:=[Aa 68 1,Ag 69 68 1,Aa 1 69]
def vN:LSO:=[Aa 70 1,Ag 71 70 2,Aa 72 0,Aw 73 72,o1 74 (.bin .gtr (tm 71) (tm 73))]
def vM:LSO:=[As 4,Ab 5 0,Ae 6]
def vL:LSO:=[Aa 76 0,Aa 77 1,Aa 78 1,Ag 79 78 2,BA 80 76 77 79,Ai 81 189 80,Aa 75 81,Aq 82 75,Au 83 75,Aa 11 82,Aa 12 83]
def vK:LSO:=[Aa 84 12,Ay 85 84]
def vJ:LSO:=[As 4,Ab 5 0,Ae 6]
def vI:LSO:=[Aa 86 7,Aa 87 11,B6 88 87 0,AM 89 88,AI 90 86 89,Aa 7 90]
def vH:LSO:=[Aa 91 1,Ag 92 91 2,Aa 1 92]
def vG:LSO:=[Aa 93 9,B9 94 93,Aa 95 94,.grp none 95 false
 [Ah 96 95 9,og 97 95 false (.call 170 [(tm 96),(.av (.str [34,59,60,62]))])]
 98 (tm 97),Aa 99 98,.grp none 99 false
 [Ah 100 99 8,Ah 101 99 100,.grp (some (99,false)) 101 true
 [Af 102 101 9,og 103 101 true (.call 170 [(tm 102),(.av (.str [32,35]))])]
 104 (tm 103)]
 105 (tm 104),Aa 106 105,.grp none 106 false
 [Ah 107 106 10,Ah 108 106 107,.grp (some (106,false)) 108 true
 [Af 109 108 9,Bw 110 108 109]
 111 (tm 110)]
 112 (tm 111)]
def vF:LSO:=[As 4,Ab 5 0,Ae 6]
def vE:LSO:=[Aa 113 7,Aa 114 9,AM 115 114,AI 116 113 115,Aa 7 116]
def vD:LSO:=[Ae 8]
def vC:LSO:=[Aa 117 7,AT 118 117,Aa 119 1,Aa 4 118,Aa 5 119,Az 6]
def tS:aQ:=⟨120,(aoC DA [] (aoC Dz [] (aoC Dy [] (.seq (aoF 0 (.seq (aoC Dx C4 (aoG 28 0)) (.block 1 (aoC Dw Cy (aoC Dv Cx (aoC Du CJ (.seq (aoC Dt Cw (aoD 51 (aoC Ds C0 (aoD 61 (aoC Dr C2 (.sreg vO Cx)) (.seq (aoC vN Cz (aoE 74 (.sreg vM []))) (aoC vL CY (.seq (aoC vK Cw (aoE 85 (.sreg vJ []))) (aoC vI C0 (.sreg vH Cx))))))) (.seq (aoC vG C4 (aoE 112 (.sreg vF []))) (.sreg vE Cz)))) (.sreg vD [])))))))) (aoC vC CQ .ret))))),[(.tmp 4),(.tmp 5),(.tmp 6)]⟩
attribute [push_cast] DA Dz Dy Dx Dw Dv Du Dt Ds Dr vO vN vM vL vK vJ vI vH vG vF vE vD vC
theorem S8:aoH 166=aoI tS:=aoL
def tq:LSO:=[As 2]
def tn:LSO:=[Al 3]
def tj:LSO:=[Ab 4 0]
def ti:LSO:=[Aa 6 4,Aa 7 0,Aw 8 7,Ak 9 6 8]
def th:LSO:=[Aa 12 0,Aa 13 4,AB 14 12 13,Aa 5 14]
def tf:LSO:=[Aa 15 5,B9 16 15]
def td:LSO:=[Aa 17 3,o1 18 (.app 1 1 1 [(.int .u8 0)] (tm 17) (.av (.str [92,48,48]))),Aa 3 18]
def ta:LSO:=[Aa 19 5,o1 20 (.call 170 [(tm 19),(.av (.str [34,43,44,59,60,62,92]))]),Aa 21 20,.grp none 21 false
 [Ah 22 21 4,AE 23 21 22 0,Ah 24 21 23,.grp (some (21,false)) 24 true
 [Af 25 24 5,og 26 24 true (.call 170 [(tm 25),(.av (.str [32,35]))])]
 27 (tm 26)]
 28 (tm 27),Aa 29 28,.grp none 29 false
 [Ah 30 29 4,og 31 29 false (.bin .add (tm 30) (iv 1)),Ah 32 29 0,Bv 33 29 32,og 34 29 false (.bin .eql (tm 31) (tm 33)),Ah 35 29 34,.grp (some (29,false)) 35 true
 [Af 36 35 5,Bw 37 35 36]
 38 (tm 37)]
 39 (tm 38)]
def sZ:LSO:=[Aa 40 3,o1 41 (.bslice false 1 1 [(.int .u8 0)] [(0,(1,(.av (.int .u8 92))))]),AI 42 40 41,Aa 3 42]
def sY:LSO:=[Aa 43 3,Aa 44 5,AM 45 44,AI 46 43 45,Aa 3 46]
def rQ:LSO:=[Aa 10 4,Ag 11 10 1,Aa 4 11]
def rP:LSO:=[Aa 47 3,AT 48 47,Aa 2 48]
def qw:aQ:=⟨49,(aoC tq [] (aoC tn [] (.seq (aoC tj [] (aoF 0 (.seq (aoC ti Cy (aoG 9 0)) (.seq (.block 1 (aoC th Cy (.seq (aoC tf Cw (aoD 16 (aoC td Cx (.exit 1)) .skip)) (.seq (aoC ta C0 (aoD 39 (.sreg sZ Cy) .skip)) (.sreg sY Cz))))) (.sreg rQ Cx))))) (aoC rP Cx .ret)))),[(.tmp 2)]⟩
attribute [push_cast] tq tn tj ti th tf td ta sZ sY rQ rP
theorem PF:aoH 197=aoI qw:=aoL
def H1:LSO:=[As 2]
def H0:LSO:=[As 3]
def HZ:LSO:=[Aa 8 0,Am 9 8,Ab 10 0]
def HY:LSO:=[Ak 11 10 9]
def HX:LSO:=[Aa 12 10,Ao 13 1 8 10,Ac 14 1 13,Aa 4 12,Aa 5 14]
def HW:LSO:=[Aa 15 4,A3 16 15 0]
def HV:LSO:=[Aa 17 3,o1 18 (.bin .add (tm 17) (.av (.str [44]))),Aa 3 18]
def HU:LSO:=[Aa 19 5,Am 20 19,Ab 21 0]
def HT:LSO:=[Ak 22 21 20]
def HS:LSO:=[Aa 23 21,Ao 24 2 19 21,Ap 25 2 24,Bi 7,Aa 6 23,Aj 2 7 25]
def DG:LSO:=[Aa 26 6,A3 27 26 0]
def DF:LSO:=[Aa 28 3,o1 29 (.bin .add (tm 28) (.av (.str [43]))),Aa 3 29]
def DE:LSO:=[Aa 30 3,Ad 31 0 7,Ac 32 1 31,AO 33 30 32,o1 34 (.bin .add (tm 33) (.av (.str [61]))),Ad 35 1 7,Ac 36 1 35,Ai 37 197 36,AO 38 34 37,Aa 3 38]
def DD:LSO:=[Ag 39 21 1,Aa 21 39]
def DC:LSO:=[Ag 40 10 1,Aa 10 40]
def DB:LSO:=[Aa 41 3,Aa 2 41]
def yn:aQ:=⟨42,(aoC H1 [] (aoC H0 [] (.seq (aoC HZ [] (aoF 0 (aoC HY [] (.seq (aoG 11 0) (.seq (.block 1 (aoC HX C6 (.seq (aoC HW Cw (aoD 16 (.sreg HV Cx) .skip)) (aoC HU [] (aoF 2 (aoC HT [] (.seq (aoG 22 2) (.seq (.block 3 (aoC HS C6 (.seq (aoC DG Cw (aoD 27 (.sreg DF Cx) .skip)) (.sdreg DE [.pure,.pure,(.read 0 0),.pure,.pure,.pure,(.read 0 0),(.read 0 0)] CK)))) (.sreg DD Cw))))))))) (.sreg DC Cw)))))) (aoC DB Cw .ret)))),[(.tmp 2)]⟩
attribute [push_cast] H1 H0 HZ HY HX HW HV HU HT HS DG DF DE DD DC DB
theorem Uy:aoH 168=aoI yn:=aoL
def D1:LSO:=[As 2,Ab 3 0]
def DZ:LSO:=[Ab 4 0]
def DY:LSO:=[Aa 9 0,Am 10 9,Ab 11 0]
def DX:LSO:=[Ak 12 11 10]
def DW:LSO:=[Aa 13 11,Ao 14 1 9 11,Ac 15 1 14,Aa 5 13,Aa 6 15]
def DV:LSO:=[Aa 16 5,An 17 16 32]
def DU:LSO:=[As 2,Ab 3 9]
def DT:LSO:=[Aa 18 6,Am 19 18,An 20 19 0]
def DS:LSO:=[As 2,Ab 3 2]
def DR:LSO:=[Aa 21 6,Am 22 21,Ab 23 0]
def wq:LSO:=[Ak 24 23 22]
def wp:LSO:=[Aa 25 23,Ao 26 2 21 23,Ap 27 2 26,Bi 8,Aa 7 25,Aj 2 8 27]
def wo:LSO:=[Aa 28 7,An 29 28 8]
def wn:LSO:=[As 2,Ab 3 9]
def wm:LSO:=[Ad 30 0 8,Ac 31 1 30,Ai 32 134 31,Ay 33 32]
def wl:LSO:=[As 2,Ab 3 20]
def wj:LSO:=[Aa 34 6,Aa 35 7,Co 36 34 35,Ad 37 0 8,Ac 38 1 37,Ar 39 165 36 38]
def wi:LSO:=[As 2,Ab 3 21]
def wh:LSO:=[Aa 40 4,Ad 41 1 8,Ac 42 1 41,Aw 43 42,o1 44 (.minmax false [(tm 43),(iv 5000)]),AO 45 40 44,Aa 4 45]
def wg:LSO:=[Ag 46 23 1,Aa 23 46]
def wc:LSO:=[Ag 47 11 1,Aa 11 47]
def wb:LSO:=[Aa 48 4,A3 49 48 4096,Aa 50 49,.grp none 50 false
 [Ah 51 50 0,AP 52 50 168 51,Bv 53 50 52,A9 54 50 53 4096]
 55 (tm 54)]
def wa:LSO:=[As 2,Ab 3 5]
def v8:LSO:=[Aa 56 0,Ai 57 168 56,Aa 2 57,Ab 3 0]
def tU:aQ:=⟨58,(aoC D1 [] (aoC DZ [] (.seq (aoC DY [] (aoF 0 (aoC DX [] (.seq (aoG 12 0) (.seq (.block 1 (aoC DW C6 (.seq (aoC DV Cw (aoE 17 (.sreg DU []))) (.seq (aoC DT Cx (aoE 20 (.sreg DS []))) (aoC DR [] (aoF 2 (aoC wq [] (.seq (aoG 24 2) (.seq (.block 3 (aoC wp C6 (.seq (aoC wo Cw (aoE 29 (.sreg wn []))) (.seq (aoC wm Cy (aoE 33 (.sreg wl []))) (.seq (.seq (.sdreg wj [.pure,.pure,(.read 0 0),.pure,(.read 0 0)] C0) (aoE 39 (.sreg wi []))) (.sreg wh C2)))))) (.sreg wg Cw)))))))))) (.sreg wc Cw)))))) (.seq (aoC wb Cy (aoE 55 (.sreg wa []))) (aoC v8 CH .ret))))),[(.tmp 2),(.tmp 3)]⟩
attribute [push_cast] D1 DZ DY DX DW DV DU DT DS DR wq wp wo wn wm wl wj wi wh wg wc wb wa v8
theorem Ta:aoH 167=aoI tU:=aoL
def DQ:LSO:=[Al 2]
def DP:LSO:=[Al 3]
def DO:LSO:=[Aa 12 0,Am 13 12,Ab 14 0]
def DN:LSO:=[Ak 15 14 13]
def DM:LSO:=[Ao 16 1 12 14,Ac 17 1 16,Aa 5 17]
def DL:LSO:=[Al 6]
def DK:LSO:=[Aa 18 5,Am 19 18,Ab 20 0]
def DJ:LSO:=[Ak 21 20 19]
def DI:LSO:=[Ao 22 2 18 20,Ap 23 2 22,Bi 8,Aj 2 8 23]
def DH:List (aj×Kd):=
 [A5 24 0 8,A0 25 1 24 0 1,Bb 26 39 25 0 1,A5 27 1 8,A0 28 1 27 0 1,Bb 29 90 28 0 1,od 30 (.build [(.str []),(.str [])] [(0,(1,(tm 26))),(1,(1,(tm 29)))]) .pure,
 od 9 (.alloc [(.str []),(.str [])]) .eff]
def vP:List aj :=
 [⟨none,(.store 2 (tm 9) (tm 30)),none⟩]
def v7:LSO:=[Aa 31 6,Am 32 31,Aa 10 32]
def v6:LSO:=[Aa 33 10,A3 34 33 0,Aa 35 34,.grp none 35 true
 [Af 36 35 6,Af 37 35 10,BS 38 35 37 1,B4 39 35 2 36 38,AA 40 35 0 39,A6 41 35 1 40,og 42 35 true (.bin .add (tm 41) (.av (.str [61]))),Af 43 35 6,Af 44 35 10,BS 45 35 44 1,
 B4 46 35 2 43 45,AA 47 35 1 46,A6 48 35 1 47,AL 49 35 197 48,og 50 35 true (.bin .add (tm 42) (tm 49)),AA 51 35 0 9,A6 52 35 1 51,
 og 53 35 true (.bin .add (tm 52) (.av (.str [61]))),AA 54 35 1 9,A6 55 35 1 54,AL 56 35 197 55,og 57 35 true (.bin .add (tm 53) (tm 56)),
 og 58 35 true (.bin .gtr (tm 50) (tm 57))]
 59 (tm 58)]
def vZ:LSO:=[Aa 60 10,Bn 61 60 1,Aa 10 61]
def vY:LSO:=[Al 11]
def vX:LSO:=[Aa 62 11,Aa 63 6,Aa 64 10,Co 65 63 64,BC 66 62 65,Aa 11 66]
def vW:LSO:=[Aa 67 11,Ap 68 2 9,Cl 69 68,BC 70 67 69,Aa 11 70]
def vV:LSO:=[Aa 71 11,Aa 72 6,Aa 73 10,o1 74 (.slV 2 (tm 72) (some (tm 73)) none none),BC 75 71 74,Aa 11 75]
def vU:LSO:=[Aa 76 11,Aa 6 76]
def vT:LSO:=[Ag 77 20 1,Aa 20 77]
def vS:LSO:=[Aa 78 3,Aa 79 6,BD 80 79,BE 81 78 80,Aa 3 81]
def vR:LSO:=[Ag 82 14 1,Aa 14 82]
def vQ:LSO:=[Aa 83 3,Aa 2 83]
def tT:aQ:=⟨84,(aoC DQ [] (aoC DP [] (.seq (aoC DO [] (aoF 0 (aoC DN [] (.seq (aoG 15 0) (.seq (.block 1 (aoC DM Cx (aoC DL [] (.seq (aoC DK [] (aoF 2 (aoC DJ [] (.seq (aoG 21 2) (.seq (.block 3 (aoC DI Cx (.seq (.dregM DH vP C4) (aoC v7 Cx (.seq (aoF 4 (.seq (.seq (.sdreg v6 [.pure,.pure,.pure,.pure,.pure,.pure,(.read 0 0),.pure,(.read 0 0),.pure,.pure,.pure,.pure,(.read 0 0),.pure,(.read 0 0),(.read 0 0),.pure,.pure,(.read 0 0),.pure,.pure,(.read 0 0),(.read 0 0),.pure] Cy) (aoG 59 4)) (.block 5 (.sreg vZ Cx)))) (aoC vY [] (aoC vX C0 (aoC vW Cz (aoC vV C0 (.sreg vU Cw)))))))))) (.sreg vT Cw)))))) (.sreg vS Cz))))) (.sreg vR Cw)))))) (aoC vQ Cw .ret)))),[(.tmp 2)]⟩
attribute [push_cast] DQ DP DO DN DM DL DK DJ DI DH vP v7 v6 vZ vY vX vW vV vU vT vS vR vQ
theorem S9:aoH 169=aoI tT:=aoL
def If:LSO:=[As 2,Ab 3 0]
def Ie:LSO:=[Aa 7 0,Ai 8 167 7,Aa 6 8,Aq 9 6,Au 10 6,Aa 4 9,Aa 5 10]
def Ic:LSO:=[Aa 11 5,AC 12 11 0]
def Ib:LSO:=[Aa 13 5,As 2,Aa 3 13]
def Ia:LSO:=[Aa 14 0,Ai 15 169 14,Ai 16 168 15,Aa 2 16,Ab 3 0]
def yp:aQ:=⟨17,(aoC If [] (aoC Ie C2 (.seq (aoC Ic Cw (aoE 12 (.sreg Ib C3))) (aoC Ia C6 .ret)))),[(.tmp 2),(.tmp 3)]⟩
attribute [push_cast] If Ie Ic Ib Ia
theorem UA:aoH 132=aoI yp:=aoL
def Nv:LSO:=[As 2,Ab 3 0]
def Nu:LSO:=[Aa 7 0,Ai 8 131 7,Aa 6 8,Aq 9 6,Au 10 6,Aa 4 9,Aa 5 10]
def Nt:LSO:=[Aa 11 5,AC 12 11 0]
def Nr:LSO:=[Aa 13 5,As 2,Aa 3 13]
def Nq:LSO:=[Aa 14 4,Ai 15 132 14,Aq 16 15,Au 17 15,Aa 2 16,Aa 3 17]
def Kz:aQ:=⟨18,(aoC Nv [] (aoC Nu CL (.seq (aoC Nt Cw (aoE 12 (.sreg Nr C3))) (aoC Nq CT .ret)))),[(.tmp 2),(.tmp 3)]⟩
attribute [push_cast] Nv Nu Nt Nr Nq
theorem Wg:aoH 92=aoI Kz:=aoL
attribute [push_cast] yo PG Ky tS qw yn tU tT yp Kz
variable {L:List Blk}{K:alp}
set_option maxHeartbeats 8000000
set_option maxRecDepth 100000
theorem oT{l:List UInt8}{x:UInt8}(hn:l.length<=1100000)(h:K (.bool (l.contains x)) L):
  alo 170 [.int .u8 x.toNat,.str l] L K:=by
 replace h:=hid h;refine aln WV ?_;refine ah (λn T' L'=>∃(i:Nat),n=l.length-i/\i<=l.length/\Hid (∀j,j<i->l.getD j 0≠x)/\T'=[(5,.int .i64 (i:Int)),(0,.int .u8 x.toNat),(1,.str l)]/\L=L') (CutS (b:=alr _)) ⟨0,rfl,alw _,hid aoK,rfl,rfl⟩ ?_;rintro _ _ _ ⟨i,rfl,hi,hno,rfl,rfl⟩;by_cases hlt:i<l.length;have h1:(i:Int)<(l.length:Int):=aoJ;have h2:=alm i aoJ;obtain⟨p,hp⟩:=alj (l.getD i 0);by_cases hpq:p=x;have hc:l.contains x=true:=by rw[ame,<- hpq,<- hp,alR,alH hlt];exact amu _
 have h':=h.o;rw[hc]at h';replace h':=hid h';clear hc;subst hpq;refine wk ?_;exact aa h'.o;have k1:¬(p.toNat:Int)=(x.toNat:Int):=λe=>hpq ((bz p x).1 e)
 have hp':=hid hp;refine wk ?_;refine aoO aoJ (CutS (b:=alr _)) ⟨i+1,rfl,hlt,hid λj hj=>?_,rfl,rfl⟩;rcases alK j i with e|e;exact hno.o j e;have:j=i:=aoJ;subst this;rw[hp];exact hpq;have hke:i=l.length:=aoJ;subst hke;have h1:¬(l.length:Int)<(l.length:Int):=aoJ;have hc:l.contains x=false:=by rw[<- am1,ame];intro hm;obtain⟨j,hj,e⟩:=amJ.1 hm;exact hno.o j hj (by simp[hj,e])
 have h':=h.o;rw[hc]at h';replace h':=hid h';clear hc;refine wk ?_;exact aa h'.o
abbrev qd:List UInt8:=[97,98,99,100,101,102,103,104,105,106,107,108,109,110,111,112,113,114,115,116,117,118,119,120,121,122]
abbrev XZ:List UInt8:=[48,49,50,51,52,53,54,55,56,57,45]
theorem ais:∀n:_root_.Fin 256,qd.contains (dP (UInt8.ofNat n.val))=qf (n.val:Int)/\(qd.contains (dP (UInt8.ofNat n.val)) ||XZ.contains (dP (UInt8.ofNat n.val)))=PZ (n.val:Int):=by decide +kernel
theorem YC(c:UInt8):qd.contains (dP c)=qf (c.toNat:Int)/\(qd.contains (dP c) ||XZ.contains (dP c))=PZ (c.toNat:Int):=by have:=ais ⟨c.toNat,c.toNat_lt⟩;simpa using this
def okC(j:Nat)(c:UInt8):Bool:=qd.contains (dP c) ||(decide (0<j)&&XZ.contains (dP c))
theorem ae5(s:List UInt8):gh s=true↔(1<=s.length/\s.length<=32)/\∀j,j<s.length->okC j (s.getD j 0)=true:=by
 simp only[gh,alx,decide_eq_true_eq,alC];constructor;rintro⟨⟨⟨h1,h2⟩,h3⟩,h4⟩;refine⟨⟨h1,h2⟩,λj hj=>?_⟩;obtain⟨e1,e2⟩:=YC (s.getD j 0);by_cases h0:j=0;subst h0;rw[okC,e1,h3];rfl;have hm:s.getD j 0∈s:=by simp[hj]
 have:=h4 _ hm;rw[<- e2]at this;rw[okC,show decide (0<j)=true by simp;omega,aml];exact this;rintro⟨⟨h1,h2⟩,h3⟩;refine⟨⟨⟨h1,h2⟩,?_⟩,λc hc=>?_⟩;have:=h3 0 aoJ;rw[okC]at this;simp only[Nat.lt_irrefl,decide_false,amL,anI]at this;rw[<- (YC _).1];exact this;obtain⟨j,hj,rfl⟩:=amJ.1 hc;have:=h3 j hj;have e:s.getD j 0=s[j]:=by simp[hj]
 rw[e,okC]at this;rw[<- (YC _).2];cases hl:qd.contains (dP s[j])with
 |true=>rfl
 | false =>
   rw[hl,amY,alx]at this;rw[this.2];rfl
theorem Zt(hs:(s.length:Int)<=140737488351232)(h:K (.bool (gh s)) L):alo 134 [.str s] L K:=by
 replace h:=hid h;obtain⟨t,ht⟩:=alj (af s);have htl:t.length=s.length:=by rw[<- ht];simp[af]
 have hg:∀j,j<s.length->t.getD j 0=dP (s.getD j 0):=λj hj=>by rw[<- ht];simp[af,hj]
 replace htl:=hid htl;replace hg:=hid hg;have hit:=hid (ae5 s);refine aln Uz ?_;refine cm hs ?_;rw[ht];refine aoR ?_;refine ah (λn T' L'=>∃(i:Nat) (b:Bool),n=s.length+1-i/\i<=s.length/\Hid (b=true↔(1<=s.length/\s.length<=32)/\∀j,j<i->okC j (s.getD j 0)=true)/\T'=[(5,.int .i64 (i:Int)),(4,.bool b),(3,.str t)]/\L=L') (CutS (b:=alr _)) ⟨0,_,rfl,alw _,hid (by have:=htl.o;simp;omega),rfl,rfl⟩ ?_;rintro _ _ _ ⟨i,b,rfl,hi,hb,rfl,rfl⟩;have htl':=htl.o;by_cases hlt:i<s.length
 .have g1:(i:Int)<(t.length:Int):=aoJ;have g2:=alm i aoJ;have g3:=hg.o i hlt;obtain⟨c,hc⟩:=alj (s.getD i 0);rw[hc]at g3;replace hc:=hid hc;clear htl';cases b with
  | false =>
    have hf:gh s=false:=by rw[<- am1,hit.o];intro⟨q1,q2⟩;have:=hb.o.2 ⟨q1,λj hj=>q2 j aoJ⟩;cases this
    have h':=h.o;rw[hf]at h';replace h':=hid h';clear hf;refine wk ?_;exact aa h'.o
  | true =>
    have hnext:okC i c=true↔((1<=s.length/\s.length<=32)/\∀j,j<i+1->okC j (s.getD j 0)=true):=by
     have hb1:=hb.o.1 rfl;constructor
     .intro e;refine⟨hb1.1,λj hj=>?_⟩;rcases alK j i with q|q
      .exact hb1.2 j q
      .have:j=i:=aoJ;subst this;rw[hc.o];exact e
     .rintro⟨_,e⟩;have:=e i aoJ;rwa[hc.o]at this
    replace hnext:=hid hnext;have hok:okC i c=(qd.contains (dP c) ||(decide (0<i)&&XZ.contains (dP c))):=rfl;replace hok:=hid hok;refine wk ?_;refine oT aoK ?_;cases hl:qd.contains (dP c)with
    | true =>
      have hk:=hid (show okC i c=true by rw[hok.o,hl];rfl);refine aoR ?_;exact aoO aoJ (CutL (b:=alr _)) ⟨i+1,true,rfl,hlt,hid (by rw[<- hnext.o,hk.o]),rfl,rfl⟩
    | false =>
      by_cases h0:i=0
      .have hk:=hid (show okC i c=false by rw[hok.o,hl,h0];rfl);have k0:¬(0:Int)<(i:Int):=aoJ;clear h0;refine aoR ?_;exact aoO aoJ (CutL (b:=alr _)) ⟨i+1,false,rfl,hlt,hid (by rw[<- hnext.o,hk.o]),rfl,rfl⟩
      .have hk:=hid (show okC i c=XZ.contains (dP c)by rw[hok.o,hl,show decide (0<i)=true by simp;omega];simp);have k0:(0:Int)<(i:Int):=aoJ;clear h0;refine sk ?_
       repeat' first
        |refine bd ?_
        | (first|refine aV aoL ?_|refine aB aoL ?_|refine aE ?_|refine bJ ?_|refine bg (fun _=>?_)|refine ax ?_|refine aY ?_)
          refine sm ?_
        | (first|refine aO aoL ?_|refine aP ?_|refine aD ?_|refine aW ?_|refine bq (aw ?_))
          refine sl ?_
        |exact bh
        |first|apply bj|apply aR|apply bm|apply aS|apply bo|apply aT
        |refine aH ?_
        |refine aC ?_
        |first|refine aF rfl ?_|refine aG rfl ?_|refine ao rfl ?_ ?_|refine aJ rfl (λ_=>?_) (λ_=>?_)|refine aI rfl (λ_=>?_) (λ_=>?_)
        |((first|refine an (λ_=>?_) (λ_=>?_)|refine au (λ_=>?_) (λ_=>?_))<;>try refine sm ?_)
        |refine And.intro trivial ?_
        |refine And.intro aoJ ?_
        |refine aL rfl (λ_=>?_) (λ_=>?_)
        |refine And.intro ?_ ?_
       refine aA (oT aoK ⟨rfl,rfl⟩) ?_;refine sk ?_
       repeat' first
        |refine bd ?_
        | (first|refine aV aoL ?_|refine aB aoL ?_|refine aE ?_|refine bJ ?_|refine bg (fun _=>?_)|refine ax ?_|refine aY ?_)
          refine sm ?_
        | (first|refine aO aoL ?_|refine aP ?_|refine aD ?_|refine aW ?_|refine bq (aw ?_))
          refine sl ?_
        |exact bh
        |first|apply bj|apply aR|apply bm|apply aS|apply bo|apply aT
        |refine aH ?_
        |refine aC ?_
        |first|refine aF rfl ?_|refine aG rfl ?_|refine ao rfl ?_ ?_|refine aJ rfl (λ_=>?_) (λ_=>?_)|refine aI rfl (λ_=>?_) (λ_=>?_)
        |((first|refine an (λ_=>?_) (λ_=>?_)|refine au (λ_=>?_) (λ_=>?_))<;>try refine sm ?_)
        |refine And.intro trivial ?_
        |refine And.intro aoJ ?_
        |refine aL rfl (λ_=>?_) (λ_=>?_)
        |refine And.intro ?_ ?_
       exact aoO aoJ (CutL (b:=alr _)) ⟨i+1,XZ.contains (dP c),rfl,hlt,hid (by rw[<- hnext.o,hk.o]),rfl,rfl⟩
 have hke:i=s.length:=aoJ;subst hke;have g1:¬(s.length:Int)<(t.length:Int):=aoJ;have hfin:b=gh s:=by have e:=hb.o.trans hit.o.symm;cases b<;>cases hs':gh s<;>simp_all
 have h':=h.o;rw[<- hfin]at h';replace h':=hid h';clear hfin;clear htl';refine wk ?_;exact aa h'.o
theorem P4(hs:(s.length:Int)<=100000)(h:K (.bool (gh s)) L):alo 134 [.str s] L K:=Zt aoJ h
theorem afq{r:List Ava}{typ:List UInt8}{cap:Option Nat}(hn:r.length<=100000)(h1:∀a∈r,(a.1.length:Int)<=100000)(h2:(typ.length:Int)<=100000)(h:K (.bool (mH r typ)) L):
  alo 165 [aa8 r cap,.str typ] L K:=by
 replace h:=hid h;replace h1:=hid h1;refine aln Wf ?_;refine ah (λn T' L'=>∃(k:Nat) (Z:List Blk),n=r.length-k/\k<=r.length/\Hid (mH (r.take k) typ=false)/\T'=[(9,.int .i64 (k:Int)),(8,.int .i64 r.length),(7,aa8 r cap),(1,.str typ)]/\L'=L++Z) aoN ⟨0,[],rfl,alw _,hid rfl,rfl,aoK⟩ ?_;rintro _ _ _ ⟨k,Z,rfl,hk,hf,rfl,rfl⟩;by_cases hlt:k<r.length;have g1:(k:Int)<(r.length:Int):=aoJ;have g2:=alm k aoJ;have e1:=gy hlt;have e2:k*2+2<=(bb r).length:=by rw[dW];omega
 obtain⟨⟨ty,va⟩,ha⟩:∃a,r.getD k ([],[])=a:=⟨_,rfl⟩;have ham:(ty,va)∈r:=by rw[<- ha];simp[hlt]
 have htk:r.take (k+1)=r.take k++[(ty,va)]:=by rw[alN hlt,<- ha];simp[hlt]
 rw[ha]at e1;simp only[sD]at e1;have hs:mH (r.take (k+1)) typ=decide (af ty=af typ):=by have:=hf.o;simp only[mH]at this⊢;rw[htk,aoh,this];simp
 have ha1:=h1.o _ ham;simp only at ha1;have hall:af ty=af typ->mH r typ=true:=λe=>anb.2 ⟨_,ham,by simpa using e⟩
 replace hall:=hid hall;replace hs:=hid hs;clear ha ham htk;by_cases hq:af ty=af typ;have h':=h.o;rw[hall.o hq]at h';replace h':=hid h';have kk1:=@aoQ _ _ _ _ (oK ha1);have kk2:=@aoQ _ _ _ _ (oK h2);refine wk ?_;exact ab rfl h'.o;have kk1:=@aoQ _ _ _ _ (oK ha1);have kk2:=@aoQ _ _ _ _ (oK h2);refine wk ?_;exact aoO aoJ aoM ⟨k+1,_,rfl,hlt,hid (by rw[hs.o];simpa using hq),rfl,rfl⟩;have hke:k=r.length:=aoJ;subst hke;have g1:¬(r.length:Int)<(r.length:Int):=aoJ;have hn':=hf.o;rw[alF]at hn';have h':=h.o;rw[hn']at h';replace h':=hid h';clear hn';refine wk ?_;exact ab rfl h'.o
theorem oy(hs:s.length<=100000)(h:K (.str (fa s)) L):alo 197 [.str s] L K:=by
 replace h:=hid h;refine aln PF ?_;refine bF (l:=[]) (n:=0) 3 1 rfl (alU 1).symm ?_;refine ah (λn T' L'=>∃(i m:Nat) (b:List UInt8),n=s.length-i/\i<=s.length/\m<=3*i/\Hid (m=b.length/\b++wrL s.length i (s.drop i)=fa s)/\T'=[(4,.int .i64 (i:Int)),(3,.gsl (u8s b) m L.length 1),(0,.str s)]/\L'=L++[.spare m 1]) aoN ⟨0,0,[],rfl,alw _,aoJ,hid ⟨rfl,rfl⟩,rfl,rfl⟩ ?_;rintro _ _ _ ⟨i,m,b,rfl,hi,hm,hb,rfl,rfl⟩;by_cases hlt:i<s.length
 .have g1:(i:Int)<(s.length:Int):=aoJ;have g2:=alm i aoJ;obtain⟨c,hc⟩:=alj (s.getD i 0);have hdr:=ot hlt;rw[hc]at hdr;have hb2:=hb.o.2;rw[hdr]at hb2;simp only[wrL]at hb2;clear hdr;replace hb2:=hid hb2;obtain⟨p1,hp1⟩:=alj (([34,43,44,59,60,62,92]:List UInt8).contains c);obtain⟨p2,hp2⟩:=alj (([32,35]:List UInt8).contains c);have hq1:p1=true↔c∈([34,43,44,59,60,62,92]:List UInt8):=(by rw[<- hp1,ame]);have hq2:p2=true↔(c=32\/c=35):=(by rw[<- hp2,ame];simp);replace hq1:=hid hq1;replace hq2:=hid hq2
  repeat' first
   |refine bd ?_
   | (first|refine aV aoL ?_|refine aB aoL ?_|refine aE ?_|refine bJ ?_|refine bg (fun _=>?_)|refine ax ?_|refine aY ?_|refine oT aoK ?_|refine aU (oT aoK ⟨rfl,rfl⟩) (oT aoK ⟨rfl,rfl⟩) ?_|refine aA (oT aoK ⟨rfl,rfl⟩) ?_)
     refine sm ?_
   | (first|refine aO aoL ?_|refine aP ?_|refine aD ?_|refine aW ?_|refine bq (aw ?_))
     refine sl ?_
   |exact bh
   |first|apply bj|apply aR|apply bm|apply aS|apply bo|apply aT
   |refine aH ?_
   |refine aC ?_
   |first|refine aF rfl ?_|refine aG rfl ?_|refine ao rfl ?_ ?_|refine aJ rfl (λ_=>?_) (λ_=>?_)|refine aI rfl (λ_=>?_) (λ_=>?_)
   |((first|refine an (λ_=>?_) (λ_=>?_)|refine au (λ_=>?_) (λ_=>?_))<;>try refine sm ?_)
   |refine And.intro trivial ?_
   |refine And.intro aoJ ?_
   |refine aL rfl (λ_=>?_) (λ_=>?_)
   |refine And.intro ?_ ?_
  rfl;omega;rename_i h0;have hc0:=(bz c 0).1 h0;rw[show u8s b++AV.frzL (u8s [92,48,48])=u8s (b++[92,48,48])by simp[u8s,AV.frzL,AV.frz]];refine aoO aoJ aoM ⟨i+1,m+3,b++[92,48,48],rfl,hlt,aoJ,hid ⟨by simp[hb.o.1],?_⟩,rfl,rfl⟩;rw[<- hb2.o,wrB,if_pos hc0,alI];rename_i h0 h1;have hc0:¬c=0:=λe=>h0 ((bz c 0).2 e)
  have hq:(i=0/\(c=32\/c=35))\/(i+1=s.length/\c=32)\/c∈[34,43,44,59,60,62,92]:=by simp only[al9,alx,decide_eq_true_eq]at h1;rcases h1 with(e|⟨e1,e2⟩)|⟨e1,e2⟩;exact .inr (.inr (hq1.o.1 e));exact .inl ⟨aoJ,hq2.o.1 e2⟩;exact .inr (.inl ⟨aoJ,(bz c 32).1 e2⟩)
  rw[show u8s b++[AV.int IntKind.u8 92,AV.int IntKind.u8 (c.toNat:Int)]=u8s (b++[92,c])by simp[u8s]];refine aoO aoJ aoM ⟨i+1,m+1+1,b++[92,c],rfl,hlt,aoJ,hid ⟨by simp[hb.o.1],?_⟩,rfl,rfl⟩;rw[<- hb2.o,wrB,if_neg hc0,if_pos hq,alI];rename_i h0 h1;have hc0:¬c=0:=λe=>h0 ((bz c 0).2 e)
  have hq:¬((i=0/\(c=32\/c=35))\/(i+1=s.length/\c=32)\/c∈[34,43,44,59,60,62,92]):=λhq=>by rw[<- am1]at h1;refine h1 ?_;simp only[al9,alx,decide_eq_true_eq];rcases hq with⟨e1,e2⟩|⟨e1,e2⟩|e;exact .inl (.inr ⟨aoJ,hq2.o.2 e2⟩);exact .inr ⟨aoJ,(bz c 32).2 e2⟩;exact .inl (.inl (hq1.o.2 e))
  rw[show u8s b++[AV.int IntKind.u8 (c.toNat:Int)]=u8s (b++[c])by simp[u8s]];refine aoO aoJ aoM ⟨i+1,m+1,b++[c],rfl,hlt,aoJ,hid ⟨by simp[hb.o.1],?_⟩,rfl,rfl⟩;rw[<- hb2.o,wrB,if_neg hc0,if_neg hq,alI]
 have hke:i=s.length:=aoJ;subst hke;have g1:¬(s.length:Int)<(s.length:Int):=aoJ;have e1:=jM b;have e2:=hP b;have e:=hb.o.2;rw[al6,wrL,alY]at e;have h':=h.o;rw[<- e]at h';replace h':=hid h';clear e;refine wk ?_;exact ab rfl h'.o
def aep(n:Nat):Nat:=if n<10 then 48+n else 87+n
theorem Gl{n:Nat}(hn:n<16)(h:K (.int .u8 (aep n:Nat)) L):alo 221 [.int .u8 n] L K:=by unfold aep at h;refine ac Td (by simp[tW]) ?_;simp only[tW,am];by_cases h1:n<10;rw[if_pos h1]at h;replace h:=hid h;have k1:(n:Int)<10:=aoJ;have k2:IntKind.u8.wrap (48+(n:Int))=48+(n:Int):=cV aoJ aoJ;clear h1;refine wk ?_;refine aa ?_;simpa using h.o;rw[if_neg h1]at h;replace h:=hid h;have k1:¬(n:Int)<10:=aoJ;have k2:IntKind.u8.wrap (97+(n:Int))=97+(n:Int):=cV aoJ aoJ;have k3:IntKind.u8.wrap (97+(n:Int)-10)=97+(n:Int)-10:=cV aoJ aoJ;clear h1;refine wk ?_;refine aa ?_;have:=h.o;rwa[show((87+n:Nat):Int)=97+(n:Int)-10 by omega]at this
theorem aiF:∀(a:_root_.Fin 256) (x:_root_.Fin 16),(aep x.val=(dP (UInt8.ofNat a.val)).toNat)↔mq (UInt8.ofNat a.val)=some x.val:=by decide +kernel
theorem akK{x:Nat}(hx:x<16):((aep x:Nat):Int)=((dP a).toNat:Int)↔mq a=some x:=by have:=aiF ⟨a.toNat,a.toNat_lt⟩ ⟨x,hx⟩;simp only[UInt8.ofNat_toNat]at this;rw[<- this];omega
def abB(a b:UInt8)(k:Nat):Prop:=mq a=some (k/16)/\mq b=some (k%16)
theorem adZ{b:UInt8}{k:Nat}(h:abB a b k):RZ a b=some (UInt8.ofNat k):=by obtain⟨h1,h2⟩:=h;simp only[RZ,h1,h2];congr 2;omega
theorem ad0{b:UInt8}(h:∀j,j<256->¬abB a b j):RZ a b=none:=by unfold RZ;rcases h1:mq a with _|x;rfl;rcases h2:mq b with _|y;rfl;have:=K6 h1;have:=K6 h2;exact absurd ⟨by rw[h1];congr 1;omega,by rw[h2];congr 1;omega⟩ (h (16*x+y) aoJ)
theorem adv{b:UInt8}(h:K (Pr a b) L):alo 189 [.str [a,b]] L K:=by
 obtain⟨p,hp⟩:=alj (dP a);obtain⟨q,hq⟩:=alj (dP b);have hf:af [a,b]=[p,q]:=by simp[af,hp,hq]
 have hl:[p,q].length=2:=rfl;have hl':[a,b].length=2:=rfl;have ha:[p,q].getD 0 0=p:=rfl;have hb:[p,q].getD 1 0=q:=rfl;have d1:Int.tmod 2 2=0:=by decide
 replace h:=hid h;refine aln Te ?_;refine oK aoK ?_;rw[hf];refine aoR ?_;refine bF (l:=[]) (n:=0) 4 1 rfl (alU 1).symm ?_;refine ah (λn T' L'=>(n=1/\T'=[(6,.int .i64 0),(4,.gsl [] 0 L.length 1),(5,.str [p,q]),(0,.str [a,b])]/\L'=L++[.spare 0 1])\/(n=0/\∃(x:UInt8) (w:List AV),Hid (RZ a b=some x/\w=u8s [x])/\T'=[(6,.int .i64 2),(4,.gsl w 1 L.length 1),(5,.str [p,q]),(0,.str [a,b])]/\L'=L++[.spare 1 1])) (n0:=1) (T0:=[(6,.int .i64 0),(4,.gsl [] 0 L.length 1),(5,.str [p,q]),(0,.str [a,b])]) (L0:=L++[.spare 0 1]) aoN (.inl ⟨rfl,rfl,rfl⟩) ?_;rintro _ _ _ (⟨rfl,rfl,rfl⟩|⟨rfl,x,w,hx,rfl,rfl⟩);refine wk ?_;refine ah (λn T' L'=>(∃k:Nat,n=257-k/\k<=256/\Hid (∀j,j<k->¬abB a b j)/\T'=[(8,.int .i64 (k:Int)),(7,.bool false),(6,.int .i64 0),(4,.gsl [] 0 L.length 1),(5,.str [p,q]),(0,.str [a,b])]/\L'=L++[.spare 0 1])\/(n=0/\∃(x:UInt8) (k:Nat) (w:List AV),k<=256/\Hid (RZ a b=some x/\w=u8s [x])/\T'=[(8,.int .i64 (k:Int)),(7,.bool true),(6,.int .i64 0),(4,.gsl w 1 L.length 1),(5,.str [p,q]),(0,.str [a,b])]/\L'=L++[.spare 1 1])) (n0:=257) (T0:=[(8,.int .i64 0),(7,.bool false),(6,.int .i64 0),(4,.gsl [] 0 L.length 1),(5,.str [p,q]),(0,.str [a,b])]) (L0:=L++[.spare 0 1]) aoN (.inl ⟨0,rfl,aoJ,hid aoK,rfl,rfl⟩) ?_;rintro _ _ _ (⟨k,rfl,hk,hno,rfl,rfl⟩|⟨rfl,x,k,w,hk,hx,rfl,rfl⟩);by_cases hlt:k<256;have g1:(k:Int)<256:=aoJ;have g2:=alm k aoJ;have g3:IntKind.u8.wrap (k:Int)=(k:Int):=cV aoJ aoJ;obtain⟨u,hu⟩:=alj (k/16);obtain⟨v,hv⟩:=alj (k%16);have hu16:u<16:=aoJ;have hv16:v<16:=aoJ;have g4:IntKind.i64.wrap (Int.tdiv (k:Int) 16)=(u:Int):=by rw[Int.tdiv_eq_ediv_of_nonneg aoJ,ad aoJ aoJ];omega
 have g5:IntKind.u8.wrap (u:Int)=(u:Int):=cV aoJ aoJ;have g6:Int.tmod (k:Int) 16=(v:Int):=by rw[ant aoJ];omega
 have g7:IntKind.u8.wrap (v:Int)=(v:Int):=cV aoJ aoJ;have m1:=akK (a:=a) hu16;have m2:=akK (a:=b) hv16;rw[hp]at m1;rw[hq]at m2;have mk:abB a b k↔mq a=some u/\mq b=some v:=by unfold abB;rw[hu,hv]
 replace hu:=hid hu;replace hv:=hid hv;replace mk:=hid mk;have nxt:=hid λ(e:¬abB a b k)=>show ∀j,j<k+1->¬abB a b j from λj hj=>by rcases alK j k with e'|e';exact hno.o j e';rw[show j=k by omega];exact e
 by_cases h1:mq a=some u;have k1:=m1.2 h1;by_cases h2:mq b=some v;have k2:=m2.2 h2;have hx:=adZ (mk.o.2 ⟨h1,h2⟩);have hkk:((UInt8.ofNat k).toNat:Int)=(k:Int):=by simp;omega
 replace hkk:=hid hkk;replace hx:=hid hx;clear m1 m2 h1 h2;have kk1:=@aoQ _ _ _ _ (Gl hu16);have kk2:=@aoQ _ _ _ _ (Gl hv16);refine wk ?_;refine aoO aoJ aoM (.inr ⟨rfl,UInt8.ofNat k,k+1,_,aoJ,hid ⟨hx.o,?_⟩,rfl,rfl⟩);simp only[u8s,List.map,hkk.o];have k2:¬((aep v:Nat):Int)=(q.toNat:Int):=λe=>h2 (m2.1 e)
 have hn:=hid (nxt.o λe=>h2 (mk.o.1 e).2);clear m1 m2 h1 h2;have kk1:=@aoQ _ _ _ _ (Gl hu16);have kk2:=@aoQ _ _ _ _ (Gl hv16);refine wk ?_;exact aoO aoJ aoM (.inl ⟨k+1,rfl,aoJ,hn,rfl,rfl⟩);have k1:¬((aep u:Nat):Int)=(p.toNat:Int):=λe=>h1 (m1.1 e)
 have hn:=hid (nxt.o λe=>h1 (mk.o.1 e).1);clear m1 m2 h1;have kk1:=@aoQ _ _ _ _ (Gl hu16);refine wk ?_;exact aoO aoJ aoM (.inl ⟨k+1,rfl,aoJ,hn,rfl,rfl⟩);have hke:k=256:=aoJ;subst hke;have h':=h.o;simp only[Pr,ad0 hno.o]at h';replace h':=hid h';have g1:¬((256:Nat):Int)<256:=aoJ;refine wk ?_;exact ab rfl h'.o;by_cases hlt:(k:Int)<256;refine wk ?_;exact aoO aoJ aoM (.inr ⟨rfl,x,w,hx,rfl,rfl⟩);refine wk ?_;exact aoO aoJ aoM (.inr ⟨rfl,x,w,hx,rfl,rfl⟩);have h':=h.o;simp only[Pr,hx.o.1]at h';replace h':=hid h';rw[hx.o.2];have e1:=jM [x];have e2:=hP [x];refine wk ?_;exact ab rfl h'.o
def ow(b:List UInt8)(bl:Bool)(s:List UInt8):Option (List UInt8×List UInt8):=match gf b bl s with
 |some (v,r,true)=>some (v,r)
 |_=>none
def aaX(n:Nat)(o:Option (List UInt8×List UInt8)):AV:=match o with
 |none=>.tup [.str [],.int .i64 0,.bool false]
 |some (v,r)=>.tup [.str v,.int .i64 ((n-r.length:Nat):Int),.bool true]
theorem ac6(h:c=44\/c=43):ow b false (c::s)=some (b,c::s):=by simp only[ow,rq h];rfl
theorem aaW(h:c=44\/c=43):ow b true (c::s)=none:=by simp only[ow,rq h];rfl
theorem aeX :ow b false []=some (b,[]):=by simp only[ow,oQ];rfl
theorem ac8 :ow b true []=none:=by simp only[ow,oQ];rfl
theorem aeY{bl:Bool}(h:¬(c=44\/c=43))(h2:c≠92)(hb:c=0\/c∈([34,59,60,62]:List UInt8)\/(b=[]/\(c=32\/c=35))):ow b bl (c::s)=none:=by simp only[ow,ox h h2,if_pos hb]
theorem UY{bl:Bool}(h:¬(c=44\/c=43))(h2:c≠92)(hb:¬(c=0\/c∈([34,59,60,62]:List UInt8)\/(b=[]/\(c=32\/c=35)))):ow b bl (c::s)=ow (b++[c]) (decide (c=32)) s:=by simp only[ow,ox h h2,if_neg hb]
theorem UL{x:UInt8}{L:List Blk}{K:alp}(h:K (.bool (rD.contains x)) L):alo 170 [.int .u8 x.toNat,.str rD] L K:=oT aoK h
theorem Yn{a b c d x:UInt8}{L:List Blk}{K:alp}(h:K (.bool ([a,b,c,d].contains x)) L):alo 170 [.int .u8 x.toNat,.str [a,b,c,d]] L K:=oT aoK h
theorem Yo{a b x:UInt8}{L:List Blk}{K:alp}(h:K (.bool ([a,b].contains x)) L):alo 170 [.int .u8 x.toNat,.str [a,b]] L K:=oT aoK h
theorem afh{at0:Nat}(hs:s.length<=100000)(hat:at0<=s.length)(h:K (aaX s.length (ow [] false (s.drop at0))) L):alo 166 [.str s,.int .i64 (at0:Int)] L K:=by
 obtain⟨R,hR⟩:=alj (ow [] false (s.drop at0));rw[hR]at h;replace h:=hid h;refine aln S8 ?_;refine bF (l:=[]) (n:=0) 7 1 rfl (alU 1).symm ?_;refine ah (λn T' L'=>∃(i m:Nat) (b:List UInt8) (bl fb:Bool),n=s.length-i/\i<=s.length/\m<=i/\Hid (m=b.length/\ow b bl (s.drop i)=R/\(bl=true->i<s.length/\s.getD i 0≠44/\s.getD i 0≠43)/\(fb=true↔b=[]))/\T'=[(8,.bool fb),(1,.int .i64 (i:Int)),(7,.gsl (u8s b) m L.length 1),(0,.str s)]/\L'=L++[.spare m 1]) aoN ⟨at0,0,[],false,true,rfl,hat,aoJ,hid ⟨rfl,hR,aoK,aoK⟩,rfl,rfl⟩ ?_;rintro _ _ _ ⟨i,m,b,bl,fb,rfl,hi,hm,hI,rfl,rfl⟩;have e1:=jM b;have e2:=hP b;by_cases hlt:i<s.length
 .have g1:(i:Int)<(s.length:Int):=aoJ;have g2:=alm i aoJ;obtain⟨c,hc⟩:=alj (s.getD i 0);have hdr:=ot hlt;rw[hc]at hdr;have hb2:=hI.o.2.1;rw[hdr]at hb2;by_cases hcc:c=44\/c=43;have hbl:bl=false:=by
   cases bl with
   |false=>rfl
   | true =>
     obtain⟨_,n1,n2⟩:=hI.o.2.2.1 rfl;rw[hc]at n1 n2;rcases hcc with e|e
     .exact absurd e n1
     .exact absurd e n2
  subst hbl;rw[ac6 hcc]at hb2;have h':=h.o;rw[<- hb2]at h';simp only[aaX]at h';rw[<- hdr,ank,show s.length-(s.length-i)=i by omega]at h';replace h':=hid h';have k1:((c.toNat:Int)=44)\/((c.toNat:Int)=43):=hcc.imp (bz c 44).2 (bz c 43).2;clear hb2 hcc hdr;rcases k1 with k1|k1;refine wk ?_;exact ab rfl h'.o;refine wk ?_;exact ab rfl h'.o
  .have k1:¬(c.toNat:Int)=44:=λe=>hcc (.inl ((bz c 44).1 e))
   have k2:¬(c.toNat:Int)=43:=λe=>hcc (.inr ((bz c 43).1 e))
   by_cases h92:c=92;subst h92;have g3:IntKind.i64.wrap ((i:Int)+1+1)=(i:Int)+1+1:=ad aoJ aoJ;have g4:IntKind.i64.wrap ((i:Int)+1+2)=(i:Int)+1+2:=ad aoJ aoJ;have t1:((i:Int)+1).toNat=i+1:=aoJ;have t3:((i:Int)+1+2).toNat=i+3:=aoJ;by_cases h1:i+1<s.length;have f1:(i:Int)+1<(s.length:Int):=aoJ;have f0:¬(i:Int)+1=(s.length:Int):=aoJ;obtain⟨d,hd⟩:=alj (s.getD (i+1) 0);have hdr1:=ot h1;rw[hd]at hdr1;rw[hdr1]at hb2;by_cases hsp:d∈rD;simp only[ow,ue hsp]at hb2;have f2:rD.contains d=true:=ame.2 hsp;clear hdr hdr1 hcc;replace hb2:=hid hb2;have kk1:=@hid _ @UL;have kk2:=@hid _ @Yn;have kk3:=@hid _ @Yo;refine wk ?_;rw[show u8s b++[AV.int IntKind.u8 (d.toNat:Int)]=u8s (b++[d])by simp[u8s]];exact aoO aoJ aoM ⟨i+1+1,m+1,b++[d],false,false,rfl,h1,aoJ,hid ⟨by simp[hI.o.1],hb2.o,aoK,aoK⟩,rfl,rfl⟩;have f2:rD.contains d=false:=by rw[<- am1,ame];exact hsp
   by_cases h2:i+2<s.length;have f3:¬(s.length:Int)<(i:Int)+1+2:=aoJ;have f4:(i:Int)+1<=(i:Int)+1+2:=aoJ;have f5:(i:Int)+1+2<=(s.length:Int):=aoJ;have f6:(0:Int)<=(i:Int)+1:=aoJ;obtain⟨e,he⟩:=alj (s.getD (i+2) 0);have hdr2:=ot h2;rw[he]at hdr2;rw[hdr2]at hb2;simp only[ow,Gf hsp]at hb2;have hcut:(s.drop (i+1)).take (i+3-(i+1))=[d,e]:=by rw[hdr1,hdr2,show i+3-(i+1)=2 by omega];rfl
   clear hdr hdr1 hdr2 hcc;replace hb2:=hid hb2;have kk1:=@hid _ @UL;have kk2:=@hid _ @Yn;have kk3:=@hid _ @Yo;refine wk ?_;refine adv ?_;rcases hx:RZ d e with _|x;rw[show Pr d e=.tup [.str [],.bool false]by simp only[Pr,hx]];have h':=h.o;rw[<- hb2.o,hx]at h';simp only[aaX]at h';replace h':=hid h';clear hx;refine aoR ?_;exact ab rfl h'.o;rw[show Pr d e=.tup [.str [x],.bool true]by simp only[Pr,hx]];have hb3:=hb2.o;rw[hx]at hb3;simp only at hb3;replace hb3:=hid hb3;have q1:[x].getD 0 0=x:=rfl;clear hx hb2;refine aoR ?_;rw[show u8s b++[AV.int IntKind.u8 (x.toNat:Int)]=u8s (b++[x])by simp[u8s]];exact aoO aoJ aoM ⟨i+1+2,m+1,b++[x],false,false,rfl,h2,aoJ,hid ⟨by simp[hI.o.1],hb3.o,aoK,aoK⟩,rfl,rfl⟩;have f3:(s.length:Int)<(i:Int)+1+2:=aoJ;have hnil:s.drop (i+1+1)=[]:=am4 aoJ;rw[hnil]at hb2;simp only[ow,KR hsp]at hb2;have h':=h.o;rw[<- hb2]at h';replace h':=hid h';clear hdr hdr1 hb2 hcc;have kk1:=@hid _ @UL;have kk2:=@hid _ @Yn;have kk3:=@hid _ @Yo;refine wk ?_;exact ab rfl h'.o;have f1:¬(i:Int)+1<(s.length:Int):=aoJ;have f0:(i:Int)+1=(s.length:Int):=aoJ;have f3:(s.length:Int)<(s.length:Int)+2:=aoJ;have f4:¬(s.length:Int)<(s.length:Int):=aoJ;have g5:IntKind.i64.wrap (s.length:Int)=(s.length:Int):=ad aoJ aoJ;have g6:IntKind.i64.wrap ((s.length:Int)+2)=(s.length:Int)+2:=ad aoJ aoJ;have hnil:s.drop (i+1)=[]:=am4 aoJ;rw[hnil]at hb2;simp only[ow,KT]at hb2;have h':=h.o;rw[<- hb2]at h';replace h':=hid h';clear hdr hb2 hcc;have kk1:=@hid _ @UL;have kk2:=@hid _ @Yn;have kk3:=@hid _ @Yo;refine wk ?_;exact ab rfl h'.o
   .have k3:¬(c.toNat:Int)=92:=λe=>h92 ((bz c 92).1 e)
    obtain⟨p1,hp1⟩:=alj (([34,59,60,62]:List UInt8).contains c);obtain⟨p2,hp2⟩:=alj (([32,35]:List UInt8).contains c);have hq1:p1=true↔c∈([34,59,60,62]:List UInt8):=(by rw[<- hp1,ame]);have hq2:p2=true↔(c=32\/c=35):=(by rw[<- hp2,ame];simp);replace hq1:=hid hq1;replace hq2:=hid hq2;have h0:=hid (bz c 0);have h32:=hid (bz c 32);have hfb:=hid hI.o.2.2.2;obtain⟨lst,hlst⟩:∃lst:Bool,decide (i+1<s.length->s.getD (i+1) 0=44\/s.getD (i+1) 0=43)=lst:=⟨_,rfl⟩;have hbad:=hid λ(e:c=0\/c∈([34,59,60,62]:List UInt8)\/(b=[]/\(c=32\/c=35)))=>(show R=none by rw[<- hb2,aeY hcc h92 e])
    have hend:=hid λ(e:lst=true/\c=32)=>(show R=none by by_cases eb:c=0\/c∈([34,59,60,62]:List UInt8)\/(b=[]/\(c=32\/c=35));exact hbad.o eb;rw[<- hb2,UY hcc h92 eb,e.2];have el:=of_decide_eq_true (hlst.trans e.1);simp only[decide_true];by_cases h1:i+1<s.length;rw[ot h1,aaW (el h1)];rw[am4 aoJ,ac8])
    have hgo:=hid λ(e:¬(c=0\/c∈([34,59,60,62]:List UInt8)\/(b=[]/\(c=32\/c=35))))=>(show ow (b++[c]) (decide (c=32)) (s.drop (i+1))=R by rw[<- hb2,UY hcc h92 e])
    replace hlst:=hid hlst;clear hdr hb2 hcc;have bad:R=none->Fin L (.tup [.str [],.int .i64 0,.bool false]) (L++[.spare m 1]) K:=λe=>ab rfl (by have h':=h.o;rwa[e]at h')
    replace bad:=hid bad;by_cases h1:i+1<s.length
    .have f1:(i:Int)+1<(s.length:Int):=aoJ;have f0:¬(i:Int)+1=(s.length:Int):=aoJ;have t1:((i:Int)+1).toNat=i+1:=aoJ;obtain⟨d,hd⟩:=alj (s.getD (i+1) 0);have hlst2:=hid (show lst=true↔((d.toNat:Int)=44\/(d.toNat:Int)=43)by rw[<- hlst.o,decide_eq_true_eq,hd,show(44:Int)=((44:UInt8).toNat:Int)from rfl,show(43:Int)=((43:UInt8).toNat:Int)from rfl,bz,bz];exact⟨λe=>e h1,λe _=>e⟩)
     repeat' first
      |refine bd ?_
      | (first|refine aV aoL ?_|refine aB aoL ?_|refine aE ?_|refine bJ ?_|refine bg (fun _=>?_)|refine ax ?_|refine aY ?_|refine oT aoK ?_|refine aU (oT aoK ⟨rfl,rfl⟩) (oT aoK ⟨rfl,rfl⟩) ?_|refine aA (oT aoK ⟨rfl,rfl⟩) ?_)
        refine sm ?_
      | (first|refine aO aoL ?_|refine aP ?_|refine aD ?_|refine aW ?_|refine bq (aw ?_))
        refine sl ?_
      |exact bh
      |first|apply bj|apply aR|apply bm|apply aS|apply bo|apply aT
      |refine aH ?_
      |refine aC ?_
      |first|refine aF rfl ?_|refine aG rfl ?_|refine ao rfl ?_ ?_|refine aJ rfl (λ_=>?_) (λ_=>?_)|refine aI rfl (λ_=>?_) (λ_=>?_)
      |((first|refine an (λ_=>?_) (λ_=>?_)|refine au (λ_=>?_) (λ_=>?_))<;>try refine sm ?_)
      |refine And.intro trivial ?_
      |refine And.intro aoJ ?_
      |refine aL rfl (λ_=>?_) (λ_=>?_)
      |refine And.intro ?_ ?_
     rename_i hx;refine bad.o ?_;simp only[al9,alx,decide_eq_true_eq]at hx;rcases hx with((e|e)|⟨e,e'⟩)|e;exact hbad.o (.inl (h0.o.1 e));exact hbad.o (.inr (.inl (hq1.o.1 e)));exact hbad.o (.inr (.inr ⟨hfb.o.1 e,hq2.o.1 e'⟩));exact hend.o ⟨hlst2.o.2 e.1,h32.o.1 e.2⟩;rename_i hx;rw[<- am1]at hx;simp only[al9,alx,decide_eq_true_eq]at hx;rw[show u8s b++[AV.int IntKind.u8 (c.toNat:Int)]=u8s (b++[c])by simp[u8s]];refine aoO aoJ aoM ⟨i+1,m+1,b++[c],decide (c=32),false,rfl,hlt,aoJ,hid ⟨by simp[hI.o.1],?_,λe=>?_,aoK⟩,rfl,rfl⟩;refine hgo.o λe=>hx ?_
     rcases e with e|e|⟨e,e'⟩;exact .inl (.inl (.inl (h0.o.2 e)));exact .inl (.inl (.inr (hq1.o.2 e)));exact .inl (.inr ⟨hfb.o.2 e,hq2.o.2 e'⟩);have e32:=h32.o.2 (of_decide_eq_true e);refine⟨h1,?_,?_⟩;intro e4;exact hx (.inr ⟨.inl (by rw[<- hd,e4];rfl),e32⟩);intro e4;exact hx (.inr ⟨.inr (by rw[<- hd,e4];rfl),e32⟩)
    .have f1:¬(i:Int)+1<(s.length:Int):=aoJ;have f0:(i:Int)+1=(s.length:Int):=aoJ;have g5:IntKind.i64.wrap (s.length:Int)=(s.length:Int):=ad aoJ aoJ;have hlst2:=hid (show lst=true by rw[<- hlst.o,decide_eq_true_eq];exact λe=>absurd e h1)
     repeat' first
      |refine bd ?_
      | (first|refine aV aoL ?_|refine aB aoL ?_|refine aE ?_|refine bJ ?_|refine bg (fun _=>?_)|refine ax ?_|refine aY ?_|refine oT aoK ?_|refine aU (oT aoK ⟨rfl,rfl⟩) (oT aoK ⟨rfl,rfl⟩) ?_|refine aA (oT aoK ⟨rfl,rfl⟩) ?_)
        refine sm ?_
      | (first|refine aO aoL ?_|refine aP ?_|refine aD ?_|refine aW ?_|refine bq (aw ?_))
        refine sl ?_
      |exact bh
      |first|apply bj|apply aR|apply bm|apply aS|apply bo|apply aT
      |refine aH ?_
      |refine aC ?_
      |first|refine aF rfl ?_|refine aG rfl ?_|refine ao rfl ?_ ?_|refine aJ rfl (λ_=>?_) (λ_=>?_)|refine aI rfl (λ_=>?_) (λ_=>?_)
      |((first|refine an (λ_=>?_) (λ_=>?_)|refine au (λ_=>?_) (λ_=>?_))<;>try refine sm ?_)
      |refine And.intro trivial ?_
      |refine And.intro aoJ ?_
      |refine aL rfl (λ_=>?_) (λ_=>?_)
      |refine And.intro ?_ ?_
     rename_i hx;refine bad.o ?_;simp only[al9,alx,decide_eq_true_eq]at hx;rcases hx with((e|e)|⟨e,e'⟩)|e;exact hbad.o (.inl (h0.o.1 e));exact hbad.o (.inr (.inl (hq1.o.1 e)));exact hbad.o (.inr (.inr ⟨hfb.o.1 e,hq2.o.1 e'⟩));exact hend.o ⟨hlst2.o,h32.o.1 e⟩;rename_i hx;rw[<- am1]at hx;simp only[al9,alx,decide_eq_true_eq]at hx;rw[show u8s b++[AV.int IntKind.u8 (c.toNat:Int)]=u8s (b++[c])by simp[u8s]];refine aoO aoJ aoM ⟨i+1,m+1,b++[c],decide (c=32),false,rfl,hlt,aoJ,hid ⟨by simp[hI.o.1],?_,λe=>?_,aoK⟩,rfl,rfl⟩;refine hgo.o λe=>hx ?_
     rcases e with e|e|⟨e,e'⟩;exact .inl (.inl (.inl (h0.o.2 e)));exact .inl (.inl (.inr (hq1.o.2 e)));exact .inl (.inr ⟨hfb.o.2 e,hq2.o.2 e'⟩);have e32:=h32.o.2 (of_decide_eq_true e);exact absurd (.inr e32) hx
 have hke:i=s.length:=aoJ;subst hke;have g1:¬(s.length:Int)<(s.length:Int):=aoJ;have hbl:bl=false:=by
  cases bl with
  |false=>rfl
  |true=>exact absurd (hI.o.2.2.1 rfl).1 aoJ
 subst hbl;have h':=h.o;rw[<- hI.o.2.1,al6,aeX]at h';simp only[aaX,amg,Nat.sub_zero]at h';replace h':=hid h';refine wk ?_;exact ab rfl h'.o
theorem aeZ:∀(n:Nat){s b:List UInt8}{bl:Bool}{v r:List UInt8}{ok:Bool},s.length<=n->gf b bl s=some (v,r,ok)->r <:+ s:=by
 intro n;induction n with
 | zero =>
   intro s b bl v r ok hn h;obtain rfl:=al1.1 (Nat.le_zero.1 hn);rw[oQ]at h;cases h;exact List.suffix_refl _
 | succ n ih =>
   intro s b bl v r ok hn h;cases s with
   |nil=>rw[oQ]at h;cases h;exact List.suffix_refl _
   | cons c s =>
     simp only[alA]at hn;by_cases hc:c=44\/c=43
     .rw[rq hc]at h;cases h;exact List.suffix_refl _
     by_cases h92:c=92
     .subst h92;cases s with
      |nil=>rw[KT]at h;cases h
      | cons d s =>
        by_cases hd:d∈rD
        .rw[ue hd]at h;exact(ih (by simp at hn;omega) h).trans ((anP _ _).trans (anP _ _))
        .cases s with
         |nil=>rw[KR hd]at h;cases h
         | cons e s =>
           rw[Gf hd]at h;split at h
           .cases h
           .exact(ih (by simp at hn;omega) h).trans ((anP _ _).trans ((anP _ _).trans (anP _ _)))
     .rw[ox hc h92]at h;split at h
      .cases h
      .exact(ih aoJ h).trans (anP _ _)
theorem ac7{v r:List UInt8}(h:ow [] false s=some (v,r)):gf [] false s=some (v,r,true):=by unfold ow at h;split at h;rename_i e;cases h;exact e;cases h
theorem Xp(f:Nat)(out:List Rdn)(now:Rdn)(s:List UInt8):sA (f+1) out now s=if out.length=32\/now.length=8 then([],9)else match mu s with
  |none=>([],4)
  | some (typ,rest)=>if gh typ=false then ([],4) else if mH now typ=true then ([],21) else match ow [] false rest with
    |none=>([],4)
    | some (v,r2)=>match r2 with
      |[]=>(out++[now++[(typ,v)]],0)
      |c::s'=>if c=44 then sA f (out++[now++[(typ,v)]]) [] s' else sA f out (now++[(typ,v)]) s':=by
 rw[sA];congr 1;rcases mu s with _|⟨typ,rest⟩;rfl;simp only;congr 1;congr 1;unfold ow;rcases gf [] false rest with _|⟨v,r2,ok⟩;rfl;cases ok<;>rfl
theorem aer{i j:Nat}(hij:i<=j)(hj:j<s.length)(hc:s.getD j 0≠61)(h:mu (s.drop i)=(mu (s.drop j)).map λp=>((s.drop i).take (j-i)++p.1,p.2)):
  mu (s.drop i)=(mu (s.drop (j+1))).map λp=>((s.drop i).take (j+1-i)++p.1,p.2):=by
 rw[h,ot hj];simp only[mu,if_neg hc];have ht:(s.drop i).take (j+1-i)=(s.drop i).take (j-i)++[s.getD j 0]:=by rw[show j+1-i=(j-i)+1 by omega,alN (by simp;omega)];congr 2;simp[show i+(j-i)=j by omega,hj]
 rw[ht];rcases mu (s.drop (j+1))with _|⟨a,b⟩;rfl;simp
theorem aid{r:Rdn}{typ:List UInt8}{i n:Nat}(hr:r.length=n)(hn:n<=8)(h1:∀a∈r,a.1.length<=32)(h2:typ.length<=4096)(h:K (.bool (mH r typ)) L):
  alo 165 [.gsl (bb r) n i 2,.str typ] L K:=by
 subst hr;exact eY (by simpa only[AV.frzL,AV.frz,jH]using afq (cap:=none) aoJ (λa ha=>by have:=h1 a ha;omega) aoJ h)
theorem adu{z:Int}{at0:Nat}(hz:z=(at0:Int))(hs:s.length<=100000)(hat:at0<=s.length)(h:K (aaX s.length (ow [] false (s.drop at0))) L):alo 166 [.str s,.int .i64 z] L K:=by subst hz;exact afh hs hat h
theorem afk(h:K (abf (xh s)) L):alo 131 [.str s] L K:=by
 refine ac Tc (by simp[tV]) ?_;simp only[tV,am];by_cases h1:4096<s.length;have f1:(4096:Int)<(s.length:Int):=aoJ;rw[xh,if_pos h1]at h;replace h:=hid h;clear h1;refine wk ?_;exact bu (aa h.o);have f1:¬(4096:Int)<(s.length:Int):=aoJ;rw[xh,if_neg h1]at h;have hs:=hid (show s.length<=4096 by omega);clear h1;obtain⟨R,hR⟩:=alj ((if s=[]then([],0)else sA (s.length+1) [] [] s));rw[hR]at h;replace h:=hid h;replace hR:=hid hR;refine wk ?_;refine bF (l:=[]) (n:=0) 4 1 rfl (alU 1).symm ?_;refine ah (λn T' L'=>∃(f m i:Nat) (out:List Rdn) (X:List Blk),f=n/\i<=s.length/\m<=32/\Hid (s≠[]->s.length-i<f/\sA f out [] (s.drop i)=R)/\Hid (s=[]->out=[])/\Hid (m=out.length)/\L'[L.length]?=some (.spare m 1)/\T'=[(5,.int .i64 (i:Int)),(4,.gsl (out.map cL) m L.length 1),(0,.str s)]/\L'=L++X) aoN ⟨s.length+1,0,0,[],[.spare 0 1],rfl,alw _,aoJ,hid (λe=>⟨aoJ,by have:=hR.o;rw[if_neg e]at this;simpa using this⟩),hid (λ_=>rfl),hid rfl,aoK,rfl,rfl⟩ ?_;rintro _ _ _ ⟨f,m,i,out,X,rfl,hi,hm32,hI,hI0,hm,ho,rfl,rfl⟩;by_cases h0:s=[];have h':=h.o;rw[<- hR.o,if_pos h0]at h';replace h':=hid h';have f2:¬(0:Int)<(s.length:Int):=by rw[h0];simp
 clear h0;refine wk ?_;exact bu (ab rfl h'.o);obtain⟨hf,hp⟩:=hI.o h0;have f2:(0:Int)<(s.length:Int):=by have:=amH.2 h0;omega
 clear hI hI0 hR h0;have hB:L.length<(L++X).length:=(alq.1 ho).1;by_cases hlim:m=32;obtain⟨f,rfl⟩:∃g,f=g+1:=⟨f-1,aoJ⟩;rw[Xp,if_pos (.inl (by rw[<- hm.o];exact hlim))]at hp;have h':=h.o;rw[<- hp]at h';replace h':=hid h';have k:(m:Int)=32:=aoJ;clear hp hlim hf;refine wk ?_;exact gD h'.o;have k1:¬(m:Int)=32:=aoJ;replace hp:=hid hp;refine wk ?_;refine ah (λn T' L'=>∃(g i:Nat) (now:Rdn) (v:AV) (Z:List Blk),g=n/\g<=f/\i<=s.length/\now.length<=8/\Hid (s.length-i<g/\sA g out now (s.drop i)=R/\(∀a∈now,a.1.length<=32)/\akl L.length now v L')/\L'[L.length]?=some (.spare m 1)/\X.length<=Z.length/\T'=[(6,v),(5,.int .i64 (i:Int)),(4,.gsl (out.map cL) m L.length 1),(0,.str s)]/\L'=L++Z) aoN ⟨f,i,[],_,X,rfl,alr _,hi,aoK,hid ⟨hf,hp.o,aoK,.inl ⟨rfl,rfl,rfl⟩⟩,ho,alr _,rfl,rfl⟩ ?_;clear hp hf ho hi;rintro _ _ _ ⟨g,i,now,v,X1,rfl,hgf,hi,hn8,hI,ho,hXZ,rfl,rfl⟩;obtain⟨hf,hp,ht,hv⟩:=hI.o;clear hI;obtain⟨g,rfl⟩:∃g',g=g'+1:=⟨g-1,aoJ⟩;have hB1:L.length<(L++X1).length:=(alq.1 ho).1;refine Zd 6 2 L.length rfl hB1 hv λp Y hBi hpi=>?_
 rw[alI]at hpi⊢;have ho2:(L++(X1++Y))[L.length]?=some (.spare m 1):=by rw[<- alI,aly hB1];exact ho
 have hXZ2:X.length<=(X1++Y).length:=by simp;omega
 generalize X1++Y=Z at hpi ho2 hXZ2⊢;clear ho hB1 hv hXZ X1 Y;replace hXZ2:=hid hXZ2;have hpl:=(alq.1 hpi).1;have hol:=(alq.1 ho2).1;have hz:p-L.length≠0:=aoJ;obtain⟨c,hc⟩:∃c:Nat,now.length=c:=⟨_,rfl⟩;rw[Xp]at hp;rw[hc]at hp hpi hn8⊢;rw[alJ]at hpl hol;replace hz:=hid hz;replace hpl:=hid hpl;replace hol:=hid hol;by_cases hlim2:c=8;rw[if_pos (.inr hlim2)]at hp;have h':=h.o;rw[<- hp]at h';replace h':=hid h';have k:(c:Int)=8:=aoJ;clear hp hlim2;refine wk ?_;exact gD h'.o;rw[if_neg (by rw[<- hm.o];omega)]at hp;have k2:¬(c:Int)=8:=aoJ;replace hp:=hid hp;replace ht:=hid ht;replace hf:=hid hf;refine wk ?_;refine ah (λn T' L'=>∃j:Nat,n=s.length-j/\i<=j/\j<=s.length/\Hid (mu (s.drop i)=(mu (s.drop j)).map λp=>((s.drop i).take (j-i)++p.1,p.2))/\T'=[(7,.int .i64 (j:Int)),(6,.gsl (bb now) c p 2),(5,.int .i64 (i:Int)),(4,.gsl (out.map cL) m L.length 1),(0,.str s)]/\L'=L++Z) aoN ⟨i,rfl,alr _,hi,hid (by rcases mu (s.drop i)with _|⟨a,b⟩<;>simp),rfl,rfl⟩ ?_;rintro _ _ _ ⟨j,rfl,hij,hj,hcut,rfl,rfl⟩;by_cases hjl:j<s.length;rotate_left;have hje:j=s.length:=aoJ;subst hje;have g1:¬(s.length:Int)<(s.length:Int):=aoJ;have e:=hcut.o;rw[al6]at e;simp only[mu,alX]at e;have h':=h.o;rw[<- hp.o,e]at h';simp only at h';replace h':=hid h';clear e;refine wk ?_;exact gD h'.o;have g1:(j:Int)<(s.length:Int):=aoJ;have g2:=alm j aoJ;obtain⟨x,hx⟩:=alj (s.getD j 0);by_cases h61:x=61;rotate_left;have g3:¬(x.toNat:Int)=61:=λe=>h61 ((bz x 61).1 e)
 have hcut':=hid (aer hij hjl (by rw[hx];exact h61) hcut.o);clear h61;refine wk ?_;exact aoO aoJ aoM ⟨j+1,rfl,aoJ,hjl,hcut',rfl,rfl⟩;subst h61;have g3:((61:UInt8).toNat:Int)=61:=rfl;have hcutS:mu (s.drop i)=some ((s.drop i).take (j-i),s.drop (j+1)):=by rw[hcut.o,ot hjl,hx];simp[mu]
 clear hcut;obtain⟨typ,htyp⟩:=alj ((s.drop i).take (j-i));have htl:typ.length<=4096:=by rw[<- htyp];have:=hs.o;simp;omega
 have htl3:(typ.length:Int)<=100000:=aoJ;rw[htyp]at hcutS;have hp2:=hp.o;rw[hcutS]at hp2;simp only at hp2;have g4:¬(j:Int)=(s.length:Int):=aoJ;have g5:(i:Int)<=(j:Int):=aoJ;have g6:(j:Int)<=(s.length:Int):=aoJ;replace hp2:=hid hp2;clear hcutS hp;cases hty:gh typ with
 | false =>
   have h':=h.o;rw[<- hp2.o,if_pos hty]at h';replace h':=hid h';have kk1:=@aoQ _ _ _ _ (P4 htl3);refine wk ?_;exact gD h'.o
 |true =>
 have hp3:=hp2.o;rw[if_neg (by rw[hty];simp)]at hp3;replace hp3:=hid hp3;clear hp2;have hpn:=hid (show p≠L.length+Z.length by have:=hpl.o;omega);have b1:∀b,(L++(Z++[b]))[p]?=some (.spare c 2):=λb=>by rw[<- alI,aly (alq.1 hpi).1];exact hpi
 have b2:∀A b,(L++(Z++[b])).set p A=L++(Z.set (p-L.length) A++[b]):=λA b=>by rw[amd _ _ aoJ,amh _ _ (by have:=hpl.o;omega)]
 have b3:∀A b,(L++(Z.set (p-L.length) A++[b]))[L.length]?=some (.spare m 1):=λA b=>by rw[<- b2,alP aoJ,<- alI,aly (alq.1 ho2).1];exact ho2
 have b4:∀A b,(L++(Z.set (p-L.length) A++[b]))[p]?=some A:=λA b=>by rw[<- b2,alO,if_pos rfl,if_pos (by have:=hpl.o;simp;omega)]
 have hsl:(i:Int).toNat=i:=aoJ;have kk1:=@aoQ _ _ _ _ (P4 htl3);refine wk ?_;refine aid hc hn8 ht.o aoJ ?_;cases hha:mH now typ with
 | true =>
   have h':=h.o;rw[<- hp3.o,if_pos hha]at h';replace h':=hid h';refine aoR ?_;exact gD h'.o
 |false =>
 have hp4:=hp3.o;rw[if_neg (by rw[hha];simp)]at hp4;replace hp4:=hid hp4;clear hp3;refine aoR ?_;refine adu (at0:=j+1) aoJ (by have:=hs.o;omega) hjl ?_;rcases hvl:ow [] false (s.drop (j+1))with _|⟨w,r2⟩;have h':=h.o;rw[<- hp4.o,hvl]at h';simp only at h';replace h':=hid h';simp only[aaX];refine aoR ?_;exact gD h'.o;have hp5:=hp4.o;rw[hvl]at hp5;simp only at hp5;have hsuf:=aeZ _ (alr _) (ac7 hvl);have hsd:r2=s.drop (s.length-r2.length):=List.suffix_iff_eq_drop.1 (hsuf.trans (List.drop_suffix _ _));have hl2:r2.length<=s.length-(j+1):=by have:=hsuf.length_le;simpa using this
 obtain⟨t,ht0⟩:=alj (s.length-r2.length);rw[ht0]at hsd;have htj:j<t:=aoJ;have hts:t<=s.length:=aoJ;simp only[aaX,ht0];replace hp5:=hid hp5;clear hp4 hvl hsuf;replace hsd:=hid hsd;have q1:(c+1)*32<=140737488355328:=aoJ;have q2:c+1<=140737488355328:=aoJ;have q3:(m+1)*24<=140737488355328:=aoJ;have q4:m+1<=140737488355328:=aoJ;have e1:bb now++[AV.str typ,AV.str w]=bb (now++[(typ,w)]):=(Yd _ _ _).symm;have e2:out.map cL++[AV.sl (AV.frzL (bb now++[AV.str typ,AV.str w])) (c+1) none]=(out++[now++[(typ,w)]]).map cL:=by rw[e1,jH,alW];simp[hc]
 have e3:(out++[now++[(typ,w)]]).length=m+1:=by simp[hm.o]
 have e4:(now++[(typ,w)]).length=c+1:=by simp[hc]
 have e5:∀a∈now++[(typ,w)],a.1.length<=32:=λa ha=>by rcases alv.1 ha with h|h;exact ht.o a h;rw[alM.1 h];exact uf hty
 have s4:∀(W:List Blk) A,(L++W).set L.length A=L++W.set 0 A:=λW A=>by rw[amd _ _ (alr _),amK]
 have g7:IntKind.i64.wrap ((t:Int)+1)=(t:Int)+1:=ad (by have:=hs.o;omega) (by have:=hs.o;omega);replace e1:=hid e1;replace e2:=hid e2;replace e3:=hid e3;replace e4:=hid e4;replace e5:=hid e5;cases r2 with
 | nil =>
   have h':=h.o;rw[<- hp5.o]at h';simp only at h';replace h':=hid h';have hte:t=s.length:=(by simp at ht0;omega);subst hte;refine aoR ?_;rw[e2.o];refine bu (ab ?_ ?_)
   .simp only[AV.frz,AV.frzL,uk,AV.refs,AV.refsL,KZ,amr]
   .simp only[AV.frz,AV.frzL,uk];have:=h'.o;simp only[abf,e3.o]at this;exact this
 | cons x s' =>
   simp only at hp5;have htl2:t<s.length:=(by simp at ht0 hl2;omega);have k3:¬(t:Int)=(s.length:Int):=aoJ;have k4:(t:Int)<(s.length:Int):=aoJ;have hxd:=hsd.o;rw[ot htl2]at hxd;obtain⟨hx1,hx2⟩:=List.cons.inj hxd;have hx3:=hx1.symm;replace hx2:=hid hx2;clear hxd hx1;by_cases hx:x=44
   .subst hx;refine aoR ?_;rw[e2.o];refine aoO ?_ (CutS (b:=?_)) ⟨g,m+1,t+1,out++[now++[(typ,w)]],_,rfl,htl2,?_,hid λ_=>⟨?_,?_⟩,hid λe=>?_,hid e3.o.symm,?_,rfl,rfl⟩
    .omega
    .simp
    .have:=hm.o;omega
    .have:=hf.o;omega
    .rw[<- hx2.o,<- hp5.o,if_pos rfl]
    .rw[e]at htl2;simp at htl2
    .rw[<- s4,alO,if_pos rfl,if_pos aoK]
   .have q6:¬(x.toNat:Int)=44:=λe=>hx ((bz x 44).1 e)
    refine aoR ?_;rw[e1.o];refine aoO ?_ (CutS (b:=?_)) ⟨g,t+1,now++[(typ,w)],_,_,rfl,?_,htl2,?_,hid ⟨?_,?_,e5.o,.inr ⟨p,hBi,by rw[e4.o],by rw[e4.o];exact b4 _ _⟩⟩,b3 _ _,?_,rfl,rfl⟩
    .omega
    .have:=hXZ2.o;simp;omega
    .omega
    .rw[e4.o];omega
    .have:=hf.o;omega
    .rw[<- hx2.o,<- hp5.o,if_neg hx]
    .have:=hXZ2.o;simp;omega
end Go.Proofs.YtcmfcpjnhephaaaGreatDoor.Av
