/- Joined texts of the walk, made small by a program. -/
import Derived.Test.YtcmfcpjnhephaaaGreatDoorPk14
import Derived.Test.YtcmfcpjnhephaaaGreatDoorPk9
import Derived.Test.YtcmfcpjnhephaaaGreatDoorPk10
import Derived.Test.YtcmfcpjnhephaaaGreatDoorPk12
import Derived.Test.YtcmfcpjnhephaaaGreatDoorPk11
import Derived.Test.YtcmfcpjnhephaaaGreatDoorPk7
import Derived.Test.YtcmfcpjnhephaaaGreatDoorPk13
import Derived.Test.YtcmfcpjnhephaaaGreatDoorPk4
import Derived.Test.YtcmfcpjnhephaaaGreatDoorRows
import Derived.KernelRfl
import Derived.Test.YtcmfcpjnhephaaaGreatDoorPk5
set_option linter.unusedSimpArgs false
set_option linter.unusedVariables false
namespace Go.Proofs.YtcmfcpjnhephaaaGreatDoor.Av
open Go
variable {L:List Blk}{K:alc}
set_option maxHeartbeats 8000000
set_option maxRecDepth 100000
theorem adm{l:List Pc}{cap:Option Nat}(hn:l.length<=1100000)(h:K (.tup [.int .i64 (if qX l=true then 0 else 4),.int .i64 1]) L):
  alb 94 [ait l cap,.int .i64 1,.int .i64 0] L K:=by
 have hty:eV [97]=true:=by decide
 replace h:=hid h;refine ala S6 ?_;refine ra aoA ?_;rw[hty];refine aoH ?_;obtain⟨M,hM⟩:=ak7 (L++[Blk.cells [.int .i64 4,.str [97],.str [],.sl (ir l) l.length cap,.sl [] 0 (some 0)]]);have hg:∀X:List Blk,(M++X)[L.length]?=some (.cells [.int .i64 4,.str [97],.str [],.sl (ir l) l.length cap,.sl [] 0 (some 0)]):=λX=>by rw[<- hM,alv,alH (ale _),amz];rfl
 have hend:∀(X:List Blk),M++X=L++(Blk.cells [.int .i64 4,.str [97],.str [],.sl (ir l) l.length cap,.sl [] 0 (some 0)]::X):=λX=>by rw[<- hM,alv];rfl
 replace hend:=hid hend;rw[hM];have hMl:L.length<=M.length:=by rw[<- hM];simp
 clear hM;refine ah (λn T' L'=>∃(i:Nat) (b:Bool) (Z:List Blk),n=l.length-i/\i<=l.length/\Hid ((b&&Pu l.length i (l.drop i))=qX l)/\T'=[(86,.int .i64 (i:Int)),(85,.int .i64 l.length),(84,.sl (ir l) l.length cap),(11,.bool b),(2,.int .i64 1),(7,.int .i64 0),(6,.int .i64 0),(3,.ptr L.length 0)]/\L'=M++Z) aoD ⟨0,_,[],rfl,ali _,hid (by rw[qX,Bool.and_comm];simp),rfl,aoA⟩ ?_;rintro _ _ _ ⟨i,b,Z,rfl,hi,hI,rfl,rfl⟩;by_cases hlt:i<l.length;rotate_left;have hke:i=l.length:=aoz;subst hke;have g1:¬(l.length:Int)<(l.length:Int):=aoz;have hz:=hI.o;rw[alY,Pu,anh]at hz;have h':=h.o;rw[<- hz]at h';clear hz hI;cases b with
 | true =>
   replace h':=hid h';refine wk ?_;rw[hend.o];exact ae rfl h'.o
 | false =>
   replace h':=hid h';refine wk ?_;rw[hend.o];exact ae rfl h'.o
 have g1:(i:Int)<(l.length:Int):=aoz;have g2:=ak9 i aoz;have e3:=Md hlt;have e4:i*2+2<=(ir l).length:=by rw[K9];omega
 obtain⟨⟨x,t⟩,ha⟩:∃a,l.getD i (0,[])=a:=⟨_,rfl⟩;have hdr:l.drop i=(x,t)::l.drop (i+1):=by rw[al1 hlt,<- ha];simp[hlt]
 rw[ha]at e3;simp only[pcA]at e3;have hI2:=hI.o;rw[hdr,Pu,<- anW]at hI2;clear hdr ha hI;replace hI2:=hid hI2;refine wk ?_;refine aoE aoz aoC ⟨i+1,_,_,rfl,hlt,hid ?_,rfl,rfl⟩;rw[<- hI2.o];have hb:(!decide (t=[])&&decide ((x=1\/x=0/\(i:Int)=0)\/x=2/\(i:Int)+1=(l.length:Int))) = !Xr l.length i (x,t):=by by_cases h0:t=[];simp[Xr,h0];rw[decide_eq_false h0,Xr,<- decide_not,amX,al0,decide_eq_decide];simp only[h0,false_or];omega
 rw[anW b,hb]
theorem adn{l:List Pc}{cap:Option Nat}(hn:l.length<=1100000)(h:K (.int .i64 (if qX l=true then 0 else 4)) L):
  alb 46 [ait l cap] L K:=by
 obtain⟨r,hr⟩:∃r:Int,(if qX l=true then 0 else 4)=r:=⟨_,rfl⟩;rw[hr]at h;replace h:=hid h;refine ala S8 ?_;refine adm hn ?_;rw[hr];refine aoH ?_;exact ae rfl h.o
set_option maxRecDepth 1000000
theorem abC:an.Nodup:=of_decide_eq_true aoB
theorem acw{n:List UInt8}(hn:aR n){ty:Typ}(ht:eF an n=some ty):∃k:Nat,k<an.length/\an.getD k lI=ty/\∀{c:Option Nat}{L:List Blk}{K:alc},K (.int .i64 k) L->alb 12 [.sl (bU an) an.length c,.str n] L K:=by
 have hm:=am6 ht;obtain⟨k,hk,e⟩:=aml.1 hm;have e2:an.getD k lI=ty:=by rw[alD,alu hk];exact e
 refine⟨k,hk,e2,λ{c L K} q=>aiJ gp.1 gp.2.1 hn (λe=>by rw[ht]at e;cases e) λk' hk' e'=>?_⟩;have:k'=k:=by
  rw[ht]at e';have h3:=Option.some.inj e';rw[alD,alu hk']at h3;have hne:∀a b (ha:a<an.length) (hb:b<an.length),a<b->an[a]≠an[b]:=λa b ha hb hab=>anR.1 abC a b ha hb hab
  have h4:an[k']=an[k]:=(by rw[e];exact h3.symm);rcases an0 k' k with q|q|q;exact absurd h4 (hne _ _ hk' hk q);exact q;exact absurd h4.symm (hne _ _ hk hk' q)
 rw[this];exact q
theorem TmS.typ{tm:TMp}(h:TmS an tm){n:List UInt8}{ty:Typ}(hg:bB tm (af n)=some ty):eF an n=some ty:=by obtain⟨c,hc⟩:=f9 hg;obtain⟨m,h1,h2,_⟩:=h.ty _ hc;simp only at h1 h2;rw[<- h1];unfold eF;rw[h2]
structure ak6(n v:List UInt8)(ps:List Pc):Prop where
 n:aR n
 len:(ps.length:Int)<=9223372036854775807
abbrev GV:List AV:=[.sl (bU an) an.length none,.sl Lt 9 none]
theorem TmS.keys{tm:TMp}(h:TmS an tm):Uh an tm:=by refine⟨h.ok.keys,λf hf=>?_⟩;obtain⟨e,he,rfl⟩:=alg.1 hf;obtain⟨n,h1,h2,_⟩:=h.ty e he;refine alg.2 ⟨e.2.1,am6 h1,?_⟩;have:=anG h1;rw[<- h2];simpa using this
theorem agp{tm:TMp}{f:List UInt8}:(tm.map (·.1)).contains f=(bB tm f).isSome:=by
 cases h:bB tm f with
 |none=>simpa using rn.1 h
 | some ty =>
   obtain⟨b,hb⟩:=f9 h;simp only[amu,alQ];exact alg.2 ⟨_,hb,rfl⟩
theorem Ql{L:List Blk}{rt:Nat}{tm:TMp}{l:List aQ}(hT:TmS an tm)(hD:LR L rt GV tm l){n:List UInt8}(hn:aR n){K:alc}(h:K (.bool (bB tm (af n)).isSome) L):alb 63 [.ptr rt 0,.str n] L K:=by
 obtain⟨k2,hL⟩:=hD;have hlen:=hT.keys.len;have hcl:=gp.1;obtain⟨f,hf⟩:=ak7 (af n);rw[hf]at h;have kk1:Hid (Ctr Tryz.prog 39 [.str n] (.str f)):=@hid _ (by intro L K q;exact bQ hn (by rw[hf];exact q));obtain⟨b,hb⟩:=ak7 ((bB tm f).isSome);rw[hb]at h;have kk2:Hid (Ctr Tryz.prog 82 [.sl ((tm.map (·.1)).map AV.str) tm.length none,.str f] (.bool b)):=@hid _ (λ{L K} q=>by have:=acq (xs:=tm.map (·.1)) (cap:=none) (s:=f) (by simp;omega) (L:=L) (K:=K) (by rw[agp,hb];exact q);rw[alU]at this;exact this)
 obtain⟨NS,hNS⟩:=ak7 ((tm.map (·.1)).map AV.str);obtain⟨TS,hTS⟩:=ak7 (bU an);obtain⟨tl,htl⟩:=ak7 (an.length);simp only[GV,hTS,htl,hNS,alN,alL]at hL;rw[hNS]at kk2;replace h:=hid h;clear hNS hTS htl hb hf hT hcl hlen;refine ala Ly ?_;exact aa h.o
theorem eW(p:Nat->Bool):∀l:List Int,AV.refsL p (l.map (AV.int .i64))=true
 |[]=>rfl
 |x::l=>by simp only[alr,AV.refsL,AV.refs,eW p l,alX]
theorem afc{L:List Blk}{rt:Nat}{tm:TMp}{l:List aQ}(hT:TmS an tm)(hD:LR L rt GV tm l)(hl:l.length<=1000)(he:∀e∈l,InA an e.2/\p8 e.2){n v:List UInt8}(hn:aR n){K:alc}(h:K (iq ((l.filter λe=>(bB tm (af n)).isSome&&VK an e.2 n v).map (·.1))) L):alb 62 [.ptr rt 0,.str n,.str v] L K:=by
 have hDW:∀W,LR (L++W) rt GV tm l:=λW=>by obtain⟨k2,q⟩:=hD;exact⟨k2,ak8 q⟩
 obtain⟨b,hb⟩:=ak7 ((bB tm (af n)).isSome);rw[hb]at h;have kH:Hid (∀{W:List Blk}{K:alc},K (.bool b) (L++W)->alb 63 [.ptr rt 0,.str n] (L++W) K):=@hid _ (λ{W K} q=>Ql hT (hDW W) hn (by rw[hb];exact q));obtain⟨k2,hL0⟩:=hD;have hrl:=(ald.1 hL0).1;obtain⟨NS,hNS⟩:=ak7 ((tm.map (·.1)).map AV.str);have hts:=gp;obtain⟨TS,hTS⟩:=ak7 (bU an);obtain⟨tl,htl⟩:=ak7 (an.length);obtain⟨CC,hCC⟩:=ak7 (Lt);have kP:∀av:List Atr,InA an av/\p8 av->Hid (Ctr Tryz.prog 112 [.agg [.sl TS tl none,.sl CC 9 none],.sl (bp av) av.length none,.str n,.str v] (.bool (VK an av n v))):=λav ha=>@hid _ (λ{L K} q=>by rw[<- hTS,<- htl,<- hCC];exact ahW hts (by have:=ha.2.len;omega) (λa h=>⟨(ha.2.sz a h).1,by have:=(ha.2.sz a h).2;omega⟩) hn q)
 have hL:L[rt]?=some (.cells [.sl TS tl none,.sl CC 9 none,.sl NS tm.length none,.sl (bM l) l.length k2]):=by simpa only[GV,hTS,htl,hNS,hCC,alN,alL]using hL0
 clear hDW hL0 hNS hTS htl hCC hT hts;have ar:∀X,(L++X)[rt]?=some (.cells [.sl TS tl none,.sl CC 9 none,.sl NS tm.length none,.sl (bM l) l.length k2]):=λX=>by rw[alm hrl];exact hL
 have hel:=rp l;have hat:=hid (λk (q:k<l.length)=>rS q);obtain⟨Q,hQ⟩:∃Q:aQ->Bool,(λe:aQ=>b&&VK an e.2 n v)=Q:=⟨_,rfl⟩;have hQv:∀e:aQ,Q e=(b&&VK an e.2 n v):=λe=>by rw[<- hQ]
 rw[hQ]at h;have hat2:=hid (λk (q:k<l.length)=>show(l.take (k+1)).filter Q=(l.take k).filter Q++(if Q (l.getD k (0,[]))=true then[l.getD k (0,[])]else[])by rw[aly q,am5];congr 1;by_cases e:Q l[k]=true<;>simp[q,e])
 obtain⟨ES,hES⟩:=ak7 (bM l);rw[hES]at ar hel hat hL;replace h:=hid h;replace hQv:=hid hQv;clear hES hQ;refine ala yF ?_;refine bt (l:=[]) (n:=0) 7 1 rfl (alG 1).symm ?_;refine ah (λm T' L'=>∃(i:Nat) (C:List AV) (k:Nat) (X:List Blk),m=l.length-i/\i<=l.length/\Hid (C=(((l.take i).filter Q).map (·.1)).map (AV.int .i64)/\k=((l.take i).filter Q).length)/\T'=[(15,.int .i64 (i:Int)),(14,.int .i64 l.length),(13,.sl ES l.length k2),(7,.gsl C k L.length 1),(0,.ptr rt 0),(1,.str n),(2,.str v)]/\L'=L++(.spare k 1::X)) aoD ⟨0,[],0,[],rfl,ali _,hid ⟨rfl,rfl⟩,rfl,aoA⟩ ?_;clear hL;rintro _ _ _ ⟨i,C,k,X,rfl,hi,hC,rfl,rfl⟩;by_cases hlt:i<l.length;have j1:(i:Int)<(l.length:Int):=aoz;have j2:=ak9 i aoz;have e3:=hat.o i hlt;have e4:i*2+2<=ES.length:=by rw[hel];omega
 have e5:=hat2.o i hlt;obtain⟨⟨x,av⟩,hx⟩:∃e,l.getD i (0,[])=e:=⟨_,rfl⟩;have hmem:(x,av)∈l:=by rw[<- hx];simp[hlt]
 have hav:=he _ hmem;rw[hx]at e3 e5;simp only[R8]at e3;have hq:=hQv.o (x,av);simp only at hq;have hkb:k<=1000:=by rw[hC.o.2];have:=amQ Q (l.take i);rw[amJ]at this;omega
 have kP1:=@kP av hav;have kk1:=@kH;cases hb':b with
 | false =>
   rw[hb']at hq kk1;simp only[amA]at hq;rw[hq,if_neg aoA,alJ]at e5;have hC2:=hid (show C=(((l.take (i+1)).filter Q).map (·.1)).map (AV.int .i64)/\k=((l.take (i+1)).filter Q).length by rw[e5];exact hC.o);clear hx e5 hmem hav kP1 kP kH hq hQv;refine wk ?_;exact aoE aoz aoC ⟨i+1,_,_,_,rfl,hlt,hC2,rfl,rfl⟩
 | true =>
   rw[hb']at hq kk1;simp only[al0]at hq;obtain⟨pb,hpb0⟩:=ak7 (VK an av n v);rw[hpb0]at hq kP1;have kk2:=@kP1;clear hpb0;cases hpb:pb with
   | false =>
     rw[hpb]at hq kk2;rw[hq,if_neg aoA,alJ]at e5;have hC2:=hid (show C=(((l.take (i+1)).filter Q).map (·.1)).map (AV.int .i64)/\k=((l.take (i+1)).filter Q).length by rw[e5];exact hC.o);clear hx e5 hmem hav kP1 kP kH hq hQv;refine wk ?_;exact aoE aoz aoC ⟨i+1,_,_,_,rfl,hlt,hC2,rfl,rfl⟩
   | true =>
     rw[hpb]at hq kk2;rw[hq,if_pos rfl]at e5;have hC2:=hid (show C++[.int .i64 x]=(((l.take (i+1)).filter Q).map (·.1)).map (AV.int .i64)/\k+1=((l.take (i+1)).filter Q).length by rw[e5,hC.o.1,alw,hC.o.2];simp)
     clear hx e5 hmem hav kP1 kP kH hq hQv;refine wk ?_;exact aoE aoz aoC ⟨i+1,_,_,_,rfl,hlt,hC2,rfl,rfl⟩
 have hie:i=l.length:=aoz;subst hie;have j1:¬(l.length:Int)<(l.length:Int):=aoz;obtain⟨hC1,hC2⟩:=hC.o;rw[alt]at hC1 hC2;have hf2:Hid (K (.sl C k none) L):=hid (by rw[hC1,hC2];have:=h.o;simpa[iq]using this)
 have hCf:AV.frzL C=C:=by rw[hC1];exact dU _
 have hCr:∀p,AV.refsL p C=true:=λp=>by rw[hC1];exact eW p _
 clear hC hC1 hC2 h hat hat2 hQv;refine wk ?_;refine aW ?_;simp only[AV.frz,hCf];exact ae (by simp only[AV.refs,hCr]) hf2.o
theorem adb{L:List Blk}{rt:Nat}{tm:TMp}{l:List aQ}(hT:TmS an tm)(hD:LR L rt GV tm l)(hl:l.length<=1000)(he:∀e∈l,InA an e.2/\p8 e.2){n:List UInt8}(hn:aR n){K:alc}(h:K (iq ((l.filter λe=>(bB tm (af n)).isSome && !(cx e.2 n).isEmpty).map (·.1))) L):alb 64 [.ptr rt 0,.str n] L K:=by
 have hDW:∀W,LR (L++W) rt GV tm l:=λW=>by obtain⟨k2,q⟩:=hD;exact⟨k2,ak8 q⟩
 obtain⟨b,hb⟩:=ak7 ((bB tm (af n)).isSome);rw[hb]at h;have kH:Hid (∀{W:List Blk}{K:alc},K (.bool b) (L++W)->alb 63 [.ptr rt 0,.str n] (L++W) K):=@hid _ (λ{W K} q=>Ql hT (hDW W) hn (by rw[hb];exact q));obtain⟨k2,hL0⟩:=hD;have hrl:=(ald.1 hL0).1;obtain⟨NS,hNS⟩:=ak7 ((tm.map (·.1)).map AV.str);have hts:=gp;obtain⟨TS,hTS⟩:=ak7 (bU an);obtain⟨tl,htl⟩:=ak7 (an.length);obtain⟨CC,hCC⟩:=ak7 (Lt);have kP:∀av:List Atr,InA an av/\p8 av->Hid (Ctr Tryz.prog 15 [.sl (bp av) av.length none,.str n] (G9 (cx av n))):=λav ha=>@hid _ (λ{L K} q=>L7 (by have:=ha.2.len;omega) (λa h=>⟨(ha.2.sz a h).1,by have:=(ha.2.sz a h).2;omega⟩) hn q)
 have hL:L[rt]?=some (.cells [.sl TS tl none,.sl CC 9 none,.sl NS tm.length none,.sl (bM l) l.length k2]):=by simpa only[GV,hTS,htl,hNS,hCC,alN,alL]using hL0
 clear hDW hL0 hNS hTS htl hCC hT hts;have ar:∀X,(L++X)[rt]?=some (.cells [.sl TS tl none,.sl CC 9 none,.sl NS tm.length none,.sl (bM l) l.length k2]):=λX=>by rw[alm hrl];exact hL
 have hel:=rp l;have hat:=hid (λk (q:k<l.length)=>rS q);obtain⟨Q,hQ⟩:∃Q:aQ->Bool,(λe:aQ=>b && !(cx e.2 n).isEmpty)=Q:=⟨_,rfl⟩;have hQv:∀e:aQ,Q e=(b && !(cx e.2 n).isEmpty):=λe=>by rw[<- hQ]
 rw[hQ]at h;have hat2:=hid (λk (q:k<l.length)=>show(l.take (k+1)).filter Q=(l.take k).filter Q++(if Q (l.getD k (0,[]))=true then[l.getD k (0,[])]else[])by rw[aly q,am5];congr 1;by_cases e:Q l[k]=true<;>simp[q,e])
 obtain⟨ES,hES⟩:=ak7 (bM l);rw[hES]at ar hel hat hL;replace h:=hid h;replace hQv:=hid hQv;clear hES hQ;refine ala tv ?_;refine bt (l:=[]) (n:=0) 5 1 rfl (alG 1).symm ?_;refine ah (λm T' L'=>∃(i:Nat) (C:List AV) (k:Nat) (X:List Blk),m=l.length-i/\i<=l.length/\Hid (C=(((l.take i).filter Q).map (·.1)).map (AV.int .i64)/\k=((l.take i).filter Q).length)/\T'=[(13,.int .i64 (i:Int)),(12,.int .i64 l.length),(11,.sl ES l.length k2),(5,.gsl C k L.length 1),(0,.ptr rt 0),(1,.str n)]/\L'=L++(.spare k 1::X)) aoD ⟨0,[],0,[],rfl,ali _,hid ⟨rfl,rfl⟩,rfl,aoA⟩ ?_;clear hL;rintro _ _ _ ⟨i,C,k,X,rfl,hi,hC,rfl,rfl⟩;by_cases hlt:i<l.length;have j1:(i:Int)<(l.length:Int):=aoz;have j2:=ak9 i aoz;have e3:=hat.o i hlt;have e4:i*2+2<=ES.length:=by rw[hel];omega
 have e5:=hat2.o i hlt;obtain⟨⟨x,av⟩,hx⟩:∃e,l.getD i (0,[])=e:=⟨_,rfl⟩;have hmem:(x,av)∈l:=by rw[<- hx];simp[hlt]
 have hav:=he _ hmem;rw[hx]at e3 e5;simp only[R8]at e3;have hq:=hQv.o (x,av);simp only at hq;have hkb:k<=1000:=by rw[hC.o.2];have:=amQ Q (l.take i);rw[amJ]at this;omega
 have kP1:=@kP av hav;have kk1:=@kH;cases hb':b with
 | false =>
   rw[hb']at hq kk1;simp only[amA]at hq;rw[hq,if_neg aoA,alJ]at e5;have hC2:=hid (show C=(((l.take (i+1)).filter Q).map (·.1)).map (AV.int .i64)/\k=((l.take (i+1)).filter Q).length by rw[e5];exact hC.o);clear hx e5 hmem hav kP1 kP kH hq hQv;refine wk ?_;exact aoE aoz aoC ⟨i+1,_,_,_,rfl,hlt,hC2,rfl,rfl⟩
 | true =>
   rw[hb']at hq kk1;simp only[al0]at hq;obtain⟨W,hW⟩:=ak7 (cx av n);rw[hW]at hq kP1;have kk2:=@kP1;simp only[G9]at kk2;obtain⟨pb,hpb0⟩:=ak7 ((!W.isEmpty));rw[hpb0]at hq;have hpz:pb=decide ((0:Int)<(W.length:Int)):=(by rw[<- hpb0];cases W<;>simp);clear hpb0 hW;cases hpb:pb with
   | false =>
     rw[hpb]at hq hpz;rw[hq,if_neg aoA,alJ]at e5;have hC2:=hid (show C=(((l.take (i+1)).filter Q).map (·.1)).map (AV.int .i64)/\k=((l.take (i+1)).filter Q).length by rw[e5];exact hC.o);have g5:¬(0:Int)<(W.length:Int):=of_decide_eq_false hpz.symm;have g6:¬(W.length:Int)>0:=g5;clear hpz;clear hx e5 hmem hav kP1 kP kH hq hQv;refine wk ?_;exact aoE aoz aoC ⟨i+1,_,_,_,rfl,hlt,hC2,rfl,rfl⟩
   | true =>
     rw[hpb]at hq hpz;rw[hq,if_pos rfl]at e5;have hC2:=hid (show C++[.int .i64 x]=(((l.take (i+1)).filter Q).map (·.1)).map (AV.int .i64)/\k+1=((l.take (i+1)).filter Q).length by rw[e5,hC.o.1,alw,hC.o.2];simp)
     have g5:(0:Int)<(W.length:Int):=of_decide_eq_true hpz.symm;have g6:(W.length:Int)>0:=g5;clear hpz;clear hx e5 hmem hav kP1 kP kH hq hQv;refine wk ?_;exact aoE aoz aoC ⟨i+1,_,_,_,rfl,hlt,hC2,rfl,rfl⟩
 have hie:i=l.length:=aoz;subst hie;have j1:¬(l.length:Int)<(l.length:Int):=aoz;obtain⟨hC1,hC2⟩:=hC.o;rw[alt]at hC1 hC2;have hf2:Hid (K (.sl C k none) L):=hid (by rw[hC1,hC2];have:=h.o;simpa[iq]using this)
 have hCf:AV.frzL C=C:=by rw[hC1];exact dU _
 have hCr:∀p,AV.refsL p C=true:=λp=>by rw[hC1];exact eW p _
 clear hC hC1 hC2 h hat hat2 hQv;refine wk ?_;refine aW ?_;simp only[AV.frz,hCf];exact ae (by simp only[AV.refs,hCr]) hf2.o
theorem adf{syn:Int}{vs:List (List UInt8)}{g:List UInt8}{cap:Option Nat}(hn:vs.length<=1100000)(h:K (.bool (nW syn vs g)) L):alb 113 [.int .i64 syn,.sl (vs.map AV.str) vs.length cap,.str g] L K:=by
 have kN:Hid (∀{v:List UInt8}{L:List Blk}{K:alc},K (.tup [.str ((cj syn v).getD []),.bool (cj syn v).isSome]) L->alb 45 [.int .i64 syn,.str v] L K):=@hid _ (λ{v L K} q=>sg (by
  cases hv:cj syn v with
  |none=>rw[hv]at q;exact q
  |some m=>rw[hv]at q;exact q))
 have hend:∀i,i<vs.length->nW syn (vs.take (i+1)) g=(nW syn (vs.take i) g ||(bq (fz syn (vs.getD i []))).contains g):=λi hi=>by unfold nW;rw[aly hi,anP];simp[hi]
 have hmore:∀i,nW syn (vs.take i) g=true->nW syn vs g=true:=λi hi=>by unfold nW at hi⊢;rw[am1]at hi⊢;obtain⟨x,hx,e⟩:=hi;exact⟨x,aoi hx,e⟩
 replace h:=hid h;replace hend:=hid hend;replace hmore:=hid hmore;obtain⟨VS,hVS⟩:=ak7 (vs.map AV.str);have hat:Hid (∀i,i<vs.length->VS.getD i .undef=.str (vs.getD i [])/\i<VS.length):=hid λi hi=>by rw[<- hVS];simp[hi]
 rw[hVS];clear hVS;refine ala Sa ?_;refine ah (λm T' L'=>∃(i:Nat),m=vs.length-i/\i<=vs.length/\Hid (nW syn (vs.take i) g=false)/\T'=[(14,.int .i64 (i:Int)),(13,.int .i64 vs.length),(12,.sl VS vs.length cap),(0,.int .i64 syn),(2,.str g)]/\L'=L) (CutS (b:=ale _)) ⟨0,rfl,ali _,hid (by simp[nW]),rfl,rfl⟩ ?_;rintro _ _ L1 ⟨i,rfl,hi,hI,rfl,hLL⟩;rw[hLL];clear hLL L1;by_cases hlt:i<vs.length;have j1:(i:Int)<(vs.length:Int):=aoz;have j2:=ak9 i aoz;obtain⟨e3,e4⟩:=hat.o i hlt;have e5:=hend.o i hlt;have e6:=hmore.o (i+1);obtain⟨v,hv⟩:=ak7 (vs.getD i []);rw[hv]at e3 e5;rw[hI.o,amP]at e5;unfold fz at e5;have kN1:=@kN v;have hml:((cj syn v).getD []).length<=4096:=by
  cases hx:cj syn v with
  |none=>simp
  |some m=>exact ZB hx
 obtain⟨m,hm⟩:=ak7 ((cj syn v).getD []);obtain⟨b,hb⟩:=ak7 ((cj syn v).isSome);rw[hm]at kN1 e5 hml;rw[hb]at kN1;have kk1:=@hid _ @kN1;replace e5:=hid e5;replace e6:=hid e6;clear kN kN1 hm hb hv hI;refine wk ?_;refine ah (λm' T' L'=>∃(k:Nat),m'=m.length-k/\k<=m.length-2/\Hid (∀x∈(bq m).take k,x≠g)/\T'=[(11,.int .i64 (k:Int)),(9,.str m),(14,.int .i64 (i:Int)),(13,.int .i64 vs.length),(12,.sl VS vs.length cap),(0,.int .i64 syn),(2,.str g)]/\L'=L) (CutS (b:=ale _)) ⟨0,rfl,ali _,hid aoA,rfl,rfl⟩ ?_;rintro _ _ L1 ⟨k,rfl,hk,hX,rfl,hLL⟩;rw[hLL];clear hLL L1;by_cases hlk:k+3<=m.length;have g2:IntKind.i64.wrap ((k:Int)+3)=(k:Int)+3:=ab aoz aoz;have g3:=ak9 k aoz;have g1:(k:Int)+3<=(m.length:Int):=aoz;have htk:=Mh hlk;have e7:((k:Int)+3).toNat-k=3:=aoz;by_cases hq:(m.drop k).take 3=g;have hT:(bq m).contains g=true:=by rw[alQ];exact aoi (i:=k+1) (by rw[htk,<- hq];simp)
 have h':=hid (show K (.bool true) L by have:=h.o;rw[e6.o (by rw[e5.o,hT])]at this;exact this)
 clear htk hX hT;refine wk ?_;exact aa h'.o;have hX2:=hid (show ∀x∈(bq m).take (k+1),x≠g by rw[htk];intro x hx;rcases alh.1 hx with hx|hx;exact hX.o x hx;rw[alB]at hx;rw[hx];exact hq)
 clear htk hX;refine wk ?_;exact aoE aoz (CutL (b:=ale _)) ⟨k+1,rfl,aoz,hX2,rfl,rfl⟩;have g2:IntKind.i64.wrap ((k:Int)+3)=(k:Int)+3:=ab aoz aoz;have g1:¬(k:Int)+3<=(m.length:Int):=aoz;have htk:((bq m).take k)=bq m:=amb (by rw[fZ];omega);have hI2:=hid (show nW syn (vs.take (i+1)) g=false by
  rw[e5.o];have:=hX.o;rw[htk]at this;cases hc:(bq m).contains g with
  |false=>rfl
  |true=>exact absurd rfl (this g (alQ.1 hc)))
 clear htk hX;refine wk ?_;exact aoE aoz (CutL (b:=ale _)) ⟨i+1,rfl,hlt,hI2,rfl,rfl⟩;have hie:i=vs.length:=aoz;subst hie;have j1:¬(vs.length:Int)<(vs.length:Int):=aoz;have h':=hid (show K (.bool false) L by have:=h.o;rw[alt]at hI;rw[hI.o]at this;exact this)
 refine wk ?_;exact aa h'.o
def WL(syn:Int)(vs:List (List UInt8))(p:Pc):Bool:=(bq (pcT (decide (syn=2)) p)).all λg=>nW syn vs g
theorem adc{L:List Blk}{rt:Nat}{tm:TMp}{l:List aQ}(hT:TmS an tm)(hD:LR L rt GV tm l)(hl:l.length<=1000)(he:∀e∈l,InA an e.2/\p8 e.2){n:List UInt8}(hn:aR n){ty:Typ}(hg:bB tm (af n)=some ty){ps:List Pc}{capP:Option Nat}(hps:ps.length<=1000/\∀p∈ps,p.2.length<=100000){K:alc}(h:K (iq (afP l n ty.2.1 ps)) L):
  alb 65 [.ptr rt 0,.str n,.sl (ir ps) ps.length capP] L K:=by
 have kk1:Hid (∀{K:alc},K (.bool true) L->alb 63 [.ptr rt 0,.str n] L K):=@hid _ (λ{K} q=>Ql hT hD hn (by rw[hg];exact q));obtain⟨k,hk,hkt,kA⟩:=acw hn (hT.typ hg);obtain⟨k2,hL0⟩:=hD;have hrl:=(ald.1 hL0).1;obtain⟨t1,t2,t3,t4⟩:=ty;have e3:=q9 hk;rw[hkt]at e3;have e5:(bU an).getD (k*4+1) .undef=.int .i64 t2:=by have h3:=congrArg (λl=>l[1]?) e3;simp only[amc (show 1<4 by omega),al5]at h3;rw[alD,h3];rfl
 have e4:k*4+4<=(bU an).length:=by rw[rx];omega
 have kk2:Hid (Ctr Tryz.prog 12 [.sl (bU an) an.length none,.str n] (.int .i64 k)):=@hid _ (λ{L K} q=>kA q);obtain⟨TS,hTS⟩:=ak7 (bU an);obtain⟨tl,htl⟩:=ak7 (an.length);obtain⟨NS,hNS⟩:=ak7 ((tm.map (·.1)).map AV.str);obtain⟨CC,hCC⟩:=ak7 (Lt);have hL:L[rt]?=some (.cells [.sl TS tl none,.sl CC 9 none,.sl NS tm.length none,.sl (bM l) l.length k2]):=by simpa only[GV,hTS,htl,hNS,hCC,alN,alL]using hL0
 rw[hTS,htl]at kk2;rw[hTS]at e5 e4;rw[htl]at hk;have hkn:(0:Int)<=(k:Int):=aoz;have hkl:(k:Int)<(tl:Int):=aoz;have hel:=rp l;have hat:=hid (λk (q:k<l.length)=>rS q);have hpl:=K9 ps;have hpt:=hid (λk (q:k<ps.length)=>Md q);obtain⟨ES,hES⟩:=ak7 (bM l);obtain⟨PS,hPS⟩:=ak7 (ir ps);rw[hES]at hel hat hL;rw[hPS]at hpl hpt⊢;simp only at h;obtain⟨Q,hQ⟩:∃Q:aQ->Bool,(λe:aQ => !(cx e.2 n).isEmpty&&ps.all λp=>(bq (pcT (decide (t2=2)) p)).all λg=>nW t2 (cx e.2 n) g)=Q:=⟨_,rfl⟩;have hQv:∀e:aQ,Q e=(!(cx e.2 n).isEmpty&&ps.all (WL t2 (cx e.2 n))):=λe=>by rw[<- hQ];rfl
 unfold afP at h;rw[hQ]at h;have hat2:=hid (λk (q:k<l.length)=>show(l.take (k+1)).filter Q=(l.take k).filter Q++(if Q (l.getD k (0,[]))=true then[l.getD k (0,[])]else[])by rw[aly q,am5];congr 1;by_cases e:Q l[k]=true<;>simp[q,e])
 replace h:=hid h;replace hQv:=hid hQv;replace hps:=hid hps;clear hES hPS hQ e3 hkt kA hTS htl hNS hCC hL0 hg hT;refine ala GX ?_;refine bt (l:=[]) (n:=0) 7 1 rfl (alG 1).symm ?_;clear kk1 kk2 e4 e5 hk hkn hkl;refine ah (λm T' L'=>∃(i:Nat) (C:List AV) (c:Nat) (X:List Blk),m=l.length-i/\i<=l.length/\Hid (C=(((l.take i).filter Q).map (·.1)).map (AV.int .i64)/\c=((l.take i).filter Q).length)/\T'=[(41,.int .i64 (i:Int)),(40,.int .i64 l.length),(39,.sl ES l.length k2),(8,.int .i64 t2),(7,.gsl C c L.length 1),(0,.ptr rt 0),(1,.str n),(2,.sl PS ps.length capP)]/\L'=L++(.spare c 1::X)) aoD ⟨0,[],0,[],rfl,ali _,hid ⟨rfl,rfl⟩,rfl,aoA⟩ ?_;clear hL;rintro _ _ _ ⟨i,C,c,X,rfl,hi,hC,rfl,rfl⟩;by_cases hlt:i<l.length;have j1:(i:Int)<(l.length:Int):=aoz;have j2:=ak9 i aoz;have e3:=hat.o i hlt;have e4:i*2+2<=ES.length:=by rw[hel];omega
 have e5:=hat2.o i hlt;obtain⟨⟨x,av⟩,hx⟩:∃e,l.getD i (0,[])=e:=⟨_,rfl⟩;have hmem:(x,av)∈l:=by rw[<- hx];simp[hlt]
 have hav:=he _ hmem;rw[hx]at e3 e5;simp only[R8]at e3;have hq:=hQv.o (x,av);simp only at hq;have hcb:c<=1000:=by rw[hC.o.2];have:=amQ Q (l.take i);rw[amJ]at this;omega
 have hvl:(cx av n).length<=1100000:=Yg (λa h=>(hav.2.sz a h).2);obtain⟨W,hW⟩:=ak7 (cx av n);have kk1:Hid (Ctr Tryz.prog 15 [.sl (bp av) av.length none,.str n] (.sl (W.map AV.str) W.length none)):=@hid _ (λ{L K} q=>L7 (by have:=hav.2.len;omega) (λa h=>⟨(hav.2.sz a h).1,by have:=(hav.2.sz a h).2;omega⟩) hn (by rw[hW];exact q));rw[hW]at hq hvl;have kI:Hid (∀{g:List UInt8}{L:List Blk}{K:alc},K (.bool (nW t2 W g)) L->alb 113 [.int .i64 t2,.sl (W.map AV.str) W.length none,.str g] L K):=@hid _ (λ{g L K} q=>adf hvl q);obtain⟨WS,hWS⟩:=ak7 (W.map AV.str);rw[hWS]at kk1 kI;replace hq:=hid hq;replace e5:=hid e5;clear hW hWS hx hmem hav;refine wk ?_;refine ah (λm T' L'=>∃(j:Nat) (b:Bool) (Y:List Blk),m=ps.length-j/\j<=ps.length/\Hid (b=((!W.isEmpty)&&(ps.take j).all (WL t2 W)))/\T'=[(54,.int .i64 (j:Int)),(53,.int .i64 ps.length),(52,.sl PS ps.length capP),(12,.bool b),(11,.sl WS W.length none),(10,.ptr (L.length+(X.length+1)) 0),(41,.int .i64 (i:Int)),(40,.int .i64 l.length),(39,.sl ES l.length k2),(8,.int .i64 t2),(7,.gsl C c L.length 1),(0,.ptr rt 0),(1,.str n),(2,.sl PS ps.length capP)]/\L'=L++(.spare c 1::(X ++ .cells [.int .i64 x,atV av]::Y))) aoD ⟨0,decide ((0:Int)<(W.length:Int)),[],rfl,ali _,hid (by cases W<;>simp),rfl,aoA⟩ ?_;rintro _ _ _ ⟨j,b,Y,rfl,hj,hB,rfl,rfl⟩;have hpn:=hps.o.1;by_cases hjl:j<ps.length;have j3:(j:Int)<(ps.length:Int):=aoz;have j4:=ak9 j aoz;have e6:=hpt.o j hjl;have e7:j*2+2<=PS.length:=by rw[hpl];omega
 obtain⟨⟨pk,pt⟩,hp⟩:∃a,ps.getD j (0,[])=a:=⟨_,rfl⟩;have hptl:pt.length<=100000:=hps.o.2 (pk,pt) (by rw[<- hp];simp[hjl]);have htk0:ps.take (j+1)=ps.take j++[(pk,pt)]:=by rw[aly hjl,show ps[j]=(pk,pt)by rw[<- hp];simp[hjl]]
 rw[hp]at e6;simp only[pcA]at e6;obtain⟨t,ht⟩:=ak7 (pcT (decide (t2=2)) (pk,pt));have hpi:WL t2 W (pk,pt)=(bq t).all λg=>nW t2 W g:=by unfold WL;rw[ht]
 have hte:=hid (λ(d:Bool) (hd:d=(b&&(bq t).all λg=>nW t2 W g))=>show d=((!W.isEmpty)&&(ps.take (j+1)).all (WL t2 W))by rw[htk0,amB,<- anW,<- hB.o,hd,<- hpi];simp)
 have htl:=hid (λ(q:Nat) (hd:false=(b&&((bq t).take q).all λg=>nW t2 W g))=>show false=((!W.isEmpty)&&(ps.take (j+1)).all (WL t2 W))by
  refine hte.o false ?_;cases b with
  |false=>rfl
  | true =>
    simp only[al0]at hd⊢;symm;cases ha:(bq t).all λg=>nW t2 W g with
    |false=>rfl
    | true =>
      exfalso;have:((bq t).take q).all (λg=>nW t2 W g)=true:=aln.2 λy hy=>aln.1 ha y (aoi hy)
      rw[this]at hd;cases hd)
 clear hp htk0 hpi hB;by_cases hs:t2=2;have htt:pt=t:=by rw[<- ht,hs];rfl
 clear ht;subst hs;subst htt;refine wk ?_;refine ah (λm T' L'=>∃(q:Nat) (d:Bool),m=pt.length-q/\q<=pt.length-2/\Hid (d=(b&&((bq pt).take q).all λg=>nW 2 W g))/\T'=[(16,.int .i64 (q:Int)),(15,.str pt),(12,.bool d),(54,.int .i64 (j:Int)),(53,.int .i64 ps.length),(52,.sl PS ps.length capP),(11,.sl WS W.length none),(10,.ptr (L.length+(X.length+1)) 0),(41,.int .i64 (i:Int)),(40,.int .i64 l.length),(39,.sl ES l.length k2),(8,.int .i64 2),(7,.gsl C c L.length 1),(0,.ptr rt 0),(1,.str n),(2,.sl PS ps.length capP)]/\L'=L++(.spare c 1::(X ++ .cells [.int .i64 x,atV av]::(Y++[.cells [.int .i64 pk,.str pt]])))) aoD ⟨0,b,rfl,ali _,hid aoA,rfl,aoA⟩ ?_;rintro _ _ _ ⟨q,d,rfl,hq',hd,rfl,rfl⟩;by_cases hlq:q+3<=pt.length;have g2:IntKind.i64.wrap ((q:Int)+3)=(q:Int)+3:=ab aoz aoz;have g3:=ak9 q aoz;have g1:(q:Int)+3<=(pt.length:Int):=aoz;cases d with
 | false =>
   have hb2:=hid (show false=((!W.isEmpty)&&(ps.take (j+1)).all (WL 2 W))from htl.o q hd.o);clear hd;refine wk ?_;exact aoE aoz aoC ⟨j+1,false,_,rfl,hjl,hb2,rfl,rfl⟩
 | true =>
   have htk:=Mh hlq;have e7:((q:Int)+3).toNat-q=3:=aoz;obtain⟨r,hr⟩:=ak7 (nW 2 W ((pt.drop q).take 3));have kk3:Hid (Ctr Tryz.prog 113 [.int .i64 2,.sl WS W.length none,.str ((pt.drop q).take 3)] (.bool r)):=@hid _ (λ{L K} qq=>kI.o (by rw[hr];exact qq));have hd2:=hid (show r=(b&&((bq pt).take (q+1)).all λg=>nW 2 W g)by rw[htk,amB,<- anW,<- hd.o];simp[hr])
   clear htk hd hr;refine wk ?_;exact aoE aoz aoC ⟨q+1,r,rfl,aoz,hd2,rfl,rfl⟩
 have g2:IntKind.i64.wrap ((q:Int)+3)=(q:Int)+3:=ab aoz aoz;have g1:¬(q:Int)+3<=(pt.length:Int):=aoz;have htk:((bq pt).take q)=bq pt:=amb (by rw[fZ];omega);have hb2:=hid (show d=((!W.isEmpty)&&(ps.take (j+1)).all (WL 2 W))from hte.o d (by rw[hd.o,htk]));clear htk hd;refine wk ?_;exact aoE aoz aoC ⟨j+1,d,_,rfl,hjl,hb2,rfl,rfl⟩;have htt:af pt=t:=by rw[<- ht];unfold pcT;rw[if_neg (by simpa using hs)]
 have htn:t.length<=100000:=by rw[<- htt,Mj];exact hptl
 have kk2:Hid (Ctr Tryz.prog 39 [.str pt] (.str t)):=@hid _ (by intro L K q;exact bQ aoz (by rw[htt];exact q));clear ht htt;refine wk ?_;refine ah (λm T' L'=>∃(q:Nat) (d:Bool),m=t.length-q/\q<=t.length-2/\Hid (d=(b&&((bq t).take q).all λg=>nW t2 W g))/\T'=[(16,.int .i64 (q:Int)),(15,.str t),(12,.bool d),(54,.int .i64 (j:Int)),(53,.int .i64 ps.length),(52,.sl PS ps.length capP),(11,.sl WS W.length none),(10,.ptr (L.length+(X.length+1)) 0),(41,.int .i64 (i:Int)),(40,.int .i64 l.length),(39,.sl ES l.length k2),(8,.int .i64 t2),(7,.gsl C c L.length 1),(0,.ptr rt 0),(1,.str n),(2,.sl PS ps.length capP)]/\L'=L++(.spare c 1::(X ++ .cells [.int .i64 x,atV av]::(Y++[.cells [.int .i64 pk,.str pt]])))) aoD ⟨0,b,rfl,ali _,hid aoA,rfl,aoA⟩ ?_;rintro _ _ _ ⟨q,d,rfl,hq',hd,rfl,rfl⟩;by_cases hlq:q+3<=t.length;have g2:IntKind.i64.wrap ((q:Int)+3)=(q:Int)+3:=ab aoz aoz;have g3:=ak9 q aoz;have g1:(q:Int)+3<=(t.length:Int):=aoz;cases d with
 | false =>
   have hb2:=hid (show false=((!W.isEmpty)&&(ps.take (j+1)).all (WL t2 W))from htl.o q hd.o);clear hd;refine wk ?_;exact aoE aoz aoC ⟨j+1,false,_,rfl,hjl,hb2,rfl,rfl⟩
 | true =>
   have htk:=Mh hlq;have e7:((q:Int)+3).toNat-q=3:=aoz;obtain⟨r,hr⟩:=ak7 (nW t2 W ((t.drop q).take 3));have kk3:Hid (Ctr Tryz.prog 113 [.int .i64 t2,.sl WS W.length none,.str ((t.drop q).take 3)] (.bool r)):=@hid _ (λ{L K} qq=>kI.o (by rw[hr];exact qq));have hd2:=hid (show r=(b&&((bq t).take (q+1)).all λg=>nW t2 W g)by rw[htk,amB,<- anW,<- hd.o];simp[hr])
   clear htk hd hr;refine wk ?_;exact aoE aoz aoC ⟨q+1,r,rfl,aoz,hd2,rfl,rfl⟩
 have g2:IntKind.i64.wrap ((q:Int)+3)=(q:Int)+3:=ab aoz aoz;have g1:¬(q:Int)+3<=(t.length:Int):=aoz;have htk:((bq t).take q)=bq t:=amb (by rw[fZ];omega);have hb2:=hid (show d=((!W.isEmpty)&&(ps.take (j+1)).all (WL t2 W))from hte.o d (by rw[hd.o,htk]));clear htk hd;refine wk ?_;exact aoE aoz aoC ⟨j+1,d,_,rfl,hjl,hb2,rfl,rfl⟩;have hje:j=ps.length:=aoz;subst hje;have j3:¬(ps.length:Int)<(ps.length:Int):=aoz;have hQb:Q (x,av)=b:=by rw[hq.o,hB.o,alt]
 cases b with
 | false =>
   have hC2:=hid (show C=(((l.take (i+1)).filter Q).map (·.1)).map (AV.int .i64)/\c=((l.take (i+1)).filter Q).length by rw[e5.o,hQb,if_neg aoA,alJ];exact hC.o)
   clear hQb hB hC;refine wk ?_;exact aoE aoz aoC ⟨i+1,_,_,_,rfl,hlt,hC2,rfl,rfl⟩
 | true =>
   have hC2:=hid (show C++[.int .i64 x]=(((l.take (i+1)).filter Q).map (·.1)).map (AV.int .i64)/\c+1=((l.take (i+1)).filter Q).length by rw[e5.o,hQb,if_pos rfl,hC.o.1,alw,hC.o.2];simp)
   clear hQb hB hC;refine wk ?_;exact aoE aoz aoC ⟨i+1,_,_,_,rfl,hlt,hC2,rfl,rfl⟩
 have hie:i=l.length:=aoz;subst hie;have j1:¬(l.length:Int)<(l.length:Int):=aoz;obtain⟨hC1,hC2⟩:=hC.o;rw[alt]at hC1 hC2;have hf2:Hid (K (.sl C c none) L):=hid (by rw[hC1,hC2];have:=h.o;simpa[iq]using this)
 have hCf:AV.frzL C=C:=by rw[hC1];exact dU _
 have hCr:∀p,AV.refsL p C=true:=λp=>by rw[hC1];exact eW p _
 clear hC hC1 hC2 h hat hat2 hQv hpt;refine wk ?_;refine aW ?_;simp only[AV.frz,hCf];exact ae (by simp only[AV.refs,hCr]) hf2.o
theorem aeb:∀t∈an,1<=t.2.1:=by have:(an.all λt=>decide (1<=t.2.1))=true:=aoB;intro t ht;exact of_decide_eq_true (aln.1 this t ht)
theorem Zd(r:List Atr)(n:List UInt8):cx r (af n)=cx r n:=Qd (XS n) r
theorem ahV{L:List Blk}{rt:Nat}{tm:TMp}{l:List aQ}(hT:TmS an tm)(hD:LR L rt GV tm l)(hr:eE l)(hl:l.length<=1000)(he:∀e∈l,InA an e.2/\p8 e.2){n v:List UInt8}(hn:aR n){K:alc}(h:K (iq (WR tm l n v)) L):alb 62 [.ptr rt 0,.str n,.str v] L K:=by
 refine afc hT hD hl he hn ?_;refine Kto h (congrArg iq ?_);unfold WR;cases hg:bB tm (af n)with
 |none=>simp
 | some ty =>
   have hm:(af n,ty.2.1)∈ed tm:=(Zg hT.ok.keys).2 ⟨_,hg,rfl⟩;have hd:((ed tm).map (·.1)).Nodup:=(by rw[W9];exact hT.ok.keys);have:=aiw hd hm (XS n) (hT.typ hg) hr (λe h=>(he e h).1) (v:=v);simp only[amu,al0];rw[this]
theorem ahN{L:List Blk}{rt:Nat}{tm:TMp}{l:List aQ}(hT:TmS an tm)(hD:LR L rt GV tm l)(hl:l.length<=1000)(he:∀e∈l,InA an e.2/\p8 e.2){n:List UInt8}(hn:aR n){K:alc}(h:K (iq (Pt tm l n)) L):alb 64 [.ptr rt 0,.str n] L K:=by
 refine adb hT hD hl he hn ?_;refine Kto h (congrArg iq ?_);unfold Pt;cases hg:bB tm (af n)with
 |none=>simp
 | some ty =>
   simp only[amu,al0];unfold lG;simp only[Zd]
theorem ahS{L:List Blk}{rt:Nat}{tm:TMp}{l:List aQ}(hT:TmS an tm)(hD:LR L rt GV tm l)(hr:eE l)(hl:l.length<=1000)(he:∀e∈l,InA an e.2/\p8 e.2){n:List UInt8}(hn:aR n){ty:Typ}(hg:bB tm (af n)=some ty){ps:List Pc}{capP:Option Nat}(hps:ps.length<=1000/\∀p∈ps,p.2.length<=100000){K:alc}(h:K (iq (Lf (ed tm) l (af n) ty.2.1 ps)) L):
  alb 65 [.ptr rt 0,.str n,.sl (ir ps) ps.length capP] L K:=by
 refine adc hT hD hl he hn hg hps ?_;refine Kto h (congrArg iq ?_);have hm:(af n,ty.2.1)∈ed tm:=(Zg hT.ok.keys).2 ⟨_,hg,rfl⟩;have hd:((ed tm).map (·.1)).Nodup:=by rw[W9];exact hT.ok.keys
 rw[aic hd hm hr];unfold afP;simp only[Zd]
theorem PB:∀ls:List (List Int),AV.frzL (ls.map bO)=ls.map bO
 |[]=>rfl
 |l::r=>by simp only[alr,AV.frzL,AV.frz,dU,PB r]
theorem afj{L:List Blk}{rt:Nat}{tm:TMp}{l:List aQ}{w:Int}(hT:TmS an tm)(hD:LR L rt GV tm l)(hrs:eE l)(hl:l.length<=1000)(he:∀e∈l,InA an e.2/\p8 e.2):∀(f:Flt),WF f->∀{X:List Blk}{K:alc},K (de (l4 tm l w f)) (L++X) ->
  alb 28 [.ptr rt 0,.agg (fA f),.int .i64 w] (L++X) K:=by
 have hlen:∀{m:List Int},InE l m->m.length<=1000:=λh=>alF h.len hl
 have hDW:∀W,LR (L++W) rt GV tm l:=λW=>by obtain⟨k2,q⟩:=hD;exact⟨k2,ak8 q⟩
 refine R3 λk a v ps ks ih hrd X K h=>?_
 simp only[FlB]at hrd;obtain⟨r1,r2,r3,r4,r5,r6⟩:=hrd;have hn:aR a:=by unfold aR;omega
 have ih2:∀x∈ks,∀{X:List Blk}{K:alc},K (de (l4 tm l w x)) (L++X)->alb 28 [.ptr rt 0,.agg (fA x),.int .i64 w] (L++X) K:=λx hx {X K} q=>ih x hx (Sk r6 x hx) q
 replace ih2:=@hid _ @ih2;clear ih r6;rw[l4,aem]at h;obtain⟨M,hM⟩:=ak7 (L++X);rw[hM]at h⊢;have hMW:∀W,M++W=L++(X++W):=λW=>by rw[<- hM];simp
 have hDM:Hid (∀W,LR (M++W) rt GV tm l):=hid λW=>by rw[hMW];exact hDW _
 have ih3:∀x∈ks,∀{W:List Blk}{K:alc},K (de (l4 tm l w x)) (M++W)->alb 28 [.ptr rt 0,.agg (fA x),.int .i64 w] (M++W) K:=λx hx {W K} q=>by rw[hMW]at q⊢;exact ih2.o x hx q
 replace ih3:=@hid _ @ih3;clear ih2 hMW hM hDW;rw[Lp];obtain⟨PS,hPS⟩:∃P,P=ir ps:=⟨_,rfl⟩;obtain⟨KS,hKS⟩:∃P,P=fsA ks:=⟨_,rfl⟩;rw[<- hPS,<- hKS];replace hPS:=hid hPS;replace hKS:=hid hKS;by_cases hk:k=0\/k=1;rw[if_pos hk,yg]at h;obtain⟨V,hV⟩:=ak7 (ks.map (l4 tm l w));rw[hV]at h;replace hV:=hid hV;have hnl:V.length=ks.length:=by rw[<- hV.o];simp
 have hVin:∀m∈az V,m.length<=1000:=λm hm=>by rw[rj,<- hV.o,alg]at hm;obtain⟨x,_,e⟩:=hm;exact hlen (UT hrs x m e)
 have hSl:(az V).length<=60:=by have:=iC V;omega
 have hFl:(az V).flatten.length<=1000000:=by have:=PQ (b:=1000) (az V) hVin;have:(az V).length*1000<=60*1000:=amj _ hSl;omega
 have stp:∀i:Nat,i<ks.length->∃q:Flt,Hid ((KS.drop (i*5)).take 5=fA q/\i*5+5<=KS.length/\(∀{W:List Blk}{K:alc},K (de (l4 tm l w q)) (M++W)->alb 28 [.ptr rt 0,.agg (fA q),.int .i64 w] (M++W) K)/\(i:Int)<(ks.length:Int)/\IntKind.i64.wrap ((i:Int)+1)=(i:Int)+1/\V.take (i+1)=V.take i++[l4 tm l w q]):=λi hlt=>by
  refine⟨ks.getD i ZC,hid ⟨?_,?_,?_,aoz,ab aoz aoz,?_⟩⟩;rw[hKS.o];exact YN hlt;rw[hKS.o,UP];omega;exact λq=>ih3.o _ (by simp[hlt]) q
  rw[aly aoz];congr 1;simp[<- hV.o,hlt]
 have e1:∀A:Blk,(M++[A]).length=M.length+1:=λA=>aoA
 clear hrs hlen ih3 hT hD he;replace h:=hid h;refine ac br (by simp[ay]) ?_;simp only[ay,am];rcases hk with rfl|rfl;refine wk ?_;refine bt (l:=[]) (n:=0) 10 1 rfl (alG 1).symm ?_;rw[e1];refine ah (λm T' L'=>∃(i n:Nat) (C:List AV) (ev:Bool) (Y:List Blk),m=ks.length-i/\i<=ks.length/\Hid (C=(az (V.take i)).map bO/\n=(az (V.take i)).length/\ev=(V.take i).all Option.isSome)/\T'=[(24,.int .i64 (i:Int)),(23,.int .i64 ks.length),(11,.bool ev),(10,.gsl C n (M.length+1) 1),(4,.ptr M.length 0),(0,.ptr rt 0),(2,.int .i64 w)]/\L'=M++(.cells [.int .i64 0,.str a,.str v,.sl PS ps.length none,.sl KS ks.length none] :: .spare n 1::Y)) aoD ⟨0,0,[],true,[],rfl,ali _,hid ⟨rfl,rfl,rfl⟩,rfl,aoA⟩ ?_;rintro _ _ _ ⟨i,n,C,ev,Y,rfl,hi,hC,rfl,rfl⟩;by_cases hlt:i<ks.length;obtain⟨q,hq⟩:=stp i hlt;obtain⟨e3,e4,e5,g1,g2,e6⟩:=hq.o;have hn60:n<=60:=by have h1:=hC.o.2.1;have h2:=iC (V.take i);rw[amJ]at h2;omega
 cases ha:l4 tm l w q with
 | none =>
   rw[ha]at e5 e6;simp only[de]at e5;have kk1:=@hid _ @e5;obtain⟨ev2,hev⟩:=ak7 (false);have hC2:=hid (show C=(az (V.take (i+1))).map bO/\n=(az (V.take (i+1))).length/\ev2=(V.take (i+1)).all Option.isSome by
    rw[e6,gh,amB,<- hC.o.2.2,<- hev];refine⟨?_,?_,?_⟩
    .simpa[az]using hC.o.1
    .simpa[az]using hC.o.2.1
    .simp)
   clear e5 hq e6 ha;simp only[Lq]at e3 kk1;cases ev with
   | false =>
     subst hev;refine wk ?_;exact aoE aoz aoC ⟨i+1,n,_,false,_,rfl,hlt,hC2,rfl,rfl⟩
   | true =>
     subst hev;refine wk ?_;exact aoE aoz aoC ⟨i+1,n,_,false,_,rfl,hlt,hC2,rfl,rfl⟩
 | some m =>
   rw[ha]at e5 e6;simp only[de]at e5;have kk1:=@hid _ @e5;obtain⟨ev2,hev⟩:=ak7 (ev);have hC2:=hid (show C++[bO m]=(az (V.take (i+1))).map bO/\n+1=(az (V.take (i+1))).length/\ev2=(V.take (i+1)).all Option.isSome by
    rw[e6,gh,amB,<- hC.o.2.2,<- hev];refine⟨?_,?_,?_⟩
    .rw[hC.o.1];simp[az]
    .rw[hC.o.2.1];simp[az]
    .simp)
   clear e5 hq e6 ha;simp only[Lq]at e3 kk1;cases ev with
   | false =>
     subst hev;refine wk ?_;exact aoE aoz aoC ⟨i+1,n+1,_,false,_,rfl,hlt,hC2,rfl,rfl⟩
   | true =>
     subst hev;refine wk ?_;exact aoE aoz aoC ⟨i+1,n+1,_,true,_,rfl,hlt,hC2,rfl,rfl⟩
 have hke:i=ks.length:=aoz;subst hke;have g1:¬(ks.length:Int)<(ks.length:Int):=aoz;have hE:C=(az (V.take ks.length)).map bO/\n=(az (V.take ks.length)).length:=⟨hC.o.1,hC.o.2.1⟩;have hE2:=hC.o.2.2;clear stp;rw[<- hnl,alt]at hE hE2;obtain⟨rfl,rfl⟩:=hE;replace hnl:=hid hnl;replace hSl:=hid hSl;replace hFl:=hid hFl;clear hE2;have kk1:Hid (∀{i:Nat}{W:List Blk}{K:alc},K (bO (qY (az V))) W->alb 60 [.gsl ((az V).map bO) (az V).length i 1] W K):=@hid _ (λ{i W K} q=>fI (by simpa only[AV.frzL,AV.frz,PB]using ae6 (cap:=none) (by have:=hSl.o;omega) hFl.o (λm hm=>by have:=hVin m hm;omega) q));obtain⟨b,hb⟩:=ak7 (decide (0<((az V).length:Int)));have h:K (de (fN w (if b=true then some (qY (az V))else none))) M:=by
  have:=h.o;rw[Ww,if_pos rfl]at this;rw[<- hb];cases hs:az V with
  |nil=>rw[hs,if_pos rfl]at this;simpa using this
  |cons x r=>rw[hs,if_neg aoA]at this;simpa using this
 obtain⟨ls,hls⟩:=ak7 (az V);obtain⟨R,hR⟩:=ak7 (qY ls);rw[hls]at kk1 h hb⊢;rw[hR]at kk1 h;clear hVin hls hR hC;cases b with
 | false =>
   have h':=hid (show K (de none) M from h);simp only[de]at h';have g3:¬(0:Int)<(ls.length:Int):=of_decide_eq_false hb;have g4:¬(ls.length:Int)>0:=g3;replace hb:=hid hb;refine wk ?_;exact ae rfl h'.o
 | true =>
   simp only[if_true]at h;have g3:(0:Int)<(ls.length:Int):=of_decide_eq_true hb;have g4:(ls.length:Int)>0:=g3;by_cases hw:w<(R.length:Int)
   .rw[fN,if_pos hw]at h;simp only[de]at h;have hw2:(R.length:Int)>w:=hw;have h':=hid h;replace hb:=hid hb;refine wk ?_;exact ae rfl h'.o
   .rw[fN,if_neg hw]at h;simp only[de]at h;have hw2:¬(R.length:Int)>w:=hw;have h':=hid h;replace hb:=hid hb;refine wk ?_;exact ae (by simp only[AV.refs,AV.refsL,eW,alX]) h'.o
 refine wk ?_;refine bt (l:=[]) (n:=0) 10 1 rfl (alG 1).symm ?_;rw[e1];refine ah (λm T' L'=>∃(i n:Nat) (C:List AV) (ev:Bool) (Y:List Blk),m=ks.length-i/\i<=ks.length/\Hid (C=(az (V.take i)).map bO/\n=(az (V.take i)).length/\ev=(V.take i).all Option.isSome)/\T'=[(24,.int .i64 (i:Int)),(23,.int .i64 ks.length),(11,.bool ev),(10,.gsl C n (M.length+1) 1),(4,.ptr M.length 0),(0,.ptr rt 0),(2,.int .i64 w)]/\L'=M++(.cells [.int .i64 1,.str a,.str v,.sl PS ps.length none,.sl KS ks.length none] :: .spare n 1::Y)) aoD ⟨0,0,[],true,[],rfl,ali _,hid ⟨rfl,rfl,rfl⟩,rfl,aoA⟩ ?_;rintro _ _ _ ⟨i,n,C,ev,Y,rfl,hi,hC,rfl,rfl⟩;by_cases hlt:i<ks.length;obtain⟨q,hq⟩:=stp i hlt;obtain⟨e3,e4,e5,g1,g2,e6⟩:=hq.o;have hn60:n<=60:=by have h1:=hC.o.2.1;have h2:=iC (V.take i);rw[amJ]at h2;omega
 cases ha:l4 tm l w q with
 | none =>
   rw[ha]at e5 e6;simp only[de]at e5;have kk1:=@hid _ @e5;obtain⟨ev2,hev⟩:=ak7 (false);have hC2:=hid (show C=(az (V.take (i+1))).map bO/\n=(az (V.take (i+1))).length/\ev2=(V.take (i+1)).all Option.isSome by
    rw[e6,gh,amB,<- hC.o.2.2,<- hev];refine⟨?_,?_,?_⟩
    .simpa[az]using hC.o.1
    .simpa[az]using hC.o.2.1
    .simp)
   clear e5 hq e6 ha;simp only[Lq]at e3 kk1;cases ev with
   | false =>
     subst hev;refine wk ?_;exact aoE aoz aoC ⟨i+1,n,_,false,_,rfl,hlt,hC2,rfl,rfl⟩
   | true =>
     subst hev;refine wk ?_;exact aoE aoz aoC ⟨i+1,n,_,false,_,rfl,hlt,hC2,rfl,rfl⟩
 | some m =>
   rw[ha]at e5 e6;simp only[de]at e5;have kk1:=@hid _ @e5;obtain⟨ev2,hev⟩:=ak7 (ev);have hC2:=hid (show C++[bO m]=(az (V.take (i+1))).map bO/\n+1=(az (V.take (i+1))).length/\ev2=(V.take (i+1)).all Option.isSome by
    rw[e6,gh,amB,<- hC.o.2.2,<- hev];refine⟨?_,?_,?_⟩
    .rw[hC.o.1];simp[az]
    .rw[hC.o.2.1];simp[az]
    .simp)
   clear e5 hq e6 ha;simp only[Lq]at e3 kk1;cases ev with
   | false =>
     subst hev;refine wk ?_;exact aoE aoz aoC ⟨i+1,n+1,_,false,_,rfl,hlt,hC2,rfl,rfl⟩
   | true =>
     subst hev;refine wk ?_;exact aoE aoz aoC ⟨i+1,n+1,_,true,_,rfl,hlt,hC2,rfl,rfl⟩
 have hke:i=ks.length:=aoz;subst hke;have g1:¬(ks.length:Int)<(ks.length:Int):=aoz;have hE:C=(az (V.take ks.length)).map bO/\n=(az (V.take ks.length)).length:=⟨hC.o.1,hC.o.2.1⟩;have hE2:=hC.o.2.2;clear stp;rw[<- hnl,alt]at hE hE2;obtain⟨rfl,rfl⟩:=hE;replace hnl:=hid hnl;replace hSl:=hid hSl;replace hFl:=hid hFl;have kk1:Hid (∀{i:Nat}{W:List Blk}{K:alc},K (bO (GH (az V))) W->alb 61 [.gsl ((az V).map bO) (az V).length i 1] W K):=@hid _ (λ{i W K} q=>fI (by simpa only[AV.frzL,AV.frz,PB]using ae8 (cap:=none) (by have:=hSl.o;omega) hFl.o q));obtain⟨b,hb⟩:=ak7 (ev);have h:K (de (fN w (if b=true then some (GH (az V))else none))) M:=by have:=h.o;rw[Ww,if_neg aoz]at this;rw[<- hb,hE2];exact this
 subst hb;obtain⟨b,hb⟩:=ak7 (ev);obtain⟨ls,hls⟩:=ak7 (az V);obtain⟨R,hR⟩:=ak7 (GH ls);rw[hls]at kk1 h⊢;rw[hR]at kk1 h;rw[hb]at h⊢;clear hVin hls hR hC hE2 hb;cases b with
 | false =>
   have h':=hid (show K (de none) M from h);simp only[de]at h';refine wk ?_;exact ae rfl h'.o
 | true =>
   simp only[if_true]at h;by_cases hw:w<(R.length:Int)
   .rw[fN,if_pos hw]at h;simp only[de]at h;have hw2:(R.length:Int)>w:=hw;have h':=hid h;refine wk ?_;exact ae rfl h'.o
   .rw[fN,if_neg hw]at h;simp only[de]at h;have hw2:¬(R.length:Int)>w:=hw;have h':=hid h;refine wk ?_;exact ae (by simp only[AV.refs,AV.refsL,eW,alX]) h'.o
 rw[if_neg hk]at h;have k0:¬k=0:=λe=>hk (.inl e)
 have k1:¬k=1:=λe=>hk (.inr e)
 clear hk ih3 hKS;have kkH:Hid (∀{W:List Blk}{K:alc},K (.bool (bB tm (af a)).isSome) (M++W)->alb 63 [.ptr rt 0,.str a] (M++W) K):=@hid _ (λ{W K} q=>Ql hT (hDM.o W) hn q);unfold lfO ach at h;by_cases k38:k=3\/k=8
 .have kkE:Hid (∀{W:List Blk}{K:alc},K (iq (WR tm l a v)) (M++W)->alb 62 [.ptr rt 0,.str a,.str v] (M++W) K):=@hid _ (λ{W K} q=>ahV hT (hDM.o W) hrs hl he hn q);obtain⟨b,hb⟩:=ak7 ((bB tm (af a)).isSome);obtain⟨R,hR⟩:=ak7 (WR tm l a v);have h:K (de (fN w (if b=true then some R else none))) M:=by
   rw[<- hb,<- hR];unfold WR;unfold tyO at h;cases hg:bB tm (af a)with
   |none=>rw[hg]at h;simpa using h
   |some ty=>rw[hg]at h;simp only[alz,if_pos k38]at h;simpa using h
  rw[hb]at kkH;rw[hR]at kkE;have kk1:=@kkE;have kk2:=@kkH;clear hR hb kkE kkH hDM hT hD he;rcases k38 with rfl|rfl
  all_goals
   cases b with
   | false =>
     have h':=hid (show K (de none) M from h);simp only[de]at h';refine ala br ?_;exact ae rfl h'.o
   | true =>
     simp only[if_true]at h;by_cases hw:w<(R.length:Int);rw[fN,if_pos hw]at h;simp only[de]at h;have hw2:(R.length:Int)>w:=hw;have h':=hid h;refine ala br ?_;exact ae rfl h'.o;rw[fN,if_neg hw]at h;simp only[de]at h;have hw2:¬(R.length:Int)>w:=hw;have h':=hid h;refine ala br ?_;exact ae (by simp only[AV.refs,AV.refsL,eW,alX]) h'.o
 by_cases k7:k=7;have kkE:Hid (∀{W:List Blk}{K:alc},K (iq (Pt tm l a)) (M++W)->alb 64 [.ptr rt 0,.str a] (M++W) K):=@hid _ (λ{W K} q=>ahN hT (hDM.o W) hl he hn q);obtain⟨b,hb⟩:=ak7 ((bB tm (af a)).isSome);obtain⟨R,hR⟩:=ak7 (Pt tm l a);have h:K (de (fN w (if b=true then some R else none))) M:=by
  rw[<- hb,<- hR];unfold Pt;unfold tyO at h;cases hg:bB tm (af a)with
  |none=>rw[hg]at h;simpa using h
  |some ty=>rw[hg]at h;simp only[alz,if_neg k38,if_pos k7]at h;simpa using h
 rw[hb]at kkH;rw[hR]at kkE;have kk1:=@kkE;have kk2:=@kkH;clear hR hb kkE kkH hDM hT hD he;subst k7;cases b with
 | false =>
   have h':=hid (show K (de none) M from h);simp only[de]at h';refine ala br ?_;exact ae rfl h'.o
 | true =>
   simp only[if_true]at h;by_cases hw:w<(R.length:Int)
   .rw[fN,if_pos hw]at h;simp only[de]at h;have hw2:(R.length:Int)>w:=hw;have h':=hid h;refine ala br ?_;exact ae rfl h'.o
   .rw[fN,if_neg hw]at h;simp only[de]at h;have hw2:¬(R.length:Int)>w:=hw;have h':=hid h;refine ala br ?_;exact ae (by simp only[AV.refs,AV.refsL,eW,alX]) h'.o
 have k3:¬k=3:=λe=>k38 (.inl e)
 have k8:¬k=8:=λe=>k38 (.inr e)
 by_cases k4:k=4;rotate_left;have h':=hid (show K (de none) M by
  unfold tyO at h;cases hg:bB tm (af a)with
  |none=>rw[hg]at h;exact h
  |some ty=>rw[hg]at h;simp only[alz,if_neg k38,if_neg k7,if_neg (λe:k=4/\_=>k4 e.1)]at h;exact h)
 simp only[de]at h';clear h kkH hDM k38 hT hD he;refine ala br ?_;exact ae rfl h'.o;subst k4;have kkC:Hid (∀{W:List Blk}{K:alc},K (.int .i64 (if qX ps=true then 0 else 4)) W->alb 46 [.agg [.int .i64 4,.str [97],.str [],.sl PS ps.length none,.sl [] 0 (some 0)]] W K):=@hid _ (λ{W K} q=>by rw[hPS.o];exact adn aoz q)
 unfold tyO at h;cases hg:bB tm (af a)with
 | none =>
   rw[hg]at h kkH;simp only[alP,amM,fN,de]at h kkH;have kk1:=@kkH;have h':=hid h;clear h kkH kkC hDM hPS hg k38 hT hD he;refine ala br ?_;exact ae rfl h'.o
 | some ty =>
   have kkL:Hid (∀{W:List Blk}{K:alc},K (iq (Lf (ed tm) l (af a) ty.2.1 ps)) (M++W)->alb 65 [.ptr rt 0,.str a,.sl PS ps.length none] (M++W) K):=@hid _ (λ{W K} q=>by rw[hPS.o];exact ahS hT (hDM.o W) hrs hl he hn hg ⟨aoz,λp hp=>by have:=r4 p hp;omega⟩ q)
   have hts:=hT.typ hg;have hs1:=aeb ty (am6 hts);obtain⟨kx,hkx,hkt,kA⟩:=acw hn hts;rw[hg]at h kkH;simp only[alz,amu]at h kkH;rw[if_neg k38,if_neg k7]at h;cases hp:qX ps with
   | false =>
     rw[hp]at h kkC;rw[if_neg aoA]at h;simp only[alx,if_false]at kkC;simp only[fN,de]at h;have kk1:=@kkH;have kk2:=@kkC;have h':=hid h;clear h kkH kkC kkL hDM hPS hg k38 hp kA hkt hts hkx hT hD he;refine ala br ?_;exact ae rfl h'.o
   | true =>
     rw[hp]at h kkC;simp only[if_true]at kkC;obtain⟨t1,t2,t3,t4⟩:=ty;simp only at h kkL hs1;have e3:=q9 hkx;rw[hkt]at e3;have e5:(bU an).getD (kx*4+1) .undef=.int .i64 t2:=by have h3:=congrArg (λl=>l[1]?) e3;simp only[amc (show 1<4 by omega),al5]at h3;rw[alD,h3];rfl
     have e4:kx*4+4<=(bU an).length:=(by rw[rx];omega);have kkAt:Hid (Ctr Tryz.prog 12 [.sl (bU an) an.length none,.str a] (.int .i64 kx)):=@hid _ (λ{L K} q=>kA q);obtain⟨R,hR⟩:=ak7 (Lf (ed tm) l (af a) t2 ps);obtain⟨b,hb⟩:=ak7 (decide (t2<=3));have h:K (de (fN w (if b=true then some R else none))) M:=by
      rw[<- hb,<- hR];by_cases hs:t2<=3
      .rw[if_pos (by simp[hs])]at h;simpa[hs]using h
      .rw[if_neg (by simp[hs])]at h;simpa[hs]using h
     rw[hR]at kkL;obtain⟨k2,hL0⟩:=hDM.o [];obtain⟨TS,hTS⟩:=ak7 (bU an);obtain⟨tl,htl⟩:=ak7 (an.length);obtain⟨NS,hNS⟩:=ak7 ((tm.map (·.1)).map AV.str);obtain⟨CC,hCC⟩:=ak7 (Lt);have hL:M[rt]?=some (.cells [.sl TS tl none,.sl CC 9 none,.sl NS tm.length none,.sl (bM l) l.length k2]):=by simpa only[GV,hTS,htl,hNS,hCC,alN,alL,alJ]using hL0
     have hLW:∀W,(M++W)[rt]?=some (.cells [.sl TS tl none,.sl CC 9 none,.sl NS tm.length none,.sl (bM l) l.length k2]):=λW=>by rw[alm (ald.1 hL).1];exact hL
     rw[hTS,htl]at kkAt;rw[hTS]at e5 e4;rw[htl]at hkx;have hkn:(0:Int)<=(kx:Int):=aoz;have hkl:(kx:Int)<(tl:Int):=aoz;have hs2:t2≥1:=hs1;have kk1:=@kkH;have kk2:=@kkC;have kk3:=@kkAt;have kk4:=@kkL;clear kkH kkC kkL kkAt hDM hPS hg k38 hp kA hkt hts hR hL0 hTS htl hNS hCC hL e3 hT hD he;cases b with
     | false =>
       have h':=hid (show K (de none) M from h);simp only[de]at h';have g3:¬t2<=3:=of_decide_eq_false hb;replace hb:=hid hb;refine ala br ?_;exact ae rfl h'.o
     | true =>
       simp only[if_true]at h;have g3:t2<=3:=of_decide_eq_true hb;by_cases hw:w<(R.length:Int)
       .rw[fN,if_pos hw]at h;simp only[de]at h;have hw2:(R.length:Int)>w:=hw;have h':=hid h;replace hb:=hid hb;refine ala br ?_;exact ae rfl h'.o
       .rw[fN,if_neg hw]at h;simp only[de]at h;have hw2:¬(R.length:Int)>w:=hw;have h':=hid h;replace hb:=hid hb;refine ala br ?_;exact ae (by simp only[AV.refs,AV.refsL,eW,alX]) h'.o
end Go.Proofs.YtcmfcpjnhephaaaGreatDoor.Av
set_option maxRecDepth 100000
namespace Go.Proofs.YtcmfcpjnhephaaaGreatDoor.Av
open Go
def qH:LSO:=[Ag 4]
def qG:LSO:=[Aa 5 0,Ar 6 5,Ac 7 1 6,Ab 8 1 7,Aa 9 0,Ar 10 9,Ac 11 0 10,Ab 12 1 11,Ax 13 12,Al 14 8 13,Aa 15 14,.grp none 15 true
 [Ae 16 15 0,AS 17 15 16,A6 18 15 0 17,A5 19 15 1 18,Ae 20 15 0,AS 21 15 20,A6 22 15 1 21,A5 23 15 1 22,AT 24 15 19 23,Ae 25 15 1,Cd 26 15 24 25]
 27 (tm 26)]
def qF:LSO:=[Aa 28 0,Ar 29 28,Ac 30 1 29,Ab 31 1 30,Af 32 31 1,Ar 33 28,Ac 34 1 33,Ai 1 34 32]
def qE:LSO:=[Az 4]
def qD:LSO:=[Ag 4]
def dY:aG:=⟨35,(aos qH [] (.seq (.seq (.sdreg qG [.pure,(.read 0 0),.pure,(.read 0 0),.pure,(.read 0 0),.pure,(.read 0 0),(.read 0 0),.pure,.pure,.pure,(.read 0 0),.pure,(.read 0 0),.pure,(.read 0 0),.pure,(.read 0 0),(.read 0 0),.pure] CF) (aot 27 (aos qF C7 (aos qE [] .ret)) .skip)) (aos qD [] .ret))),[(.tmp 4)]⟩
attribute [push_cast] qH qG qF qE qD
theorem p0:aox 150=aoy dY:=aoB
def mX:LSO:=[AX 2]
def mW:LSO:=[Aa 14 0,Ar 15 14,Ac 16 1 15,Ab 17 1 16,Aa 3 17]
def mV:LSO:=[Aa 18 0,Ar 19 18,Ac 20 1 19,Ab 21 1 20,Aa 22 0,Ar 23 22,Ac 24 0 23,Ab 25 1 24,Ax 26 25,Al 27 21 26,Aa 28 27,.grp none 28 true
 [Ae 29 28 0,AS 30 28 29,A6 31 28 0 30,A5 32 28 1 31,Ae 33 28 3,Ae 34 28 0,AS 35 28 34,A6 36 28 1 35,A5 37 28 1 36,Ch 38 28 37 1,
 og 39 28 true (.slS (tm 32) (some (tm 33)) (some (tm 38))),AL 40 28 134 39]
 41 (tm 40)]
def mU:LSO:=[Aa 42 0,Ar 43 42,Ac 44 1 43,Ab 45 1 44,Af 46 45 1,Ar 47 42,Ac 48 1 47,Ai 1 48 46]
def mT:List (aj×Kd):=
 [A8 49 0,AI 50 49 0 1,A7 51 0 50,A0 52 1 51 0 1,A8 53 3,A8 54 0,AI 55 54 0 1,A7 56 1 55,A0 57 1 56 0 1,od 58 (.slS (tm 52) (some (tm 53)) (some (tm 57))) (.read 0 1),
 od 59 (.build [(.int .i64 0),(.str []),(.str []),(.sl [] 0 (some 0)),(.sl [] 0 (some 0))] [(1,(1,(tm 58)))]) .pure,
 od 4 (.alloc [(.int .i64 0),(.str []),(.str []),(.sl [] 0 (some 0)),(.sl [] 0 (some 0))]) .eff]
def jU:List aj :=
 [⟨none,(.store 5 (tm 4) (tm 59)),none⟩]
def mS:LSO:=[Ac 60 1 4,Ab 61 1 60,BC 62 61]
def mR:LSO:=[Aa 63 0,AN 64 151 63 4,Ai 5 2 64]
def mQ:LSO:=[Ac 65 0 4,Bd 1 65 3]
def mP:LSO:=[Aa 66 0,o1 67 (.call 150 [(tm 66),(.av (.int .u8 62))])]
def mO:LSO:=[Ac 68 0 4,Bd 1 68 5]
def kZ:LSO:=[Aa 69 0,o1 70 (.call 150 [(tm 69),(.av (.int .u8 60))])]
def kY:LSO:=[Ac 71 0 4,Bd 1 71 6]
def kX:LSO:=[Aa 72 0,o1 73 (.call 150 [(tm 72),(.av (.int .u8 126))])]
def kW:LSO:=[Ac 74 0 4,Bd 1 74 8]
def kV:LSO:=[Aa 75 0,o1 76 (.call 150 [(tm 75),(.av (.int .u8 61))]),Ay 77 76]
def kU:LSO:=[Aa 78 0,AN 79 151 78 4,Ai 5 2 79]
def kS:LSO:=[Ad 5 0]
def kO:LSO:=[Ah 6]
def kL:LSO:=[Ah 7]
def kK:LSO:=[Aa 80 0,o1 81 (.call 150 [(tm 80),(.av (.int .u8 41))]),Ay 82 81]
def kJ:LSO:=[Aa 83 0,Ar 84 83,Ac 85 1 84,Ab 86 1 85,Aa 87 0,Ar 88 87,Ac 89 0 88,Ab 90 1 89,Ax 91 90,AC 92 86 91]
def kE:LSO:=[Aa 93 0,AN 94 151 93 4,Ai 5 2 94]
def kz:LSO:=[Aa 95 0,Ar 96 95,Ac 97 0 96,Ab 98 1 97,Aa 99 0,Ar 100 99,Ac 101 1 100,Ab 102 1 101,AB 103 98 102,Aa 8 103]
def ky:LSO:=[Aa 104 0,Ar 105 104,Ac 106 1 105,Ab 107 1 106,Af 108 107 1,Ar 109 104,Ac 110 1 109,Ai 1 110 108]
def kw:LSO:=[Aa 111 8,o1 112 (.bin .eql (tm 111) (.av (.int .u8 42)))]
def ku:LSO:=[Aa 113 5,Af 114 113 1,Aa 5 114]
def kr:LSO:=[Aa 115 6,Aa 116 7,AO 117 116,Bo 118 117,Bi 119 115 118,Aa 6 119]
def kq:LSO:=[Ah 7]
def kp:LSO:=[Aa 120 8,o1 121 (.bin .eql (tm 120) (.av (.int .u8 92)))]
def ko:LSO:=[Aa 122 0,Ar 123 122,Ac 124 1 123,Ab 125 1 124,Af 126 125 2,Aa 127 0,Ar 128 127,Ac 129 0 128,Ab 130 1 129,Ax 131 130,
 o1 132 (.bin .gtr (tm 126) (tm 131))]
def kn:LSO:=[Aa 133 0,AN 134 151 133 4,Ai 5 2 134]
def kl:LSO:=[Aa 136 0,Ar 137 136,Ac 138 0 137,Ab 139 1 138,Aa 140 0,Ar 141 140,Ac 142 1 141,Ab 143 1 142,Aa 144 0,Ar 145 144,Ac 146 1 145,Ab 147 1 146,
 Af 148 147 2,Bm 149 139 143 148,Am 150 189 149,Aa 135 150,As 151 135,Aw 152 135,Aa 9 151,Aa 10 152]
def kk:LSO:=[Aa 153 10,Ay 154 153]
def kj:LSO:=[Aa 155 0,AN 156 151 155 4,Ai 5 2 156]
def ki:LSO:=[Aa 157 7,Aa 158 9,BA 159 158 0,AM 160 159,AH 161 157 160,Aa 7 161]
def kg:LSO:=[Aa 162 0,Ar 163 162,Ac 164 1 163,Ab 165 1 164,Af 166 165 2,Ar 167 162,Ac 168 1 167,Ai 1 168 166]
def kf:LSO:=[Aa 169 8,BD 170 169,Aa 171 170,.grp none 171 false
 [Aj 172 171 8,og 173 171 false (.bin .eql (tm 172) (.av (.int .u8 40)))]
 174 (tm 173)]
def ke:LSO:=[Aa 175 0,AN 176 151 175 4,Ai 5 2 176]
def kc:LSO:=[Aa 177 7,Aa 178 8,AM 179 178,AH 180 177 179,Aa 7 180]
def kb:LSO:=[Aa 181 6,Aa 182 7,AO 183 182,Bo 184 183,Bi 185 181 184,Aa 6 185]
def j9:LSO:=[Aa 186 5,Ao 187 186 0]
def j8:LSO:=[Aa 188 6,o1 189 (.iaddr 1 (tm 188) (iv 0)),Ab 190 1 189,Ac 191 2 4,Ai 1 191 190]
def j7:LSO:=[Ap 192 5 4,Ai 5 2 192]
def j6:LSO:=[Ac 193 0 4,Ab 194 1 193,AE 195 194 3]
def j5:LSO:=[Aa 196 0,AN 197 151 196 4,Ai 5 2 197]
def jZ:LSO:=[Aa 198 5,Ao 199 198 1,Aa 200 199,.grp none 200 true
 [Ae 201 200 6,og 202 200 true (.iaddr 1 (tm 201) (iv 0)),A5 203 200 1 202,Ct 204 200 203]
 205 (tm 204),Aa 206 205,.grp none 206 true
 [Ae 207 206 6,og 208 206 true (.iaddr 1 (tm 207) (iv 1)),A5 209 206 1 208,Ct 210 206 209]
 211 (tm 210)]
def jY:LSO:=[Ac 212 0 4,Bd 1 212 7]
def jX:LSO:=[Ap 213 5 4,Ai 5 2 213]
def jW:LSO:=[Ac 214 0 4,Bd 1 214 4]
def jV:LSO:=[Aa 215 6,Ak 216 215,Ad 217 0]
def jT:LSO:=[Al 218 217 216]
def jS:LSO:=[Aa 219 217,An 220 1 215 217,Ab 221 1 220,Aa 11 219,Aa 12 221]
def jR:LSO:=[Aa 222 11,A3 223 222 0,Aa 224 223,.grp none 224 true
 [Ae 225 224 11,Ae 226 224 5,Bn 227 224 225 226]
 228 (tm 227),Aa 229 228,.grp none 229 true
 [Ae 230 229 12,Ct 231 229 230]
 232 (tm 231)]
def jQ:LSO:=[Aa 233 0,AN 234 151 233 4,Ai 5 2 234]
def jP:LSO:=[Aa 235 12,Cg 236 235]
def jO:LSO:=[Ad 13 1]
def jN:LSO:=[Aa 237 11,Ao 238 237 0]
def jM:LSO:=[Ad 13 0]
def jL:LSO:=[Aa 239 11,Aa 240 5,AC 241 239 240]
def jK:LSO:=[Ad 13 2]
def jJ:LSO:=[Ac 242 3 4,Ab 243 1 242,Aa 244 13,Aa 245 12,o1 246 (.build [(.int .i64 0),(.str [])] [(0,(1,(tm 244))),(1,(1,(tm 245)))]),
 o1 247 (.bslice false 2 1 [(.int .i64 0),(.str [])] [(0,(2,(tm 246)))]),o1 248 (.app 1 2 24 [(.int .i64 0),(.str [])] (tm 243) (tm 247)),Ac 249 3 4,Ai 1 249 248]
def jI:LSO:=[Af 250 217 1,Aa 217 250]
def jH:LSO:=[Ap 251 5 4,Ai 5 2 251]
def dG:aG:=⟨252,(aos mX [] (aos mW Cx (.seq (aov 0 (.seq (.seq (.sdreg mV [.pure,(.read 0 0),.pure,(.read 0 0),.pure,(.read 0 0),.pure,(.read 0 0),(.read 0 0),.pure,.pure,.pure,(.read 0 0),.pure,(.read 0 0),.pure,.pure,(.read 0 0),.pure,(.read 0 0),.pure] CF) (aow 41 0)) (.block 1 (.sreg mU C7)))) (.seq (.dregM mT jU CF) (.seq (aos mS Cv (aou 62 (.sreg mR C3))) (aos mQ CA (.seq (aos mP Cu (aot 67 (.sreg mO CA) (aos kZ Cu (aot 70 (.sreg kY CA) (aos kX Cu (aot 73 (.sreg kW CA) .skip)))))) (.seq (aos kV Cv (aou 77 (.sreg kU C3))) (aos kS [] (aos kO [] (aos kL [] (.seq (aov 2 (.seq (aos kK Cv (aow 82 2)) (.block 3 (.seq (.seq (.sdreg kJ [.pure,(.read 0 0),.pure,(.read 0 0),.pure,(.read 0 0),.pure,(.read 0 0),(.read 0 0)] CI) (aou 92 (.sreg kE C3))) (.seq (.sdreg kz [.pure,(.read 0 0),.pure,(.read 0 0),.pure,(.read 0 0),.pure,(.read 0 0)] CI) (aos ky C7 (aos kw Cu (aot 112 (aos ku Cv (aos kr Cy (.sreg kq []))) (aos kp Cu (aot 121 (.seq (.seq (.sdreg ko [.pure,(.read 0 0),.pure,(.read 0 0),.pure,.pure,(.read 0 0),.pure,(.read 0 0),(.read 0 0)] CP) (aou 132 (.sreg kn C3))) (.seq (.sdreg kl [.pure,(.read 0 0),.pure,(.read 0 0),.pure,(.read 0 0),.pure,(.read 0 0),.pure,(.read 0 0),.pure,(.read 0 0),.pure,(.read 0 0),(.read 0 0),.pure,.pure,.pure,.pure] [true,true,false,false,false,false,false,false,false,false,false,false,false,false,false,false,false,false,false,false]) (.seq (aos kk Cu (aou 154 (.sreg kj C3))) (aos ki Cy (.sreg kg C7))))) (aos kf Cw (aot 174 (aos ke C3 .ret) (.sreg kc Cx))))))))))))) (aos kb Cy (.seq (aos j9 Cu (aot 187 (aos j8 CN (aos j7 CA .ret)) .skip)) (.seq (aos j6 Cv (aou 195 (.sreg j5 C3))) (.seq (aos jZ Cy (aot 211 (aos jY CA (aos jX CA .ret)) .skip)) (aos jW CA (.seq (aos jV [] (aov 4 (aos jT [] (.seq (aow 218 4) (.seq (.block 5 (aos jS C4 (.seq (aos jR Cy (aou 232 (.sreg jQ C3))) (aos jP Cu (aot 236 (aos jO [] (.seq (aos jN Cu (aot 238 (.sreg jM []) (aos jL Cv (aot 241 (.sreg jK []) .skip)))) (.sreg jJ CJ))) .skip))))) (.sreg jI Cu)))))) (aos jH CA .ret))))))))))))))))))),[(.cell true 5 2)]⟩
attribute [push_cast] mX mW mV mU mT jU mS mR mQ mP mO kZ kY kX kW kV kU kS kO kL kK kJ kE kz ky kw ku kr kq kp ko kn kl kk kj ki kg kf ke kc kb j9 j8 j7 j6 j5 jZ jY jX jW jV jT jS jR jQ jP jO jN jM jL jK jJ jI jH
theorem lS:aox 152=aoy dG:=aoB
def D1:LSO:=[AX 2,Ad 3 0]
def DZ:LSO:=[Aa 6 0,Ax 7 6,A3 8 7 4096]
def DY:LSO:=[o1 9 (.build [(.int .i64 0),(.str []),(.str []),(.sl [] 0 (some 0)),(.sl [] 0 (some 0))] []),Ai 5 2 9,Ad 3 5]
def DX:LSO:=[Aa 10 0,o1 11 (.build [(.str []),(.int .i64 0),(.int .i64 0),(.int .i64 0)] [(0,(1,(tm 10)))]),A4 12 11,Aa 4 12]
def DW:LSO:=[Aa 13 4,AN 14 107 13 1,AX 5,Ai 5 5 14]
def DV:LSO:=[Aa 15 4,Ar 16 15,Ac 17 3 16,Ab 18 1 17,Ao 19 18 0,Aa 20 19,.grp none 20 true
 [Ae 21 20 4,AS 22 20 21,A6 23 20 1 22,A5 24 20 1 23,Ae 25 20 0,BP 26 20 25,Bn 27 20 24 26]
 28 (tm 27)]
def DU:LSO:=[Aa 29 4,Ar 30 29,Ac 31 3 30,Bd 1 31 4]
def DT:LSO:=[Aa 32 4,Ar 33 32,Ac 34 3 33,Ab 35 1 34,AE 36 35 0]
def DS:List (aj×Kd):=
 [od 37 (.build [(.int .i64 0),(.str []),(.str []),(.sl [] 0 (some 0)),(.sl [] 0 (some 0))] []) .pure,A8 38 4,AI 39 38 0 1,A7 40 3 39,A0 41 1 40 0 1,
 (⟨none,(.store 5 (tm 2) (tm 37)),none⟩,.eff)]
def v6:List aj :=
 [⟨(some 3),(.mv (tm 41)),none⟩]
def DR:LSO:=[Ap 42 5 5,Ai 5 2 42,Ad 3 0]
def tz:aG:=⟨43,(aos D1 [] (.seq (aos DZ Cv (aou 8 (.sreg DY Cu))) (aos DX Cw (aos DW Cv (.seq (aos DV C0 (aot 28 (.sreg DU CQ) .skip)) (.seq (aos DT Cx (aou 36 (.dregM DS v6 Cy))) (aos DR Cu .ret))))))),[(.cell true 5 2),(.tmp 3)]⟩
attribute [push_cast] D1 DZ DY DX DW DV DU DT DS v6 DR
theorem S7:aox 58=aoy tz:=aoB
attribute [push_cast] dY dG tz
end Go.Proofs.YtcmfcpjnhephaaaGreatDoor.Av
set_option maxRecDepth 100000
namespace Go.Proofs.YtcmfcpjnhephaaaGreatDoor.Av
open Go
variable {P:Program}{N p i F:Nat}{L:List Blk}{s:List UInt8}{a b v:UInt8}{n:Int}{K:alc}{t:TypeId}{X:Type}
def iX:LSO:=[AX 4]
def iW:LSO:=[Aa 7 0,o1 8 (.call 150 [(tm 7),(.av (.int .u8 40))]),Ay 9 8]
def iV:LSO:=[Aa 10 0,AN 11 151 10 4,Ai 5 4 11]
def iU:LSO:=[Aa 12 0,Ar 13 12,Ac 14 2 13,Ab 15 1 14,Af 16 15 1,Ar 17 12,Ac 18 2 17,Ai 1 18 16]
def iT:LSO:=[Aa 19 1,A3 20 19 64]
def iS:LSO:=[Aa 21 0,AN 22 151 21 6,Ai 5 4 22]
def iR:LSO:=[Aa 23 0,Ar 24 23,Ac 25 2 24,Ab 26 1 25,A3 27 26 1000]
def iQ:LSO:=[Aa 28 0,AN 29 151 28 9,Ai 5 4 29]
def iP:LSO:=[Ad 5 0]
def iO:LSO:=[Aa 30 5,AD 31 30 3]
def hU:LSO:=[Aa 34 0,Aa 35 5,o1 36 (.idxS (.av (.str [38,124,33])) (tm 35)),Aq 37 150 34 36,Ay 38 37]
def hP:LSO:=[Aa 39 5,o1 40 (.build [(.int .i64 0),(.str []),(.str []),(.sl [] 0 (some 0)),(.sl [] 0 (some 0))] [(0,(1,(tm 39)))]),AX 6,Ai 5 6 40]
def hG:LSO:=[Aa 41 5,Ao 42 41 2]
def gZ:List (aj×Kd):=
 [A7 43 4 6,A0 44 1 43 0 1,A8 45 0,A8 46 1,od 47 (.bin .add (tm 46) (iv 1)) .pure,od 48 (.call 107 [(tm 45),(tm 47)]) .eff,
 od 49 (.bslice false 5 1 [(.int .i64 0),(.str []),(.str []),(.sl [] 0 (some 0)),(.sl [] 0 (some 0))] [(0,(5,(tm 48)))]) (.read 0 0)]
def gE:List aj :=
 [⟨(some 50),(.app 0 5 88 [(.int .i64 0),(.str []),(.str []),(.sl [] 0 (some 0)),(.sl [] 0 (some 0))] (tm 44) (tm 49)),none⟩,⟨(some 51),(.faddr 4 (tm 6)),none⟩,
 ⟨none,(.store 1 (tm 51) (tm 50)),none⟩]
def gY:LSO:=[Aa 52 5,AD 53 52 2,Aa 54 53,.grp none 54 true
 [Ae 55 54 0,AS 56 54 55,A6 57 54 3 56,A5 58 54 1 57,AZ 59 54 58 0]
 60 (tm 59),Aa 61 60,.grp none 61 true
 [Ae 62 61 0,AS 63 61 62,A6 64 61 1 63,A5 65 61 1 64,Ae 66 61 0,AS 67 61 66,A6 68 61 0 67,A5 69 61 1 68,BP 70 61 69,Bn 71 61 65 70]
 72 (tm 71),Aa 73 72,.grp none 73 true
 [Ae 74 73 0,AS 75 73 74,A6 76 73 0 75,A5 77 73 1 76,Ae 78 73 0,AS 79 73 78,A6 80 73 1 79,A5 81 73 1 80,AT 82 73 77 81,og 83 73 true (.bin .eql (tm 82) (.av (.int .u8 40)))]
 84 (tm 83)]
def gX:List (aj×Kd):=
 [A7 85 4 6,A0 86 1 85 0 1,A8 87 0,A8 88 1,od 89 (.bin .add (tm 88) (iv 1)) .pure,od 90 (.call 107 [(tm 87),(tm 89)]) .eff,
 od 91 (.bslice false 5 1 [(.int .i64 0),(.str []),(.str []),(.sl [] 0 (some 0)),(.sl [] 0 (some 0))] [(0,(5,(tm 90)))]) (.read 0 0)]
def gD:List aj :=
 [⟨(some 92),(.app 1 5 88 [(.int .i64 0),(.str []),(.str []),(.sl [] 0 (some 0)),(.sl [] 0 (some 0))] (tm 86) (tm 91)),none⟩,⟨(some 93),(.faddr 4 (tm 6)),none⟩,
 ⟨none,(.store 1 (tm 93) (tm 92)),none⟩]
def gW:LSO:=[Aa 94 0,Ar 95 94,Ac 96 3 95,Ab 97 1 96,Ao 98 97 0,Aa 99 98,Ae 100 99 0,og 101 99 true (.call 150 [(tm 100),(.av (.int .u8 41))]),BF 102 99 101,
 o1 103 (.pick (tm 99) (tm 102) (.av (.bool false)))]
def gV:LSO:=[Aa 104 0,AN 105 151 104 4,Ai 5 4 105]
def gU:LSO:=[Ap 106 5 6,Ai 5 4 106]
def gT:LSO:=[Aa 32 5,Af 33 32 1,Aa 5 33]
def gS:LSO:=[Aa 107 0,Am 108 152 107,Ai 5 4 108]
def aZ:aG:=⟨109,(aos iX [] (.seq (aos iW Cv (aou 9 (.sreg iV C3))) (aos iU C7 (.seq (aos iT Cu (aou 20 (.sreg iS C3))) (.seq (aos iR Cx (aou 27 (.sreg iQ C3))) (.seq (aos iP [] (aov 0 (.seq (aos iO Cu (aow 31 0)) (.seq (.block 1 (.seq (aos hU Cx (aot 38 (.exit 1) .skip)) (aos hP Cv (.seq (aos hG Cu (aot 42 (.dregM gZ gE Da) .skip)) (.seq (aov 2 (.seq (.seq (.sdreg gY [.pure,.pure,.pure,.pure,(.read 0 0),.pure,(.read 0 0),.pure,.pure,.pure,.pure,(.read 0 0),.pure,(.read 0 0),.pure,(.read 0 0),.pure,(.read 0 0),(.read 0 0),.pure,.pure,.pure,.pure,(.read 0 0),.pure,(.read 0 0),.pure,(.read 0 0),.pure,(.read 0 0)] C2) (aow 84 2)) (.block 3 (.dregM gX gD Da)))) (.seq (aos gW CI (aou 103 (.sreg gV C3))) (aos gU CA .ret))))))) (.sreg gT Cv))))) (aos gS C3 .ret))))))),[(.cell true 5 4)]⟩
attribute [push_cast] iX iW iV iU iT iS iR iQ iP iO hU hP hG gZ gE gY gX gD gW gV gU gT gS
theorem cF:aI Tryz.prog (λr i=>if r=14/\i=5 then 3 else if r=14/\i=7 then 0 else if r=16/\i=5 then 3 else 1) 107=some aZ.raw:=aoB
attribute [push_cast] aZ
set_option maxHeartbeats 8000000
set_option maxRecDepth 100000
abbrev rdR(s:List UInt8)(at_ n:Int):Blk:=.cells [.str s,.int .i64 at_,.int .i64 n,.int .i64 0]
theorem UZ{own:Nat->Nat->Nat}{Q:Exit->Tm->List Blk->Prop}{T:Tm}{lc:cn}{L':List Blk}(e:L=L')(h:AW P N own lc Q T L'):AW P N own lc Q T L:=e▸h
theorem UW{f:FuncId}{xs:List Opd}{T:Tm}{args:List AV}{k:AV->List Blk->Prop}(v:AV)(L2:List Blk)(h:ad P f args L λav L'=>av=v/\L'=L2)(hx:gk T xs=some args)(hk:k v L2):
 ∃v L2,EQv P ⟨none,.call f xs,none⟩ T L v L2/\k v L2:=⟨v,L2,by simp only[EQv,hx];exact h,hk⟩
theorem ak3{a:Int}{v:AV}{X:List Blk}(hr:v.refs (λi=>decide (i<L.length))=true)(h:K v (L.set p (rdR s a n))):Fin L v (L.set p (rdR s a n)++X) K :=
 fE aoA (λhh k hk'=>by rcases anA hk' with e|e;exact hh k e;subst e;rfl) hr h
theorem abe{a:Int}{c:UInt8}(hL:L[p]?=some (rdR s a n))(ha:a=i)(hi:i<s.length)(g3:s.getD i 0=c)(hs:s.length<=100)(h:K (.bool true) (L.set p (rdR s (a+1) n))):
  alb 150 [.ptr p 0,.int .u8 c.toNat] L K:=by
 subst ha;have g1:(i:Int)<(s.length:Int):=aoz;have g2:=ak9 i aoz;have hp:p<L.length:=(ald.1 hL).1;replace h:=hid h;refine ala p0 ?_;have:=ak3 (L:=L) (p:=p) (s:=s) (a:=(i:Int)+1) (n:=n) (v:=.bool true) (X:=[]) (K:=K) rfl h.o;rwa[alJ]at this
theorem abf{a:Int}{c:UInt8}(hL:L[p]?=some (rdR s a n))(ha:a=i)(hi:i<s.length)(hc:(s.getD i 0).toNat≠c.toNat)(h:K (.bool false) L):
  alb 150 [.ptr p 0,.int .u8 c.toNat] L K:=by
 subst ha;have g1:(i:Int)<(s.length:Int):=aoz;have hp:p<L.length:=(ald.1 hL).1;have g3:¬((s.getD i 0).toNat:Int)=(c.toNat:Int):=aoz;replace h:=hid h;refine ala p0 ?_;exact aa h.o
theorem rdM{a0 n0:Int}(hL:L[p]?=some (rdR s a0 n0)):∃M:Int->Int->List Blk,L=M a0 n0/\(∀x n,L.set p (rdR s x n)=M x n)/\(∀x n,(M x n).length=L.length)/\(∀x n (X:List Blk) y m,(M x n++X).set p (rdR s y m)=M y m++X)/\(∀x n (X:List Blk),(M x n++X)[p]?=some (rdR s x n)) /\
  (∀x n (X:List Blk),(M x n++X)[L.length]?=X[0]?)/\(∀x n (X:List Blk) A,(M x n++X).set L.length A=M x n++X.set 0 A)/\(∀x n (X:List Blk) k,(M x n++X)[L.length+k]?=X[k]?)/\(∀x n (X:List Blk) k A,(M x n++X).set (L.length+k) A=M x n++X.set k A)/\Hid (∀x n' (f:Nat->Bool),(∀k∈M a0 n0,k.refs f=true)->∀k∈M x n',k.refs f=true):=by
 have hp:p<L.length:=(ald.1 hL).1;obtain⟨M,hM⟩:∃M:Int->Int->List Blk,∀x n,L.set p (rdR s x n)=M x n:=⟨_,λx n=>rfl⟩;have m0:M a0 n0=L:=by rw[<- hM];obtain⟨_,e⟩:=ald.1 hL;rw[<- e];simp
 have m1:∀x n,(M x n).length=L.length:=λx n=>by rw[<- hM];simp
 have m2:∀x n (X:List Blk) y m,(M x n++X).set p (rdR s y m)=M y m++X:=λx n X y m=>by rw[ama _ _ (by rw[m1];exact hp),<- hM,<- hM,amC]
 have m3:∀x n (X:List Blk),(M x n++X)[p]?=some (rdR s x n):=λx n X=>by rw[alm (by rw[m1];exact hp),<- hM,alC,if_pos rfl,if_pos hp]
 have m4:∀x n (X:List Blk),(M x n++X)[L.length]?=X[0]?:=λx n X=>by rw[alH (by rw[m1];exact ale _),m1,amz]
 have m5:∀x n (X:List Blk) A,(M x n++X).set L.length A=M x n++X.set 0 A:=λx n X A=>by rw[al4 _ _ (by rw[m1];exact ale _),m1,amz]
 have m6:∀x n (X:List Blk) k,(M x n++X)[L.length+k]?=X[k]?:=λx n X k=>by rw[alH (by rw[m1];omega),m1,aoj]
 have m7:∀x n (X:List Blk) k A,(M x n++X).set (L.length+k) A=M x n++X.set k A:=λx n X k A=>by rw[al4 _ _ (by rw[m1];omega),m1,aoj]
 have m8:∀x n' (f:Nat->Bool),(∀k∈M a0 n0,k.refs f=true)->∀k∈M x n',k.refs f=true:=λx n' f hh k hk=>by rw[m0]at hh;rw[<- hM]at hk;rcases anA hk with e|e;exact hh k e;subst e;rfl
 exact⟨M,m0.symm,hM,m1,m2,m3,m4,m5,m6,m7,hid m8⟩
structure abP(s:List UInt8)(i:Nat)(a b v:UInt8):Prop where
 h0:s.getD i 0=a
 h1:s.getD (i+1) 0=b
 h2:s.getD (i+2) 0=61
 h3:s.getD (i+3) 0=v
 h4:s.getD (i+4) 0=41
 hi:i+5<=s.length
 hs:s.length<=100
 d1:(s.drop i).take 1=[a]
 d2:(s.drop i).take 2=[a,b]
 d3:(s.drop i).take 3=[a,b,61]
 t1:eV [a]=true
 t2:eV [a,b]=true
 t3:eV [a,b,61]=false
 v1:v.toNat≠41/\v.toNat≠42/\v.toNat≠92/\v.toNat≠0/\v.toNat≠40
abbrev RR(a b v:UInt8):List AV:=[.int .i64 3,.str [a,b],.str [v],.sl [] 0 (some 0),.sl [] 0 (some 0)]
theorem afX(q:abP s i a b v)(hL:L[p]?=some (rdR s i n))(h:K (.agg (RR a b v)) (L.set p (rdR s ((i:Int)+5) n))):
  alb 152 [.ptr p 0] L K:=by
 obtain⟨h0,h1,h2,h3,h4,hi,hs,d1,d2,d3,t1,t2,t3,v1,v2,v3,v4,v5⟩:=q;obtain⟨N,m0,hM,n1,n2,n3,n4,n5,n6,n7,n8⟩:=rdM hL;rw[hM]at h;rw[m0];obtain⟨M,hN⟩:∃M:Int->List Blk,∀x,N x n=M x:=⟨λx=>N x n,λ_=>rfl⟩;have m1:=λx=>n1 x n
 have m2:=λx X y=>n2 x n X y n
 have m3:=λx X=>n3 x n X
 have m4:=λx X=>n4 x n X
 have m5:=λx X A=>n5 x n X A
 have m6:=λx X k=>n6 x n X k
 have m7:=λx X k A=>n7 x n X k A
 have m8:=λx f=>n8.o x n f
 simp only[hN]at h m1 m2 m3 m4 m5 m6 m7 m8⊢;replace m8:=hid m8;clear n1 n2 n3 n4 n5 n6 n7 n8 hN;clear hL hM m0;have w1:∀j:Nat,j<=10->IntKind.i64.wrap ((i:Int)+j+1)=(i:Int)+j+1:=λj hj=>ab aoz aoz
 replace w1:=hid w1;have no:∀(x:Int) (j:Nat) (c:UInt8),x=(j:Int)->j<s.length->(s.getD j 0).toNat≠c.toNat->∀{X:List Blk}{K:alc},K (.bool false) (M x++X)->alb 150 [.ptr p 0,.int .u8 c.toNat] (M x++X) K:=λx j c e hj hc X K q=>abf (m3 x X) e hj hc q
 have yes:∀(x:Int) (j:Nat) (c:UInt8),x=(j:Int)->j<s.length->s.getD j 0=c->∀{X:List Blk}{K:alc},K (.bool true) (M (x+1)++X)->alb 150 [.ptr p 0,.int .u8 c.toNat] (M x++X) K:=λx j c e hj hc X K q=>abe (m3 x X) e hj hc hs (by rw[m2];exact q)
 replace no:=hid no;replace yes:=hid yes;replace h:=hid h;have hsi:=hid (And.intro hi hs);refine ala lS ?_;refine ah (λm T' L'=>∃(j:Nat) (x:Int),m=2-j/\(j=0/\x=(i:Int)\/j=1/\x=(i:Int)+1\/j=2/\x=(i:Int)+1+1)/\T'=[(3,.int .i64 (i:Int)),(2,.ptr L.length 0),(0,.ptr p 0)]/\L'=M x++[.cells [.int .i64 0,.str [],.str [],.sl [] 0 (some 0),.sl [] 0 (some 0)]]) (CutS (b:=by simp[m1])) ⟨0,_,rfl,.inl ⟨rfl,rfl⟩,rfl,rfl⟩ ?_;rintro _ _ _ ⟨j,x,rfl,hj,rfl,rfl⟩;rcases hj with⟨rfl,rfl⟩|⟨rfl,rfl⟩|⟨rfl,rfl⟩;have g1:(i:Int)<(s.length:Int):=aoz;have g2:=ak9 i aoz;have g3:List.take (((i:Int)+1).toNat-i) (List.drop i s)=[a]:=by rw[show((i:Int)+1).toNat-i=1 by omega];exact d1
 have g4:((i:Int)+1).toNat<=s.length:=aoz;have g5:i<=((i:Int)+1).toNat:=aoz;have kk1:Hid (Ctr Tryz.prog 134 [.str [a]] (.bool true)):=hid λq=>ra aoA (by rw[t1];exact q)
 clear d1 d2 d3 t1 t2 t3;refine wk ?_;exact aoE aoz (CutL (b:=by simp[m1])) ⟨1,_,rfl,.inr (.inl ⟨rfl,rfl⟩),rfl,rfl⟩;have g0:(i:Int)+1<(s.length:Int):=aoz;have g2:IntKind.i64.wrap ((i:Int)+1+1)=(i:Int)+1+1:=ab aoz aoz;have g3:List.take (((i:Int)+1+1).toNat-i) (List.drop i s)=[a,b]:=by rw[show((i:Int)+1+1).toNat-i=2 by omega];exact d2
 have kk1:Hid (Ctr Tryz.prog 134 [.str [a,b]] (.bool true)):=hid λq=>ra aoA (by rw[t2];exact q)
 clear d1 d2 d3 t1 t2 t3;refine wk ?_;exact aoE aoz (CutL (b:=by simp[m1])) ⟨2,_,rfl,.inr (.inr ⟨rfl,rfl⟩),rfl,rfl⟩;have g0:(i:Int)+1+1<(s.length:Int):=aoz;have g2:IntKind.i64.wrap ((i:Int)+1+1+1)=(i:Int)+1+1+1:=ab aoz aoz;have g3:List.take (((i:Int)+1+1+1).toNat-i) (List.drop i s)=[a,b,61]:=by rw[show((i:Int)+1+1+1).toNat-i=3 by omega];exact d3
 have g4:List.take (((i:Int)+1+1).toNat-i) (List.drop i s)=[a,b]:=by rw[show((i:Int)+1+1).toNat-i=2 by omega];exact d2
 have kk1:Hid (Ctr Tryz.prog 134 [.str [a,b,61]] (.bool false)):=hid λq=>ra aoA (by rw[t3];exact q)
 clear d1 d2 d3 t1 t2 t3;refine wk ?_;have b0:((i:Int)+1+1)=((i+2:Nat):Int):=aoz;have kk1:Hid (∀{X:List Blk}{K:alc},K (.bool false) (M ((i:Int)+1+1)++X)->alb 150 [.ptr p 0,.int .u8 62] (M ((i:Int)+1+1)++X) K):=hid (no.o _ (i+2) 62 b0 aoz (by rw[h2];decide));have kk2:Hid (∀{X:List Blk}{K:alc},K (.bool false) (M ((i:Int)+1+1)++X)->alb 150 [.ptr p 0,.int .u8 60] (M ((i:Int)+1+1)++X) K):=hid (no.o _ (i+2) 60 b0 aoz (by rw[h2];decide));have kk3:Hid (∀{X:List Blk}{K:alc},K (.bool false) (M ((i:Int)+1+1)++X)->alb 150 [.ptr p 0,.int .u8 126] (M ((i:Int)+1+1)++X) K):=hid (no.o _ (i+2) 126 b0 aoz (by rw[h2];decide));have kk4:Hid (∀{X:List Blk}{K:alc},K (.bool true) (M ((i:Int)+1+1+1)++X)->alb 150 [.ptr p 0,.int .u8 61] (M ((i:Int)+1+1)++X) K):=hid (yes.o _ (i+2) 61 b0 aoz h2);clear b0 g2 g3 g4;refine wk ?_;clear kk1 kk2 kk3 kk4;refine bt (l:=[]) (n:=0) 7 1 rfl (alG 1).symm ?_;refine bt (l:=[]) (n:=0) 6 1 rfl (alG 1).symm ?_;have q3:∀z,((v.toNat:Int)=z->False)->¬(v.toNat:Int)=z:=λz e=>e
 have e42:¬(v.toNat:Int)=42:=aoz;have e92:¬(v.toNat:Int)=92:=aoz;have e00:¬(v.toNat:Int)=0:=aoz;have e40:¬(v.toNat:Int)=40:=aoz;clear q3;obtain⟨B1,hB1⟩:=ak7 (Blk.cells [AV.int IntKind.i64 0,AV.str [],AV.str [],AV.sl [] 0 (some 0),AV.sl [] 0 (some 0)]);obtain⟨B2,hB2⟩:=ak7 (Blk.cells [AV.int IntKind.i64 3,AV.str [a,b],AV.str [],AV.sl [] 0 (some 0),AV.sl [] 0 (some 0)]);rw[hB1,hB2];refine UZ (L':=M ((i:Int)+1+1+1)++[B1,B2,.spare 0 1,.spare 0 1]) aoA ?_;have l1:(M ((i:Int)+1+1+1)++[B1,B2]).length=L.length+2:=by simp[m1]
 have l2:(M ((i:Int)+1+1+1)++[B1,B2]++[Blk.spare 0 1]).length=L.length+3:=by simp[m1]
 rw[l1,l2];clear l1 l2;refine ah (λm T' L'=>∃(j:Nat) (x:Int) (C:List AV),m=1-j/\(j=0/\x=(i:Int)+1+1+1/\C=[]\/j=1/\x=(i:Int)+1+1+1+1/\C=[.int .u8 v.toNat])/\T'=[(7,.gsl C j (L.length+2) 1),(6,.gsl [] 0 (L.length+3) 1),(5,.int .i64 0),(4,.ptr (L.length+1) 0),(2,.ptr L.length 0),(0,.ptr p 0)]/\L'=M x++[B1,B2,.spare j 1,.spare 0 1]) (CutS (b:=by simp[m1])) ⟨0,_,_,rfl,.inl ⟨rfl,rfl,rfl⟩,rfl,rfl⟩ ?_;rintro _ _ _ ⟨j,x,C,rfl,hj,rfl,rfl⟩;rcases hj with⟨rfl,rfl,rfl⟩|⟨rfl,rfl,rfl⟩;have g1:¬(i:Int)+1+1+1=(s.length:Int):=aoz;have g5:(i:Int)+1+1+1<(s.length:Int):=aoz;have g2:IntKind.i64.wrap ((i:Int)+1+1+1+1)=(i:Int)+1+1+1+1:=ab aoz aoz;have g3:s.getD ((i:Int)+1+1+1).toNat 0=v:=by rw[show((i:Int)+1+1+1).toNat=i+3 by omega];exact h3
 have g4:(0:Int)<=(i:Int)+1+1+1:=aoz;have kk1:Hid (∀{X:List Blk}{K:alc},K (.bool false) (M ((i:Int)+1+1+1)++X)->alb 150 [.ptr p 0,.int .u8 41] (M ((i:Int)+1+1+1)++X) K):=hid (no.o _ (i+3) 41 aoz aoz (by rw[h3];exact v1));refine wk ?_;exact aoE aoz (CutS (b:=by simp[m1])) ⟨1,_,_,rfl,.inr ⟨rfl,rfl,rfl⟩,rfl,rfl⟩;have kk1:Hid (∀{X:List Blk}{K:alc},K (.bool true) (M ((i:Int)+1+1+1+1+1)++X)->alb 150 [.ptr p 0,.int .u8 41] (M ((i:Int)+1+1+1+1)++X) K):=hid (yes.o _ (i+4) 41 aoz aoz h4);subst hB1 hB2;have u1:YG (AV.int IntKind.u8 v.toNat)=true:=rfl;have u2:List.map Sn [AV.int IntKind.u8 v.toNat]=[v]:=by simp[Sn]
 refine wk ?_;rw[show(i:Int)+1+1+1+1+1=(i:Int)+5 by omega];exact fE (by simp[m1]) (λhh=>m8.o _ _ hh) rfl h.o
theorem YO(q:abP s (i+1) a b v)(h0:s.getD i 0=40)(ha:a.toNat≠38/\a.toNat≠124/\a.toNat≠33){d:Int}(hn:0<=n)(hn2:n<1000)(hd:d<=64)(hL:L[p]?=some (rdR s i n))(h:K (.agg (RR a b v)) (L.set p (rdR s ((i:Int)+6) (n+1)))):
  alb 107 [.ptr p 0,.int .i64 d] L K:=by
 obtain⟨M,m0,hM,m1,m2,m3,m4,m5,_,_,m8⟩:=rdM hL;rw[hM]at h;rw[m0];clear hL hM m0;have e1:((i+1:Nat):Int)=(i:Int)+1:=rfl;obtain⟨f0,f1⟩:s.getD (i+1) 0=a/\i+1+5<=s.length/\s.length<=100:=⟨q.h0,q.hi,q.hs⟩;have kk1:Hid (∀{X:List Blk}{K:alc},K (.bool true) (M ((i:Int)+1) n++X)->alb 150 [.ptr p 0,.int .u8 40] (M i n++X) K):=hid λq=>abe (c:=40) (m3 _ _ _) rfl aoz h0 f1.2 (by rw[m2];exact q)
 have no:∀(c:UInt8),a.toNat≠c.toNat->∀{X:List Blk}{K:alc},K (.bool false) (M ((i:Int)+1) (n+1)++X)->alb 150 [.ptr p 0,.int .u8 c.toNat] (M ((i:Int)+1) (n+1)++X) K:=λc hc X K q=>abf (i:=i+1) (m3 _ _ X) aoz aoz (by rw[f0];exact hc) q
 have kk2:Hid (∀{X:List Blk}{K:alc},K (.bool false) (M ((i:Int)+1) (n+1)++X)->alb 150 [.ptr p 0,.int .u8 38] (M ((i:Int)+1) (n+1)++X) K):=hid (no 38 ha.1);have kk3:Hid (∀{X:List Blk}{K:alc},K (.bool false) (M ((i:Int)+1) (n+1)++X)->alb 150 [.ptr p 0,.int .u8 124] (M ((i:Int)+1) (n+1)++X) K):=hid (no 124 ha.2.1);have kk4:Hid (∀{X:List Blk}{K:alc},K (.bool false) (M ((i:Int)+1) (n+1)++X)->alb 150 [.ptr p 0,.int .u8 33] (M ((i:Int)+1) (n+1)++X) K):=hid (no 33 ha.2.2);have kk5:Hid (∀{X:List Blk}{K:alc},K (.agg (RR a b v)) (M ((i:Int)+1+5) (n+1)++X)->alb 152 [.ptr p 0] (M ((i:Int)+1) (n+1)++X) K):=hid λr=>afX q (by rw[e1];exact m3 _ _ _) (by rw[e1,m2];exact r)
 have g0:IntKind.i64.wrap (n+1)=n+1:=ab aoz aoz;have g1:¬1000<n+1:=aoz;have g2:¬64<d:=aoz;replace h:=hid h;clear no ha f0 f1 h0;refine ala cF ?_;refine ah (λm T' L'=>∃k:Nat,m=3-k/\k<=3/\T'=[(5,.int .i64 (k:Int)),(4,.ptr L.length 0),(0,.ptr p 0),(1,.int .i64 d)]/\L'=M ((i:Int)+1) (n+1)++[.cells [.int .i64 0,.str [],.str [],.sl [] 0 (some 0),.sl [] 0 (some 0)]]) (CutS (b:=by simp[m1])) ⟨0,rfl,aoz,rfl,rfl⟩ ?_;rintro _ _ _ ⟨k,rfl,hk,rfl,rfl⟩;have hk:k=0\/k=1\/k=2\/k=3:=aoz;rcases hk with rfl|rfl|rfl|rfl;refine wk ?_;exact aoE aoz (CutS (b:=by simp[m1])) ⟨1,rfl,aoz,rfl,rfl⟩;refine wk ?_;exact aoE aoz (CutS (b:=by simp[m1])) ⟨2,rfl,aoz,rfl,rfl⟩;refine wk ?_;exact aoE aoz (CutS (b:=by simp[m1])) ⟨3,rfl,aoz,rfl,rfl⟩
 .refine wk ?_;rw[show(i:Int)+1+5=(i:Int)+6 by omega]
  trace_state
  exact fE (by simp[m1]) (λhh=>m8.o _ _ _ hh) rfl h.o
theorem Sv{k:Int}{a v:List UInt8}{ks:List AV}{nk:Nat}{cp ck:Option Nat}(hs:s.length<=100)(h1:∀q,AV.refsL q ks=true)(hf:∀{p:Nat}{L:List Blk}{K:alc},L[p]?=some (rdR s 0 0)->K (.agg [.int .i64 k,.str a,.str v,.sl [] 0 cp,.sl ks nk ck]) (L.set p (rdR s s.length n))->alb 107 [.ptr p 0,.int .i64 1] L K)(h:K (.tup [.agg [.int .i64 k,.str a,.str v,.sl [] 0 cp,.sl ks nk ck],.int .i64 0]) L):
  alb 58 [.str s] L K:=by
 replace hf:=@hid _ @hf;replace h:=hid h;have g1:¬(4096:Int)<(s.length:Int):=aoz;have g2:¬(s.length:Int)<(s.length:Int):=aoz;refine ala S7 ?_;refine hf.o aoA ?_;simp only[al4 _ _ (aoh _ _),aoj,anK,an9];refine aoH ?_;exact ae (by simp only[AV.refs,AV.refsL,h1,alX]) h.o
abbrev acV(a1 b1 v1 a2 b2 v2:UInt8):List UInt8:=[40,124,40,a1,b1,61,v1,41,40,a2,b2,61,v2,41,41]
theorem ad0{a1 b1 v1 a2 b2 v2:UInt8}(z1:abP (acV a1 b1 v1 a2 b2 v2) 3 a1 b1 v1)(z2:abP (acV a1 b1 v1 a2 b2 v2) 9 a2 b2 v2)(y1:a1.toNat≠38/\a1.toNat≠124/\a1.toNat≠33)(y2:a2.toNat≠38/\a2.toNat≠124/\a2.toNat≠33)(hL:L[p]?=some (rdR (acV a1 b1 v1 a2 b2 v2) 0 0))(h:K (.agg [.int .i64 1,.str [],.str [],.sl [] 0 none,.sl [.int .i64 3,.str [a1,b1],.str [v1],.sl [] 0 none,.sl [] 0 none,.int .i64 3,.str [a2,b2],.str [v2],.sl [] 0 none,.sl [] 0 none] 2 none]) (L.set p (rdR (acV a1 b1 v1 a2 b2 v2) 15 3))):
  alb 107 [.ptr p 0,.int .i64 1] L K:=by
 have hp:p<L.length:=(ald.1 hL).1;obtain⟨M,m0,hM,m1,m2,m3,m4,m5,m6,m7,m8⟩:=rdM hL;rw[hM]at h;rw[m0];clear hL hM m0;have no:∀(i:Nat) (c:UInt8),i<15->∀n,((acV a1 b1 v1 a2 b2 v2).getD i 0).toNat≠c.toNat->∀{X:List Blk}{K:alc},K (.bool false) (M i n++X)->alb 150 [.ptr p 0,.int .u8 c.toNat] (M i n++X) K:=λi c hi n hc {X K} q=>abf (i:=i) (m3 _ _ X) rfl hi hc q
 have yes:∀(i:Nat) (c:UInt8),i<15->∀n,(acV a1 b1 v1 a2 b2 v2).getD i 0=c->∀{X:List Blk}{K:alc},K (.bool true) (M ((i+1:Nat):Int) n++X)->alb 150 [.ptr p 0,.int .u8 c.toNat] (M i n++X) K:=λi c hi n hc {X K} q=>abe (i:=i) (m3 _ _ X) rfl hi hc aoA (by rw[m2];exact q)
 have kk1:Hid (∀{X:List Blk}{K:alc},K (.bool true) (M 1 0++X)->alb 150 [.ptr p 0,.int .u8 40] (M 0 0++X) K):=hid (yes 0 40 aoz 0 rfl);have kk2:Hid (∀{X:List Blk}{K:alc},K (.bool false) (M 1 1++X)->alb 150 [.ptr p 0,.int .u8 38] (M 1 1++X) K):=hid (no 1 38 aoz 1 (show UInt8.toNat 124≠UInt8.toNat 38 by decide));have kk3:Hid (∀{X:List Blk}{K:alc},K (.bool true) (M 2 1++X)->alb 150 [.ptr p 0,.int .u8 124] (M 1 1++X) K):=hid (yes 1 124 aoz 1 rfl);have kk4:Hid (∀{X:List Blk}{K:alc},K (.bool true) (M 15 3++X)->alb 150 [.ptr p 0,.int .u8 41] (M 14 3++X) K):=hid (yes 14 41 aoz 3 rfl);have q1:Hid (∀{X:List Blk}{K:alc},K (.agg (RR a1 b1 v1)) (M 8 2++X)->alb 107 [.ptr p 0,.int .i64 2] (M 2 1++X) K):=hid λr=>YO (i:=2) z1 rfl y1 aoz aoz aoz (m3 _ _ _) (by rw[m2];exact r)
 have q2:Hid (∀{X:List Blk}{K:alc},K (.agg (RR a2 b2 v2)) (M 14 3++X)->alb 107 [.ptr p 0,.int .i64 2] (M 8 2++X) K):=hid λr=>YO (i:=8) z2 rfl y2 aoz aoz aoz (m3 _ _ _) (by rw[m2];exact r)
 have g0:IntKind.i64.wrap (0+1)=1:=rfl;replace h:=hid h;clear no yes z1 z2 y1 y2;refine ala cF ?_;refine ah (λm T' L'=>∃k:Nat,m=2-k/\k<=1/\T'=[(5,.int .i64 (k:Int)),(4,.ptr L.length 0),(0,.ptr p 0),(1,.int .i64 1)]/\L'=M 1 1++[.cells [.int .i64 0,.str [],.str [],.sl [] 0 (some 0),.sl [] 0 (some 0)]]) (CutS (b:=by simp[m1])) ⟨0,rfl,aoz,rfl,rfl⟩ ?_;rintro _ _ _ ⟨k,rfl,hk,rfl,rfl⟩;have hk:k=0\/k=1:=aoz;rcases hk with rfl|rfl;refine wk ?_;exact aoE aoz (CutS (b:=by simp[m1])) ⟨1,rfl,aoz,rfl,rfl⟩;refine wk ?_;have e2:(M 2 1++[Blk.cells [.int .i64 0,.str [],.str [],.sl [] 0 (some 0),.sl [] 0 (some 0)],.cells [.int .i64 1,.str [],.str [],.sl [] 0 (some 0),.sl [] 0 (some 0)]]).length=L.length+2:=by simp[m1]
 refine LT (L.length+1) 4 5 (c:=[.int .i64 1,.str [],.str [],.sl [] 0 (some 0),.sl [] 0 (some 0)]) (l:=[]) (n:=0) (by simp[m6]) rfl (alG 5).symm ?_;rw[e2];clear e2;obtain⟨B0,hB0⟩:=ak7 (Blk.cells [.int .i64 0,.str [],.str [],.sl [] 0 (some 0),.sl [] 0 (some 0)]);refine UZ (L':=M 2 1++[B0,.cells [.int .i64 1,.str [],.str [],.sl [] 0 (some 0),.gsl [] 0 (L.length+2) 5],.spare 0 5]) (by rw[<- hB0];simp[m7]) ?_;refine ah (λm T' L'=>∃(j:Nat) (x n:Int) (C:List AV),m=2-j/\(j=0/\x=2/\n=1/\C=[]\/j=1/\x=8/\n=2/\C=[.int .i64 3,.str [a1,b1],.str [v1],.sl [] 0 none,.sl [] 0 none]\/j=2/\x=14/\n=3/\C=[.int .i64 3,.str [a1,b1],.str [v1],.sl [] 0 none,.sl [] 0 none,.int .i64 3,.str [a2,b2],.str [v2],.sl [] 0 none,.sl [] 0 none])/\T'=[(6,.ptr (L.length+1) 0),(5,.int .i64 1),(4,.ptr L.length 0),(0,.ptr p 0),(1,.int .i64 1)]/\L'=M x n++[B0,.cells [.int .i64 1,.str [],.str [],.sl [] 0 (some 0),.gsl C j (L.length+2) 5],.spare j 5]) (CutS (b:=by simp[m1])) ⟨0,_,_,_,rfl,.inl ⟨rfl,rfl,rfl,rfl⟩,rfl,rfl⟩ ?_;clear kk1 kk2 kk3;rintro _ _ _ ⟨j,x,n,C,rfl,hj,rfl,rfl⟩;rcases hj with⟨rfl,rfl,rfl,rfl⟩|⟨rfl,rfl,rfl,rfl⟩|⟨rfl,rfl,rfl,rfl⟩;refine wk ?_;refine UW (.agg (RR a1 b1 v1)) (M 8 2++[B0,.cells [.int .i64 1,.str [],.str [],.sl [] 0 (some 0),.gsl [] 0 (L.length+2) 5],.spare 0 5]) (q1.o ⟨rfl,rfl⟩) rfl ?_;refine aoH ?_;exact aoE aoz (CutS (b:=by simp[m1])) ⟨1,_,_,_,rfl,.inr (.inl ⟨rfl,rfl,rfl,rfl⟩),rfl,rfl⟩;refine wk ?_;refine UW (.agg (RR a2 b2 v2)) (M 14 3++[B0,.cells [.int .i64 1,.str [],.str [],.sl [] 0 (some 0),.gsl [.int .i64 3,.str [a1,b1],.str [v1],.sl [] 0 none,.sl [] 0 none] 1 (L.length+2) 5],.spare 1 5]) (q2.o ⟨rfl,rfl⟩) rfl ?_;refine aoH ?_;exact aoE aoz (CutS (b:=by simp[m1])) ⟨2,_,_,_,rfl,.inr (.inr ⟨rfl,rfl,rfl,rfl⟩),rfl,rfl⟩;subst hB0;refine wk ?_;refine aW ?_;simp only[AV.frz,AV.frzL];exact fE (by simp[m1]) (λhh=>m8.o _ _ _ hh) rfl h.o
structure ag7(s:List UInt8)(i:Nat)(a b v:UInt8):Prop where
 h0:s.getD i 0=a
 h1:s.getD (i+1) 0=b
 h2:s.getD (i+2) 0=62
 hq:s.getD (i+3) 0=61
 h3:s.getD (i+4) 0=v
 h4:s.getD (i+5) 0=41
 hi:i+6<=s.length
 hs:s.length<=100
 d1:(s.drop i).take 1=[a]
 d2:(s.drop i).take 2=[a,b]
 d3:(s.drop i).take 3=[a,b,62]
 t1:eV [a]=true
 t2:eV [a,b]=true
 t3:eV [a,b,62]=false
 v1:v.toNat≠41/\v.toNat≠42/\v.toNat≠92/\v.toNat≠0/\v.toNat≠40
abbrev ZL(a b v:UInt8):List AV:=[.int .i64 5,.str [a,b],.str [v],.sl [] 0 (some 0),.sl [] 0 (some 0)]
theorem adG(q:ag7 s i a b v)(hL:L[p]?=some (rdR s i n))(h:K (.agg (ZL a b v)) (L.set p (rdR s ((i:Int)+6) n))):
  alb 152 [.ptr p 0] L K:=by
 obtain⟨h0,h1,h2,hq,h3,h4,hi,hs,d1,d2,d3,t1,t2,t3,v1,v2,v3,v4,v5⟩:=q;obtain⟨N,m0,hM,n1,n2,n3,n4,n5,n6,n7,n8⟩:=rdM hL;rw[hM]at h;rw[m0];obtain⟨M,hN⟩:∃M:Int->List Blk,∀x,N x n=M x:=⟨λx=>N x n,λ_=>rfl⟩;have m1:=λx=>n1 x n
 have m2:=λx X y=>n2 x n X y n
 have m3:=λx X=>n3 x n X
 have m4:=λx X=>n4 x n X
 have m5:=λx X A=>n5 x n X A
 have m6:=λx X k=>n6 x n X k
 have m7:=λx X k A=>n7 x n X k A
 have m8:=λx f=>n8.o x n f
 simp only[hN]at h m1 m2 m3 m4 m5 m6 m7 m8⊢;replace m8:=hid m8;clear n1 n2 n3 n4 n5 n6 n7 n8 hN;clear hL hM m0;have w1:∀j:Nat,j<=10->IntKind.i64.wrap ((i:Int)+j+1)=(i:Int)+j+1:=λj hj=>ab aoz aoz
 replace w1:=hid w1;have no:∀(x:Int) (j:Nat) (c:UInt8),x=(j:Int)->j<s.length->(s.getD j 0).toNat≠c.toNat->∀{X:List Blk}{K:alc},K (.bool false) (M x++X)->alb 150 [.ptr p 0,.int .u8 c.toNat] (M x++X) K:=λx j c e hj hc X K q=>abf (m3 x X) e hj hc q
 have yes:∀(x:Int) (j:Nat) (c:UInt8),x=(j:Int)->j<s.length->s.getD j 0=c->∀{X:List Blk}{K:alc},K (.bool true) (M (x+1)++X)->alb 150 [.ptr p 0,.int .u8 c.toNat] (M x++X) K:=λx j c e hj hc X K q=>abe (m3 x X) e hj hc hs (by rw[m2];exact q)
 replace no:=hid no;replace yes:=hid yes;replace h:=hid h;have hsi:=hid (And.intro hi hs);refine ala lS ?_;refine ah (λm T' L'=>∃(j:Nat) (x:Int),m=2-j/\(j=0/\x=(i:Int)\/j=1/\x=(i:Int)+1\/j=2/\x=(i:Int)+1+1)/\T'=[(3,.int .i64 (i:Int)),(2,.ptr L.length 0),(0,.ptr p 0)]/\L'=M x++[.cells [.int .i64 0,.str [],.str [],.sl [] 0 (some 0),.sl [] 0 (some 0)]]) (CutS (b:=by simp[m1])) ⟨0,_,rfl,.inl ⟨rfl,rfl⟩,rfl,rfl⟩ ?_;rintro _ _ _ ⟨j,x,rfl,hj,rfl,rfl⟩;rcases hj with⟨rfl,rfl⟩|⟨rfl,rfl⟩|⟨rfl,rfl⟩;have g1:(i:Int)<(s.length:Int):=aoz;have g2:=ak9 i aoz;have g3:List.take (((i:Int)+1).toNat-i) (List.drop i s)=[a]:=by rw[show((i:Int)+1).toNat-i=1 by omega];exact d1
 have g4:((i:Int)+1).toNat<=s.length:=aoz;have g5:i<=((i:Int)+1).toNat:=aoz;have kk1:Hid (Ctr Tryz.prog 134 [.str [a]] (.bool true)):=hid λq=>ra aoA (by rw[t1];exact q)
 clear d1 d2 d3 t1 t2 t3;refine wk ?_;exact aoE aoz (CutL (b:=by simp[m1])) ⟨1,_,rfl,.inr (.inl ⟨rfl,rfl⟩),rfl,rfl⟩;have g0:(i:Int)+1<(s.length:Int):=aoz;have g2:IntKind.i64.wrap ((i:Int)+1+1)=(i:Int)+1+1:=ab aoz aoz;have g3:List.take (((i:Int)+1+1).toNat-i) (List.drop i s)=[a,b]:=by rw[show((i:Int)+1+1).toNat-i=2 by omega];exact d2
 have kk1:Hid (Ctr Tryz.prog 134 [.str [a,b]] (.bool true)):=hid λq=>ra aoA (by rw[t2];exact q)
 clear d1 d2 d3 t1 t2 t3;refine wk ?_;exact aoE aoz (CutL (b:=by simp[m1])) ⟨2,_,rfl,.inr (.inr ⟨rfl,rfl⟩),rfl,rfl⟩;have g0:(i:Int)+1+1<(s.length:Int):=aoz;have g2:IntKind.i64.wrap ((i:Int)+1+1+1)=(i:Int)+1+1+1:=ab aoz aoz;have g3:List.take (((i:Int)+1+1+1).toNat-i) (List.drop i s)=[a,b,62]:=by rw[show((i:Int)+1+1+1).toNat-i=3 by omega];exact d3
 have g4:List.take (((i:Int)+1+1).toNat-i) (List.drop i s)=[a,b]:=by rw[show((i:Int)+1+1).toNat-i=2 by omega];exact d2
 have kk1:Hid (Ctr Tryz.prog 134 [.str [a,b,62]] (.bool false)):=hid λq=>ra aoA (by rw[t3];exact q)
 clear d1 d2 d3 t1 t2 t3;refine wk ?_;have b0:((i:Int)+1+1)=((i+2:Nat):Int):=aoz;have kk1:Hid (∀{X:List Blk}{K:alc},K (.bool true) (M ((i:Int)+1+1+1)++X)->alb 150 [.ptr p 0,.int .u8 62] (M ((i:Int)+1+1)++X) K):=hid (yes.o _ (i+2) 62 b0 aoz h2);have kk2:Hid (∀{X:List Blk}{K:alc},K (.bool true) (M ((i:Int)+1+1+1+1)++X)->alb 150 [.ptr p 0,.int .u8 61] (M ((i:Int)+1+1+1)++X) K):=hid (yes.o _ (i+3) 61 aoz aoz hq);clear b0 g2 g3 g4;refine wk ?_;clear kk1 kk2;refine bt (l:=[]) (n:=0) 7 1 rfl (alG 1).symm ?_;refine bt (l:=[]) (n:=0) 6 1 rfl (alG 1).symm ?_;have q3:∀z,((v.toNat:Int)=z->False)->¬(v.toNat:Int)=z:=λz e=>e
 have e42:¬(v.toNat:Int)=42:=aoz;have e92:¬(v.toNat:Int)=92:=aoz;have e00:¬(v.toNat:Int)=0:=aoz;have e40:¬(v.toNat:Int)=40:=aoz;clear q3;obtain⟨B1,hB1⟩:=ak7 (Blk.cells [AV.int IntKind.i64 0,AV.str [],AV.str [],AV.sl [] 0 (some 0),AV.sl [] 0 (some 0)]);obtain⟨B2,hB2⟩:=ak7 (Blk.cells [AV.int IntKind.i64 5,AV.str [a,b],AV.str [],AV.sl [] 0 (some 0),AV.sl [] 0 (some 0)]);rw[hB1,hB2];refine UZ (L':=M ((i:Int)+1+1+1+1)++[B1,B2,.spare 0 1,.spare 0 1]) aoA ?_;have l1:(M ((i:Int)+1+1+1+1)++[B1,B2]).length=L.length+2:=by simp[m1]
 have l2:(M ((i:Int)+1+1+1+1)++[B1,B2]++[Blk.spare 0 1]).length=L.length+3:=by simp[m1]
 rw[l1,l2];clear l1 l2;refine ah (λm T' L'=>∃(j:Nat) (x:Int) (C:List AV),m=1-j/\(j=0/\x=(i:Int)+1+1+1+1/\C=[]\/j=1/\x=(i:Int)+1+1+1+1+1/\C=[.int .u8 v.toNat])/\T'=[(7,.gsl C j (L.length+2) 1),(6,.gsl [] 0 (L.length+3) 1),(5,.int .i64 0),(4,.ptr (L.length+1) 0),(2,.ptr L.length 0),(0,.ptr p 0)]/\L'=M x++[B1,B2,.spare j 1,.spare 0 1]) (CutS (b:=by simp[m1])) ⟨0,_,_,rfl,.inl ⟨rfl,rfl,rfl⟩,rfl,rfl⟩ ?_;rintro _ _ _ ⟨j,x,C,rfl,hj,rfl,rfl⟩;rcases hj with⟨rfl,rfl,rfl⟩|⟨rfl,rfl,rfl⟩;have g1:¬(i:Int)+1+1+1+1=(s.length:Int):=aoz;have g5:(i:Int)+1+1+1+1<(s.length:Int):=aoz;have g2:IntKind.i64.wrap ((i:Int)+1+1+1+1+1)=(i:Int)+1+1+1+1+1:=ab aoz aoz;have g3:s.getD ((i:Int)+1+1+1+1).toNat 0=v:=by rw[show((i:Int)+1+1+1+1).toNat=i+4 by omega];exact h3
 have g4:(0:Int)<=(i:Int)+1+1+1+1:=aoz;have kk1:Hid (∀{X:List Blk}{K:alc},K (.bool false) (M ((i:Int)+1+1+1+1)++X)->alb 150 [.ptr p 0,.int .u8 41] (M ((i:Int)+1+1+1+1)++X) K):=hid (no.o _ (i+4) 41 aoz aoz (by rw[h3];exact v1));refine wk ?_;exact aoE aoz (CutS (b:=by simp[m1])) ⟨1,_,_,rfl,.inr ⟨rfl,rfl,rfl⟩,rfl,rfl⟩;have kk1:Hid (∀{X:List Blk}{K:alc},K (.bool true) (M ((i:Int)+1+1+1+1+1+1)++X)->alb 150 [.ptr p 0,.int .u8 41] (M ((i:Int)+1+1+1+1+1)++X) K):=hid (yes.o _ (i+5) 41 aoz aoz h4);subst hB1 hB2;have u1:YG (AV.int IntKind.u8 v.toNat)=true:=rfl;have u2:List.map Sn [AV.int IntKind.u8 v.toNat]=[v]:=by simp[Sn]
 refine wk ?_;rw[show(i:Int)+1+1+1+1+1+1=(i:Int)+6 by omega];exact fE (by simp[m1]) (λhh=>m8.o _ _ hh) rfl h.o
theorem agv(q:ag7 s (i+1) a b v)(h0:s.getD i 0=40)(ha:a.toNat≠38/\a.toNat≠124/\a.toNat≠33){d:Int}(hn:0<=n)(hn2:n<1000)(hd:d<=64)(hL:L[p]?=some (rdR s i n))(h:K (.agg (ZL a b v)) (L.set p (rdR s ((i:Int)+7) (n+1)))):
  alb 107 [.ptr p 0,.int .i64 d] L K:=by
 obtain⟨M,m0,hM,m1,m2,m3,m4,m5,_,_,m8⟩:=rdM hL;rw[hM]at h;rw[m0];clear hL hM m0;have e1:((i+1:Nat):Int)=(i:Int)+1:=rfl;obtain⟨f0,f1⟩:s.getD (i+1) 0=a/\i+1+6<=s.length/\s.length<=100:=⟨q.h0,q.hi,q.hs⟩;have kk1:Hid (∀{X:List Blk}{K:alc},K (.bool true) (M ((i:Int)+1) n++X)->alb 150 [.ptr p 0,.int .u8 40] (M i n++X) K):=hid λq=>abe (c:=40) (m3 _ _ _) rfl aoz h0 f1.2 (by rw[m2];exact q)
 have no:∀(c:UInt8),a.toNat≠c.toNat->∀{X:List Blk}{K:alc},K (.bool false) (M ((i:Int)+1) (n+1)++X)->alb 150 [.ptr p 0,.int .u8 c.toNat] (M ((i:Int)+1) (n+1)++X) K:=λc hc X K q=>abf (i:=i+1) (m3 _ _ X) aoz aoz (by rw[f0];exact hc) q
 have kk2:Hid (∀{X:List Blk}{K:alc},K (.bool false) (M ((i:Int)+1) (n+1)++X)->alb 150 [.ptr p 0,.int .u8 38] (M ((i:Int)+1) (n+1)++X) K):=hid (no 38 ha.1);have kk3:Hid (∀{X:List Blk}{K:alc},K (.bool false) (M ((i:Int)+1) (n+1)++X)->alb 150 [.ptr p 0,.int .u8 124] (M ((i:Int)+1) (n+1)++X) K):=hid (no 124 ha.2.1);have kk4:Hid (∀{X:List Blk}{K:alc},K (.bool false) (M ((i:Int)+1) (n+1)++X)->alb 150 [.ptr p 0,.int .u8 33] (M ((i:Int)+1) (n+1)++X) K):=hid (no 33 ha.2.2);have kk5:Hid (∀{X:List Blk}{K:alc},K (.agg (ZL a b v)) (M ((i:Int)+1+6) (n+1)++X)->alb 152 [.ptr p 0] (M ((i:Int)+1) (n+1)++X) K):=hid λr=>adG q (by rw[e1];exact m3 _ _ _) (by rw[e1,m2];exact r)
 have g0:IntKind.i64.wrap (n+1)=n+1:=ab aoz aoz;have g1:¬1000<n+1:=aoz;have g2:¬64<d:=aoz;replace h:=hid h;clear no ha f0 f1 h0;refine ala cF ?_;refine ah (λm T' L'=>∃k:Nat,m=3-k/\k<=3/\T'=[(5,.int .i64 (k:Int)),(4,.ptr L.length 0),(0,.ptr p 0),(1,.int .i64 d)]/\L'=M ((i:Int)+1) (n+1)++[.cells [.int .i64 0,.str [],.str [],.sl [] 0 (some 0),.sl [] 0 (some 0)]]) (CutS (b:=by simp[m1])) ⟨0,rfl,aoz,rfl,rfl⟩ ?_;rintro _ _ _ ⟨k,rfl,hk,rfl,rfl⟩;have hk:k=0\/k=1\/k=2\/k=3:=aoz;rcases hk with rfl|rfl|rfl|rfl;refine wk ?_;exact aoE aoz (CutS (b:=by simp[m1])) ⟨1,rfl,aoz,rfl,rfl⟩;refine wk ?_;exact aoE aoz (CutS (b:=by simp[m1])) ⟨2,rfl,aoz,rfl,rfl⟩;refine wk ?_;exact aoE aoz (CutS (b:=by simp[m1])) ⟨3,rfl,aoz,rfl,rfl⟩;refine wk ?_;rw[show(i:Int)+1+6=(i:Int)+7 by omega];exact fE (by simp[m1]) (λhh=>m8.o _ _ _ hh) rfl h.o
abbrev aeP:List UInt8:=[40,124,40,99,110,61,97,41,40,115,110,61,98,41,41]
theorem ajG:abP aeP 3 99 110 97:=⟨rfl,rfl,rfl,rfl,rfl,by decide,by decide,rfl,rfl,rfl,by decide,by decide,by decide,by decide⟩
theorem ajF:abP aeP 9 115 110 98:=⟨rfl,rfl,rfl,rfl,rfl,by decide,by decide,rfl,rfl,rfl,by decide,by decide,by decide,by decide⟩
theorem ad1(hL:L[p]?=some (rdR aeP 0 0))(h:K (.agg [.int .i64 1,.str [],.str [],.sl [] 0 none,.sl [.int .i64 3,.str [99,110],.str [97],.sl [] 0 none,.sl [] 0 none,.int .i64 3,.str [115,110],.str [98],.sl [] 0 none,.sl [] 0 none] 2 none]) (L.set p (rdR aeP 15 3))):
 alb 107 [.ptr p 0,.int .i64 1] L K:=ad0 ajG ajF (by decide) (by decide) hL h
abbrev aaI:List UInt8:=[40,38,40,99,110,61,97,41,40,115,110,62,61,98,41,41]
theorem ajI:abP aaI 3 99 110 97:=⟨rfl,rfl,rfl,rfl,rfl,by decide,by decide,rfl,rfl,rfl,by decide,by decide,by decide,by decide⟩
theorem ajH:ag7 aaI 9 115 110 98:=⟨rfl,rfl,rfl,rfl,rfl,rfl,by decide,by decide,rfl,rfl,rfl,by decide,by decide,by decide,by decide⟩
theorem ad2(hL:L[p]?=some (rdR aaI 0 0))(h:K (.agg [.int .i64 0,.str [],.str [],.sl [] 0 none,.sl [.int .i64 3,.str [99,110],.str [97],.sl [] 0 none,.sl [] 0 none,.int .i64 5,.str [115,110],.str [98],.sl [] 0 none,.sl [] 0 none] 2 none]) (L.set p (rdR aaI 16 3))):
  alb 107 [.ptr p 0,.int .i64 1] L K:=by
 have hp:p<L.length:=(ald.1 hL).1;obtain⟨M,m0,hM,m1,m2,m3,m4,m5,m6,m7,m8⟩:=rdM hL;rw[hM]at h;rw[m0];clear hL hM m0;have no:∀(i:Nat) (c:UInt8),i<16->∀n,((aaI).getD i 0).toNat≠c.toNat->∀{X:List Blk}{K:alc},K (.bool false) (M i n++X)->alb 150 [.ptr p 0,.int .u8 c.toNat] (M i n++X) K:=λi c hi n hc {X K} q=>abf (i:=i) (m3 _ _ X) rfl hi hc q
 have yes:∀(i:Nat) (c:UInt8),i<16->∀n,(aaI).getD i 0=c->∀{X:List Blk}{K:alc},K (.bool true) (M ((i+1:Nat):Int) n++X)->alb 150 [.ptr p 0,.int .u8 c.toNat] (M i n++X) K:=λi c hi n hc {X K} q=>abe (i:=i) (m3 _ _ X) rfl hi hc aoA (by rw[m2];exact q)
 have kk1:Hid (∀{X:List Blk}{K:alc},K (.bool true) (M 1 0++X)->alb 150 [.ptr p 0,.int .u8 40] (M 0 0++X) K):=hid (yes 0 40 aoz 0 rfl);have kk2:Hid (∀{X:List Blk}{K:alc},K (.bool true) (M 2 1++X)->alb 150 [.ptr p 0,.int .u8 38] (M 1 1++X) K):=hid (yes 1 38 aoz 1 rfl);have kk4:Hid (∀{X:List Blk}{K:alc},K (.bool true) (M 16 3++X)->alb 150 [.ptr p 0,.int .u8 41] (M 15 3++X) K):=hid (yes 15 41 aoz 3 rfl);have q1:Hid (∀{X:List Blk}{K:alc},K (.agg (RR 99 110 97)) (M 8 2++X)->alb 107 [.ptr p 0,.int .i64 2] (M 2 1++X) K):=hid λr=>YO (i:=2) ajI rfl (by decide) aoz aoz aoz (m3 _ _ _) (by rw[m2];exact r)
 have q2:Hid (∀{X:List Blk}{K:alc},K (.agg (ZL 115 110 98)) (M 15 3++X)->alb 107 [.ptr p 0,.int .i64 2] (M 8 2++X) K):=hid λr=>agv (i:=8) ajH rfl (by decide) aoz aoz aoz (m3 _ _ _) (by rw[m2];exact r)
 have g0:IntKind.i64.wrap (0+1)=1:=rfl;replace h:=hid h;clear no yes;refine ala cF ?_;refine ah (λm T' L'=>∃k:Nat,m=2-k/\k<=0/\T'=[(5,.int .i64 (k:Int)),(4,.ptr L.length 0),(0,.ptr p 0),(1,.int .i64 1)]/\L'=M 1 1++[.cells [.int .i64 0,.str [],.str [],.sl [] 0 (some 0),.sl [] 0 (some 0)]]) (CutS (b:=by simp[m1])) ⟨0,rfl,aoz,rfl,rfl⟩ ?_;rintro _ _ _ ⟨k,rfl,hk,rfl,rfl⟩;have hk:k=0:=aoz;subst hk;refine wk ?_;have e2:(M 2 1++[Blk.cells [.int .i64 0,.str [],.str [],.sl [] 0 (some 0),.sl [] 0 (some 0)],.cells [.int .i64 0,.str [],.str [],.sl [] 0 (some 0),.sl [] 0 (some 0)]]).length=L.length+2:=by simp[m1]
 refine LT (L.length+1) 4 5 (c:=[.int .i64 0,.str [],.str [],.sl [] 0 (some 0),.sl [] 0 (some 0)]) (l:=[]) (n:=0) (by simp[m6]) rfl (alG 5).symm ?_;rw[e2];clear e2;obtain⟨B0,hB0⟩:=ak7 (Blk.cells [.int .i64 0,.str [],.str [],.sl [] 0 (some 0),.sl [] 0 (some 0)]);refine UZ (L':=M 2 1++[B0,.cells [.int .i64 0,.str [],.str [],.sl [] 0 (some 0),.gsl [] 0 (L.length+2) 5],.spare 0 5]) (by rw[<- hB0];simp[m7]) ?_;refine ah (λm T' L'=>∃(j:Nat) (x n:Int) (C:List AV),m=2-j/\(j=0/\x=2/\n=1/\C=[]\/j=1/\x=8/\n=2/\C=[.int .i64 3,.str [99,110],.str [97],.sl [] 0 none,.sl [] 0 none]\/j=2/\x=15/\n=3/\C=[.int .i64 3,.str [99,110],.str [97],.sl [] 0 none,.sl [] 0 none,.int .i64 5,.str [115,110],.str [98],.sl [] 0 none,.sl [] 0 none])/\T'=[(6,.ptr (L.length+1) 0),(5,.int .i64 0),(4,.ptr L.length 0),(0,.ptr p 0),(1,.int .i64 1)]/\L'=M x n++[B0,.cells [.int .i64 0,.str [],.str [],.sl [] 0 (some 0),.gsl C j (L.length+2) 5],.spare j 5]) (CutS (b:=by simp[m1])) ⟨0,_,_,_,rfl,.inl ⟨rfl,rfl,rfl,rfl⟩,rfl,rfl⟩ ?_;clear kk1 kk2;rintro _ _ _ ⟨j,x,n,C,rfl,hj,rfl,rfl⟩;rcases hj with⟨rfl,rfl,rfl,rfl⟩|⟨rfl,rfl,rfl,rfl⟩|⟨rfl,rfl,rfl,rfl⟩;refine wk ?_;refine UW (.agg (RR 99 110 97)) (M 8 2++[B0,.cells [.int .i64 0,.str [],.str [],.sl [] 0 (some 0),.gsl [] 0 (L.length+2) 5],.spare 0 5]) (q1.o ⟨rfl,rfl⟩) rfl ?_;refine aoH ?_;exact aoE aoz (CutS (b:=by simp[m1])) ⟨1,_,_,_,rfl,.inr (.inl ⟨rfl,rfl,rfl,rfl⟩),rfl,rfl⟩;refine wk ?_;refine UW (.agg (ZL 115 110 98)) (M 15 3++[B0,.cells [.int .i64 0,.str [],.str [],.sl [] 0 (some 0),.gsl [.int .i64 3,.str [99,110],.str [97],.sl [] 0 none,.sl [] 0 none] 1 (L.length+2) 5],.spare 1 5]) (q2.o ⟨rfl,rfl⟩) rfl ?_;refine aoH ?_;exact aoE aoz (CutS (b:=by simp[m1])) ⟨2,_,_,_,rfl,.inr (.inr ⟨rfl,rfl,rfl,rfl⟩),rfl,rfl⟩;subst hB0;refine wk ?_;refine aW ?_;simp only[AV.frz,AV.frzL];exact fE (by simp[m1]) (λhh=>m8.o _ _ _ hh) rfl h.o
abbrev aeO:List UInt8:=[40,124,41]
theorem aiv(hL:L[p]?=some (rdR aeO 0 0))(h:K (.agg [.int .i64 1,.str [],.str [],.sl [] 0 (some 0),.sl [] 0 (some 0)]) (L.set p (rdR aeO 3 1))):
  alb 107 [.ptr p 0,.int .i64 1] L K:=by
 have hp:p<L.length:=(ald.1 hL).1;obtain⟨M,m0,hM,m1,m2,m3,m4,m5,m6,m7,m8⟩:=rdM hL;rw[hM]at h;rw[m0];clear hL hM m0;have no:∀(i:Nat) (c:UInt8),i<3->∀n,((aeO).getD i 0).toNat≠c.toNat->∀{X:List Blk}{K:alc},K (.bool false) (M i n++X)->alb 150 [.ptr p 0,.int .u8 c.toNat] (M i n++X) K:=λi c hi n hc {X K} q=>abf (i:=i) (m3 _ _ X) rfl hi hc q
 have yes:∀(i:Nat) (c:UInt8),i<3->∀n,(aeO).getD i 0=c->∀{X:List Blk}{K:alc},K (.bool true) (M ((i+1:Nat):Int) n++X)->alb 150 [.ptr p 0,.int .u8 c.toNat] (M i n++X) K:=λi c hi n hc {X K} q=>abe (i:=i) (m3 _ _ X) rfl hi hc aoA (by rw[m2];exact q)
 have kk1:Hid (∀{X:List Blk}{K:alc},K (.bool true) (M 1 0++X)->alb 150 [.ptr p 0,.int .u8 40] (M 0 0++X) K):=hid (yes 0 40 aoz 0 rfl);have kk2:Hid (∀{X:List Blk}{K:alc},K (.bool false) (M 1 1++X)->alb 150 [.ptr p 0,.int .u8 38] (M 1 1++X) K):=hid (no 1 38 aoz 1 (by decide));have kk3:Hid (∀{X:List Blk}{K:alc},K (.bool true) (M 2 1++X)->alb 150 [.ptr p 0,.int .u8 124] (M 1 1++X) K):=hid (yes 1 124 aoz 1 rfl);have kk4:Hid (∀{X:List Blk}{K:alc},K (.bool true) (M 3 1++X)->alb 150 [.ptr p 0,.int .u8 41] (M 2 1++X) K):=hid (yes 2 41 aoz 1 rfl);have g0:IntKind.i64.wrap (0+1)=1:=rfl;replace h:=hid h;clear no yes;refine ala cF ?_;refine ah (λm T' L'=>∃k:Nat,m=2-k/\k<=1/\T'=[(5,.int .i64 (k:Int)),(4,.ptr L.length 0),(0,.ptr p 0),(1,.int .i64 1)]/\L'=M 1 1++[.cells [.int .i64 0,.str [],.str [],.sl [] 0 (some 0),.sl [] 0 (some 0)]]) (CutS (b:=by simp[m1])) ⟨0,rfl,aoz,rfl,rfl⟩ ?_;rintro _ _ _ ⟨k,rfl,hk,rfl,rfl⟩;have hk:k=0\/k=1:=aoz;rcases hk with rfl|rfl;refine wk ?_;exact aoE aoz (CutS (b:=by simp[m1])) ⟨1,rfl,aoz,rfl,rfl⟩;refine wk ?_;refine ah (λm T' L'=>m=0/\T'=[(6,.ptr (L.length+1) 0),(5,.int .i64 1),(4,.ptr L.length 0),(0,.ptr p 0),(1,.int .i64 1)]/\L'=M 2 1++[.cells [.int .i64 0,.str [],.str [],.sl [] 0 (some 0),.sl [] 0 (some 0)],.cells [.int .i64 1,.str [],.str [],.sl [] 0 (some 0),.sl [] 0 (some 0)]]) (CutS (b:=by simp[m1])) ⟨rfl,rfl,rfl⟩ ?_;rintro _ _ _ ⟨rfl,rfl,rfl⟩;refine wk ?_;exact fE (by simp[m1]) (λhh=>m8.o _ _ _ hh) rfl h.o
variable {L:List Blk}{K:alc}
def l20:List aQ:=GR 4 [(cnS,[[97]])] []
abbrev akD:Flt:=.mk 0 [] [] [] [.mk 3 [99,110] [97] [] [],.mk 5 [115,110] [98] [] []]
abbrev akC:Flt:=.mk 1 [] [] [] [.mk 3 [99,110] [97] [] [],.mk 3 [115,110] [98] [] []]
abbrev akB:Flt:=.mk 1 [] [] [] []
theorem akK:l4 Uj l20 9 akD=some [4]:=aoB
theorem akJ:l4 Uj l20 9 akC=none:=aoB
theorem akI:l4 Uj l20 9 akB=some []:=aoB
theorem aao:alb 26 [] [] λv _=>v=.bool true:=by
 obtain⟨x,hx⟩:=ak7 (bU an);obtain⟨m,hm⟩:=ak7 (an.length);obtain⟨y,hy⟩:=ak7 (Lt);have kk1:Hid (Ctr Tryz.prog 20 [] (.agg [.sl x m none,.sl y 9 none])):=hid λq=>agG (by rw[hx,hm,hy];exact q)
 have kN:Hid (∀{L:List Blk}{c:Option Nat}{K:alc},(∀L' it B,Hid (IxO L' it Uj [] B)->K (.tup [.ptr it 0,.int .i64 0]) L')->alb 19 [.agg [.sl x m none,.sl y 9 none],.sl [.str cnS] 1 c] L K):=@hid _ (λ{L c K} q=>by rw[<- hx,<- hm];exact ack (ns:=[cnS]) gp.1 gp.2.1 aoA (λn hn=>by rw[alB.1 hn];unfold aR;decide) aiO (λL' e=>absurd rfl e) λL' it B _ g1 _ _=>q L' it B (hid g1))
 have kP:Hid (∀{L:List Blk}{it:Nat}{B:Nat->Prop}{c1 c2:Option Nat}{K:alc},Hid (IxO L it Uj [] B)->(∀L' B',Hid (IxO L' it Uj l20 B')->K (.tup []) L')->alb 21 [.ptr it 0,.int .i64 4,.sl [.str cnS,.sl [.str [97]] 1 c1] 1 c2] L K):=@hid _ (λ{L it B c1 c2 K} ho q=>by refine fI ?_;simp only[AV.frzL,AV.frz];exact acj (a:=[(cnS,[[97]])]) ho.o ⟨agX.1,agX.2,aoA⟩ (aiP _ (by decide)) λL' B' g1 _ _=>q L' B' (hid g1))
 have kA:Hid (Ctr Tryz.prog 58 [.str [40,38,40,99,110,61,97,41,40,115,110,62,61,98,41,41]] (.tup [.agg [.int .i64 0,.str [],.str [],.sl [] 0 none,.sl [.int .i64 3,.str [99,110],.str [97],.sl [] 0 none,.sl [] 0 none,.int .i64 5,.str [115,110],.str [98],.sl [] 0 none,.sl [] 0 none] 2 none],.int .i64 0])):=@hid _ (λ{L K} q=>Sv (s:=aaI) (n:=3) (by decide) (λ_=>rfl) (λhL q2=>ad2 hL q2) q);have kB:Hid (Ctr Tryz.prog 58 [.str [40,124,40,99,110,61,97,41,40,115,110,61,98,41,41]] (.tup [.agg [.int .i64 1,.str [],.str [],.sl [] 0 none,.sl [.int .i64 3,.str [99,110],.str [97],.sl [] 0 none,.sl [] 0 none,.int .i64 3,.str [115,110],.str [98],.sl [] 0 none,.sl [] 0 none] 2 none],.int .i64 0])):=@hid _ (λ{L K} q=>Sv (s:=aeP) (n:=3) (by decide) (λ_=>rfl) (λhL q2=>ad1 hL q2) q);have kC:Hid (Ctr Tryz.prog 58 [.str [40,124,41]] (.tup [.agg [.int .i64 1,.str [],.str [],.sl [] 0 (some 0),.sl [] 0 (some 0)],.int .i64 0])):=@hid _ (λ{L K} q=>Sv (s:=aeO) (n:=1) (by decide) (λ_=>rfl) (λhL q2=>aiv hL q2) q);have hidk:Sj l20:=⟨by decide,by decide⟩;have kQ:∀(f:Flt) (r:Option (List Int)) (F:List AV),WF f->l4 Uj l20 9 f=r->AV.frzL F=fA f->Hid (∀{L:List Blk}{it:Nat}{B:Nat->Prop}{X:List Blk}{K:alc},Hid (IxO L it Uj l20 B)->K (de r) (L++X)->alb 27 [.ptr it 0,.agg F,.int .i64 9] (L++X) K):=λf r F hf hr hF=>@hid _ (λ{L it B X K} ho q=>by refine fI ?_;simp only[AV.frzL,AV.frz,hF];exact Yb ho.o hidk f hf (by rw[hr];exact q))
 have kQA:=@kQ akD (some [4]) [.int .i64 0,.str [],.str [],.sl [] 0 none,.sl [.int .i64 3,.str [99,110],.str [97],.sl [] 0 none,.sl [] 0 none,.int .i64 5,.str [115,110],.str [98],.sl [] 0 none,.sl [] 0 none] 2 none] (by simp[FlB,W6]) akK rfl;have kQB:=@kQ akC none [.int .i64 1,.str [],.str [],.sl [] 0 none,.sl [.int .i64 3,.str [99,110],.str [97],.sl [] 0 none,.sl [] 0 none,.int .i64 3,.str [115,110],.str [98],.sl [] 0 none,.sl [] 0 none] 2 none] (by simp[FlB,W6]) akJ rfl;have kQC:=@kQ akB (some []) [.int .i64 1,.str [],.str [],.sl [] 0 (some 0),.sl [] 0 (some 0)] (by simp[FlB,W6]) akI rfl;simp only[de,iq,alr,amH,alp,al9]at kQA kQB kQC;clear kQ hidk hx hm hy;refine ala Tj ?_;refine kN.o λL1 it B1 h1=>?_
 refine aoH ?_;refine kP.o h1 λL2 B2 h2=>?_
 clear h1 kk1;have kk1:=@kA;have kk2:=@kB;have kk3:=@kC;have kk4:Hid (∀{X:List Blk}{K:alc},K (.tup [.sl [.int .i64 4] 1 none,.bool true]) (L2++X)->alb 27 [.ptr it 0,.agg [.int .i64 0,.str [],.str [],.sl [] 0 none,.sl [.int .i64 3,.str [99,110],.str [97],.sl [] 0 none,.sl [] 0 none,.int .i64 5,.str [115,110],.str [98],.sl [] 0 none,.sl [] 0 none] 2 none],.int .i64 9] (L2++X) K):=@hid _ (λ{X K} q=>kQA.o h2 q);have kk5:Hid (∀{X:List Blk}{K:alc},K (.tup [.sl [] 0 (some 0),.bool false]) (L2++X)->alb 27 [.ptr it 0,.agg [.int .i64 1,.str [],.str [],.sl [] 0 none,.sl [.int .i64 3,.str [99,110],.str [97],.sl [] 0 none,.sl [] 0 none,.int .i64 3,.str [115,110],.str [98],.sl [] 0 none,.sl [] 0 none] 2 none],.int .i64 9] (L2++X) K):=@hid _ (λ{X K} q=>kQB.o h2 q);have kk6:Hid (∀{X:List Blk}{K:alc},K (.tup [.sl [] 0 none,.bool true]) (L2++X)->alb 27 [.ptr it 0,.agg [.int .i64 1,.str [],.str [],.sl [] 0 (some 0),.sl [] 0 (some 0)],.int .i64 9] (L2++X) K):=@hid _ (λ{X K} q=>kQC.o h2 q);clear h2 kQA kQB kQC kA kB kC kN kP;refine aoH ?_;exact aa rfl
theorem abJ(h:K (.bool true) L):alb 26 [] L K:=ajn aao h
theorem Yr{ns:List (List UInt8)}{acts:List aQ}{f:Flt}{w:Int}{cap capA:Option Nat}(hns:∀n∈ns,aR n)(hnl:(ns.length:Int)<=9223372036854775807)(ha:Y7 acts)(hf:aha f)(h:∀L',K (.bool true) L'):
  alb 5 [.agg (.sl (ns.map AV.str) ns.length cap :: .sl (bM acts) acts.length capA::(fA f++[.int .i64 w]))] L K:=by
 have kkW:Hid (Ctr Tryz.prog 26 [] (.bool true)):=@hid _ (λ{L K} q=>abJ q);have kkS:Hid (∀{L:List Blk}{K:alc},(∀b:Bool,(b=true->WF f)->K (.bool b) L)->alb 25 [.agg (fA f)] L K):=@hid _ (λ{L K} q=>aeq hf q);have kkM:Hid (∀{L:List Blk}{K:alc},(∀L',bP (λ_=>False) L L'->K (.tup [.nilptr,.nilptr]) L')->(∀L' it rt tm l B,Hid (Mu an [] ns=(0,tm)/\gL L L' it rt tm l B/\l.length<=40)->K (.tup [.ptr it 0,.ptr rt 0]) L')->alb 24 [.sl (ns.map AV.str) ns.length cap,.sl (bM acts) acts.length capA] L K):=@hid _ (λ{L K} q0 q1=>afM hns hnl ha q0 λL' it rt tm l B e1 e2 e3=>q1 L' it rt tm l B (hid ⟨e1,e2,e3⟩));have kkA:∀(L:List Blk) (it:Nat) (tm:TMp) (l:List aQ) (B:Nat->Prop),IxO L it tm l B->Sj l->WF f->∀w,Hid (∀{X:List Blk}{K:alc},K (de (l4 tm l w f)) (L++X)->alb 27 [.ptr it 0,.agg (fA f),.int .i64 w] (L++X) K):=λL it tm l B ho hi hs w=>@hid _ (λ{X K} q=>Yb ho hi f hs q)
 have kkR:∀(L:List Blk) (rt:Nat) (tm:TMp) (l:List aQ),TmS an tm->LR L rt GV tm l->eE l->l.length<=1000->(∀e∈l,InA an e.2/\p8 e.2)->WF f->Hid (∀{X:List Blk}{K:alc},K (de (l4 tm l w f)) (L++X)->alb 28 [.ptr rt 0,.agg (fA f),.int .i64 w] (L++X) K):=λL rt tm l h1 h2 h3 h4 h5 h6=>@hid _ (λ{X K} q=>afj h1 h2 h3 h4 h5 f h6 q)
 have hfz:=agw f;obtain⟨k,a,v,ps,ks⟩:=f;rw[Lp]at kkS hfz⊢;rw[Lp]at kkA kkR;obtain⟨PS,hPS⟩:∃P,P=ir ps:=⟨_,rfl⟩;obtain⟨KS,hKS⟩:∃P,P=fsA ks:=⟨_,rfl⟩;obtain⟨NS,hNS⟩:∃P,P=ns.map AV.str:=⟨_,rfl⟩;obtain⟨ES,hES⟩:∃P,P=bM acts:=⟨_,rfl⟩;rw[<- hPS,<- hKS]at kkA kkR kkS⊢;rw[<- hNS,<- hES]at kkM⊢;replace hPS:=hid hPS;replace hKS:=hid hKS;replace hNS:=hid hNS;replace hES:=hid hES;replace h:=hid h;clear hfz hf hns hnl ha;simp only[alN,alL];refine ala GZ ?_;refine kkM.o (λL1 u1=>?_) (λL1 it rt tm l B hM=>?_);have hb:L1[L.length]?=some (.cells [.sl NS ns.length cap,.sl ES acts.length capA,.int .i64 k,.str a,.str v,.sl PS ps.length none,.sl KS ks.length none,.int .i64 w]):=u1.get aoA (λe=>e);have kk1:=@kkW;clear u1 kkM kkA kkR kkS;refine aoH ?_;exact aa (h.o _);have hb:L1[L.length]?=some (.cells [.sl NS ns.length cap,.sl ES acts.length capA,.int .i64 k,.str a,.str v,.sl PS ps.length none,.sl KS ks.length none,.int .i64 w]):=hM.o.2.1.bes.get aoA (λe=>e);have hi:Sj l:=⟨by have:=hM.o.2.2;omega,hM.o.2.1.ids⟩;have kA:=kkA L1 it tm l B hM.o.2.1.ix hi;have kR:=kkR L1 rt tm l hM.o.2.1.tms hM.o.2.1.doc hM.o.2.1.ix.rise hi.len hM.o.2.1.ents;replace kR:=hid kR;have hrs:=hM.o.2.1.ix.rise;have hlen:=hid hM.o.2.2;replace kA:=hid kA;replace hrs:=hid hrs;clear hM kkA kkR kkM hi;refine aoH ?_;refine kkS.o λb hb2=>?_
 cases b with
 | false =>
   have kk1:=@kkW;clear hb2 kA kR kkS;refine aoH ?_;exact aa (h.o _)
 |true =>
 have kB:=kA.o (hb2 rfl);have kB1:=@kB w;have kC:=kR.o;have kB2:=@kC (hb2 rfl);clear hb2 kA kR kkS kB kC;have hRs2:∀m,l4 tm l w (.mk k a v ps ks)=some m->InE l m:=λm e=>UT hrs.o _ m e
 obtain⟨oA,ho1⟩:=ak7 (l4 tm l w (.mk k a v ps ks));rw[ho1]at hRs2 kB1 kB2;clear ho1;have hl40:l.length<=40:=hlen.o;obtain⟨rw0,b,hrw,hsm⟩:∃(r:AV) (b:Bool),de oA=.tup [r,.bool b]/\Hid (Ctr Tryz.prog 22 [r,r] (.bool true)):=by
  cases oA with
  |none=>exact⟨_,_,rfl,@hid _ (λ{L K} q=>ab6 (xs:=[]) aoA q)⟩
  |some m=>exact⟨_,_,rfl,@hid _ (λ{L K} q=>ab6 (xs:=m) (by have:=(hRs2 m rfl).len;omega) q)⟩
 rw[hrw]at kB1 kB2;have kk1:Hid (∀{K:alc},K (.tup [rw0,.bool b]) L1->alb 27 [.ptr it 0,.agg [.int .i64 k,.str a,.str v,.sl PS ps.length none,.sl KS ks.length none],.int .i64 w] L1 K):=@hid _ (λ{K} q=>by have:=kB1.o (X:=[]) (K:=K) (by simpa using q);simpa using this)
 have kk2:Hid (∀{K:alc},K (.tup [rw0,.bool b]) L1->alb 28 [.ptr rt 0,.agg [.int .i64 k,.str a,.str v,.sl PS ps.length none,.sl KS ks.length none],.int .i64 w] L1 K):=@hid _ (λ{K} q=>by have:=kB2.o (X:=[]) (K:=K) (by simpa using q);simpa using this)
 have kk3:=@kkW;have kk4:=@hsm;clear kB1 kB2 hRs2 hrw;cases b with
 | false =>
   refine aoH ?_;exact aa (Kto (h.o _) aoA)
 | true =>
   refine aoH ?_;exact aa (Kto (h.o _) aoA)
open Go Go.ChangeShapes Go.WideShapes Go.ChangeAt
def RdW(F:Nat)(P:Program)(t:TypeId){X:Type}(ec:X->List AV)(ok:X->Prop):Prop :=
 ∀(H:Type) (enc:TypeId×Value->H) (w:World) (fuel:Nat) (cs:List Value) (x:DataW H×List MemPlace),fuel<F ->
  DataW.trod enc P w 0 (λ_=>true) true fuel t cs=some x->(∀n∈x.1.weights P t,n<=reachBytes)->∃y,ok y/\VRL (oa w) (ec y) cs
theorem RdW.mono{G:Nat}{ec:X->List AV}{ok:X->Prop}(h:RdW G P t ec ok)(hf:F<=G):RdW F P t ec ok:=λH enc w fuel cs x hF hx hb=>h H enc w fuel cs x aoz hx hb
theorem RdZ.w{ec:X->List AV}{ok:X->Prop}(h:RdZ P t ec ok)(F:Nat):RdW F P t ec ok:=λH enc w fuel cs x _ hx hb=>h H enc w fuel cs x hx hb
theorem RdW.z{ec:X->List AV}{ok:X->Prop}(h:∀F,RdW F P t ec ok):RdZ P t ec ok:=λH enc w fuel cs x hx hb=>h (fuel+1) H enc w fuel cs x (Nat.lt_succ_self _) hx hb
theorem RdW.map{Y:Type}{ec:X->List AV}{ok:X->Prop}{ec':Y->List AV}{ok':Y->Prop}(h:RdW F P t ec ok)(m:∀y,ok y->∃z,ok' z/\ec' z=ec y):RdW F P t ec' ok':=λH enc w fuel cs x hF hx hb=>by obtain⟨y,h1,h2⟩:=h H enc w fuel cs x hF hx hb;obtain⟨z,h3,h4⟩:=m y h1;exact⟨z,h3,by rw[h4];exact h2⟩
theorem adk{e:TypeId}{ec:X->List AV}{ok:X->Prop}(ht:P.underlying t=some (.slice e))(he:RdW F P e ec ok)(hz':decide (0<P.cellsOf e)=true):
  RdW (F+1) P t (λl:List X=>[.sl (l.flatMap ec) l.length none]) (λl=>l.length<=maxLen/\∀y∈l,ok y):=λH enc w fuel cs x hF hx hwt=>by
 have hz:0<P.cellsOf e:=of_decide_eq_true hz';rcases DataW.trod_slice ht hx with⟨rfl,_⟩|⟨a,len,cap,elems,rest,n,hfu,rfl,rfl,_,hlc,hcap,hel,hget,hsp,_⟩;exact⟨[],⟨aoA,aoA⟩,by simp only[VRL,VR];exact⟨_,_,rfl,⟨none,0,rfl,ale _,aoA,.inl ⟨rfl,rfl,rfl⟩⟩,rfl⟩⟩;have hspot:cap≠0->a.spot=none:=λhc=>by
  have first:∀r:Option (DataW H×List MemPlace),r≠none->(w.cells? 0 (a.add (0*P.cellsOf e)) (P.cellsOf e)).bind (DataW.trod enc P w 0 (λ_=>true) true n e)=r->a.spot=none:=λr hr h1=>by obtain⟨q,rfl⟩:=Option.ne_none_iff_exists'.1 hr;rw[am9]at h1;obtain⟨cs',h2,_⟩:=h1;obtain⟨h6,h7⟩:=yA h2;have h8:=h7 0 hz;obtain⟨v,hv⟩:∃v,cs'[0]?=some v:=⟨cs'[0]'aoz,alu _⟩;rw[hv]at h8;have:=X7 h8;simpa[Addr.add]using this
  by_cases hl:len=0;obtain⟨r1,r2⟩:=hsp rfl;exact first rest[0]? (by rw[alu aoz];simp) (by simpa[hl]using r2 0 aoz)
  exact first elems[0]? (by rw[alu aoz];simp) (hget 0 aoz)
 have each:∀i,i<len->∃y,ok y/\(ec y).length=P.cellsOf e/\a.spot=none/\VRC (oa w) (ec y) a.block (a.off+i*P.cellsOf e):=λi hi=>by
  have h1:=hget i hi;obtain⟨q,hq⟩:∃q,elems[i]?=some q:=⟨elems[i]'aoz,alu _⟩;rw[hq,am9]at h1;obtain⟨cs',h2,h3⟩:=h1;obtain⟨y,h4,h5⟩:=he H enc w n cs' q aoz h3 (λm hm=>hwt m (by simp only[DataW.weights,ht];refine amp _ (amT _ (rr (d:=q.1) ?_ m hm));exact alg.2 ⟨q,alV hq,rfl⟩))
  obtain⟨h6,h7⟩:=yA h2;have hl:=h5.length;have hsp:a.spot=none:=hspot aoz;refine⟨y,h4,aoz,hsp,VRC.of_get λj u hu=>?_⟩;obtain⟨v,h8,h9⟩:=h5.get hu;refine⟨v,?_,h9⟩;have hj:j<P.cellsOf e:=by have:=(ald.1 hu).1;omega
  have h10:=h7 j hj;rw[h8]at h10;rw[<- h10];have hadd:∀k,a.add k=⟨a.block,a.off+k,none⟩:=λk=>by obtain⟨b,o,s⟩:=a;simp only at hsp;subst hsp;exact Addr.add_mk b o k
  rw[hadd,Addr.add_mk];rfl
 obtain⟨ys,h1,h2⟩:=Su _ len each;refine⟨ys,⟨aoz,λy hy=>?_⟩,?_⟩;obtain⟨i,hi⟩:=aoa hy;exact(h2 i y hi).1;simp only[VRL];refine⟨_,[],rfl,?_,rfl⟩;simp only[VR];refine⟨_,_,by rw[h1],aoz,aoA,?_⟩;by_cases hc:cap=0;have:ys=[]:=by have:ys.length=0:=aoz;simpa using this
 subst this;exact .inl ⟨rfl,hc,rfl⟩;refine .inr ⟨a.block,a.off,?_,Wz λi y hy=>⟨(h2 i y hy).2.1,(h2 i y hy).2.2.2⟩⟩;have hs:a.spot=none:=hspot hc;cases a;simp only at hs⊢;rw[hs]
def aiS(F:Nat)(P:Program)(N o:Nat)(fs:List Field){X:Type}(ec:X->List AV)(ok:X->Prop):Prop :=
 ∀(H:Type) (enc:TypeId×Value->H) (w:World) (n:Nat) (cs:List Value),n<F->cs.length=N ->
  (∀f∈fs,∃x,DataW.trod enc P w 0 (λ_=>true) true n f.type ((cs.drop f.offset).take (P.cellsOf f.type))=some x/\∀m∈x.1.weights P f.type,m<=reachBytes)->∃y,ok y/\VRL (oa w) (ec y) (cs.drop o)
theorem afg{o:Nat}(h:o=N):aiS F P N o [] (λ_:Unit=>[]) (λ_=>True):=λH enc w n cs _ hl _ =>
 ⟨(),trivial,by simp[VRL,h,<- hl]⟩
theorem tW{o sz:Nat}{f:Field}{fs:List Field}{Y:Type}{ec:X->List AV}{ok:X->Prop}{ec':Y->List AV}{ok':Y->Prop}(hf:f.offset=o)(hz:P.cellsOf f.type=sz)(h:RdW F P f.type ec ok)(r:aiS F P N (o+sz) fs ec' ok'):
  aiS F P N o (f::fs) (λy:X×Y=>ec y.1++ec' y.2) (λy=>ok y.1/\ok' y.2):=λH enc w n cs hF hl hx=>by
 obtain⟨x,h1,hw⟩:=hx f aoA;obtain⟨y,h2,h3⟩:=h H enc w n _ x hF h1 hw;obtain⟨z,h4,h5⟩:=r H enc w n cs hF hl λg hg=>hx g (by simp[hg])
 refine⟨(y,z),⟨h2,h4⟩,?_⟩;have:cs.drop o=(cs.drop f.offset).take (P.cellsOf f.type)++cs.drop (o+sz):=by rw[hf,hz,<- anL,amZ]
 rw[this];exact h3.append h5
theorem aaP{fs:Array Field}{ec:X->List AV}{ok:X->Prop}(ht:P.underlying t=some (.struct fs))(hN:P.cellsOf t=N)(r:aiS F P N 0 fs.toList ec ok):RdW (F+1) P t ec ok:=λH enc w fuel cs x hF hx hwt=>by
 subst hN;obtain⟨xs,n,hfu,rfl,hl,hlen,hf⟩:=DataW.trod_struct ht hx;obtain⟨y,h1,h2⟩:=r H enc w n cs aoz hl λf hfm=>by
  obtain⟨i,hi⟩:=aoa hfm;have hi':fs[i]?=some f:=(by simpa using hi);rw[hf i f hi'];have hlt:i<xs.length:=by rw[hlen];have:=(ald.1 hi).1;simpa using this
  refine⟨xs[i],alu hlt,λm hm=>hwt m ?_⟩;simp only[DataW.weights,ht];refine DataW.weights_mem_each (j:=i) (t:=f.type) (d:=xs[i].1) ?_ ?_ m hm;rw[al3,hi];rfl;rw[al3,alu hlt];rfl
 exact⟨y,h1,by simpa using h2⟩
end Go.Proofs.YtcmfcpjnhephaaaGreatDoor.Av
