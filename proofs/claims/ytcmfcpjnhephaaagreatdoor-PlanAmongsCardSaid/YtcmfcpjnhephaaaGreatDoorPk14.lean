/- Joined texts of the walk, made small by a program. -/
import Derived.Test.YtcmfcpjnhephaaaGreatDoorPk13
import Derived.Test.YtcmfcpjnhephaaaGreatDoorPk9
import Derived.Test.YtcmfcpjnhephaaaGreatDoorPk7
import Derived.Test.YtcmfcpjnhephaaaGreatDoorPk4
import Derived.Test.YtcmfcpjnhephaaaGreatDoorRows
import Derived.KernelRfl
import Derived.Test.YtcmfcpjnhephaaaGreatDoorPk12
import Derived.Test.YtcmfcpjnhephaaaGreatDoorPk10
import Derived.Test.YtcmfcpjnhephaaaGreatDoorPk5
set_option linter.unusedSimpArgs false
set_option linter.unusedVariables false
namespace Go.Proofs.YtcmfcpjnhephaaaGreatDoor.Av
open Go
variable {L:List Blk}{K:alc}
set_option maxHeartbeats 8000000
set_option maxRecDepth 100000
theorem ajP{l:List Int}{x:Int}{cap:Option Nat}(hn:l.length<=1000000)(h:K (.bool (l.contains x)) L):
  alb 110 [.sl (bx l) l.length cap,.int .i64 x] L K:=by
 replace h:=hid h;refine ala WU ?_;refine ah (λn T' L'=>∃(i:Nat),n=l.length-i/\i<=l.length/\Hid (∀j,j<i->l.getD j 0≠x)/\T'=[(9,.int .i64 (i:Int)),(8,.int .i64 l.length),(7,.sl (bx l) l.length cap),(1,.int .i64 x)]/\L=L') (CutS (b:=ale _)) ⟨0,rfl,ali _,hid aoA,rfl,rfl⟩ ?_;rintro _ _ _ ⟨i,rfl,hi,hno,rfl,rfl⟩;by_cases hlt:i<l.length;have h1:(i:Int)<(l.length:Int):=aoz;have h2:=ak9 i aoz;have g5:(bx l).getD i .undef=.int .i64 (l.getD i 0):=by simp[hlt]
 obtain⟨p,hp⟩:=ak7 (l.getD i 0);rw[hp]at g5;replace hp:=hid hp;by_cases hpq:p=x;have hc:l.contains x=true:=by have:=hp.o;rw[hpq]at this;rw[alQ,<- this,alD,alu hlt];exact al6 _
 have h':=h.o;rw[hc]at h';replace h':=hid h';clear hc;refine wk ?_;exact aa h'.o;refine wk ?_;refine aoE aoz (CutS (b:=ale _)) ⟨i+1,rfl,hlt,hid λj hj=>?_,rfl,rfl⟩;rcases alA j i with e|e;exact hno.o j e;have:j=i:=aoz;subst this;rw[hp.o];exact hpq;have hke:i=l.length:=aoz;subst hke;have h1:¬(l.length:Int)<(l.length:Int):=aoz;have hc:l.contains x=false:=by rw[<- amF,alQ];intro hm;obtain⟨j,hj,e⟩:=aml.1 hm;exact hno.o j hj (by simp[hj,e])
 have h':=h.o;rw[hc]at h';replace h':=hid h';clear hc;refine wk ?_;exact aa h'.o
def qZ(id:Int):List Int->List Int
 |[]=>[id]
 |x::t=>if id<x then id::x::t else x::qZ id t
def xK(l:List Int)(id:Int):List Int:=if l.contains id then l else qZ id l
theorem XM(id:Int):∀l,(qZ id l).length=l.length+1
 |[]=>rfl
 | x::t=>by
   simp only[qZ];split
   .simp
   .simp[XM id t]
theorem ah0(l:List Int)(id:Int):(xK l id).length<=l.length+1:=by unfold xK;split;omega;rw[XM];omega
theorem ah1{l:List Int}{id:Int}{cap:Option Nat}(hn:l.length<=1000000)(h:K (bO (xK l id)) L):
  alb 111 [.sl (bx l) l.length cap,.int .i64 id] L K:=by
 replace h:=hid h;refine ala V9 ?_;refine bt (l:=[]) (n:=0) 5 1 rfl (alG 1).symm ?_;refine ah (λn T' L'=>∃(i:Nat) (o:List Int) (d:Bool) (m:Nat),n=l.length-i/\i<=l.length/\Hid (m=o.length)/\m<=i+(if d=true then 1 else 0)/\Hid ((∀j,j<i->l.getD j 0≠id)/\(d=true->o++l.drop i=qZ id l)/\(d=false->o++qZ id (l.drop i)=qZ id l))/\T'=[(11,.int .i64 (i:Int)),(10,.int .i64 l.length),(9,.sl (bx l) l.length cap),(6,.bool d),(5,.gsl (bx o) m L.length 1),(0,.sl (bx l) l.length cap),(1,.int .i64 id)]/\L'=L++[.spare m 1]) aoD ⟨0,[],false,0,rfl,ali _,hid rfl,aoA,hid ⟨aoA,aoA,aoA⟩,rfl,rfl⟩ ?_;rintro _ _ _ ⟨i,o,d,m,rfl,hi,hm,hmi',hd,rfl,rfl⟩;have hmi:m<=i+1:=by split at hmi'<;>omega
 replace hmi':=hid hmi';have e1:(m+1)*8<=140737488355328:=aoz;have e2:m+1<=140737488355328:=aoz;have e3:(m+1+1)*8<=140737488355328:=aoz;have e4:m+1+1<=140737488355328:=aoz;by_cases hlt:i<l.length;have h1:(i:Int)<(l.length:Int):=aoz;have h2:=ak9 i aoz;have g5:(bx l).getD i .undef=.int .i64 (l.getD i 0):=by simp[hlt]
 obtain⟨p,hp⟩:=ak7 (l.getD i 0);have hdr:l.drop i=p::l.drop (i+1):=by rw[al1 hlt,<- hp];simp[hlt]
 rw[hp]at g5;replace hp:=hid hp;by_cases hpq:p=id;have hc:l.contains id=true:=by have:=hp.o;rw[hpq]at this;rw[alQ,<- this,alD,alu hlt];exact al6 _
 have h':=h.o;rw[xK,if_pos hc]at h';replace h':=hid h';clear hc hd;clear hdr;refine wk ?_;exact WG (ae (by simp only[AV.refs,dT]) h'.o);obtain⟨d1,d2,d3⟩:=hd.o;rw[hdr]at d2 d3;have d1':∀j,j<i+1->l.getD j 0≠id:=λj hj=>by rcases alA j i with e|e;exact d1 j e;have:j=i:=aoz;subst this;rw[hp.o];exact hpq
 replace d1':=hid d1';clear d1 hd;clear hdr;rcases d with _|_;have d3':=hid (d3 rfl);clear d2 d3;by_cases hip:id<p;have d4:=d3'.o;simp only[qZ,if_pos hip]at d4;replace d4:=hid d4;clear d3';have hm2:m<=i:=by simpa using hmi'.o
 refine wk ?_;refine aoE aoz aoC ⟨i+1,o++[id]++[p],true,m+1+1,rfl,hlt,hid (by simp[hm.o]),by simp;omega,hid ⟨d1'.o,λ_=>?_,λe=>by cases e⟩,rfl,rfl⟩;rw[<- d4.o];simp;have d4:=d3'.o;simp only[qZ,if_neg hip]at d4;replace d4:=hid d4;clear d3';have hm2:m<=i:=by simpa using hmi'.o
 refine wk ?_;refine aoE aoz aoC ⟨i+1,o++[p],false,m+1,rfl,hlt,hid (by simp[hm.o]),by simp;omega,hid ⟨d1'.o,(λe=>by cases e),λ_=>?_⟩,rfl,rfl⟩;rw[<- d4.o];simp;have d4:=hid (d2 rfl);clear d2 d3;refine wk ?_;refine aoE aoz aoC ⟨i+1,o++[p],true,m+1,rfl,hlt,hid (by simp[hm.o]),by simp;omega,hid ⟨d1'.o,λ_=>?_,λe=>by cases e⟩,rfl,rfl⟩;rw[<- d4.o];simp;have hke:i=l.length:=aoz;subst hke;have h1:¬(l.length:Int)<(l.length:Int):=aoz;obtain⟨d1,d2,d3⟩:=hd.o;rw[alY]at d2 d3;have hc:l.contains id=false:=by rw[<- amF,alQ];intro hm;obtain⟨j,hj,e⟩:=aml.1 hm;exact d1 j hj (by simp[hj,e])
 have h':=h.o;rw[xK,if_neg (by rw[hc];simp)]at h';clear hc hd d1;rcases d with _|_;have d4:=d3 rfl;simp only[qZ]at d4;rw[<- d4]at h';replace h':=hid h';clear d2 d3 d4;refine wk ?_;rw[show o.map (AV.int .i64)++[AV.int .i64 id]=bx (o++[id])by simp];refine aW (ae (by simp only[AV.frz,dU,AV.refs,dT]) ?_);have:=h'.o;simp only[bO,alw,an1,<- hm.o]at this;simp only[AV.frz,dU];exact this;have d4:=d2 rfl;rw[alJ]at d4;rw[<- d4]at h';replace h':=hid h';clear d2 d3 d4;refine wk ?_;refine aW (ae (by simp only[AV.frz,dU,AV.refs,dT]) ?_);have:=h'.o;simp only[bO,<- hm.o]at this;simp only[AV.frz,dU];exact this
theorem Ua(l:List Int):∀r:List Int,(l.foldl xK r).length<=r.length+l.length:=by
 induction l with
 |nil=>exact λr=>aoA
 | cons x l ih =>
   intro r;have h1:=ih (xK r x);have h2:=ah0 r x;simp only[al7,alp];omega
def Li(ls:List (List Int)):List Int:=ls.flatten.foldl xK []
theorem afT(ls:List (List Int)):(Li ls).length<=ls.flatten.length:=by simpa[Li]using Ua ls.flatten []
theorem ab7{ls:List (List Int)}{cap:Option Nat}(hn:ls.length<=1000000)(ht:ls.flatten.length<=1000000)(h:K (bO (Li ls)) L):
  alb 61 [.sl (ls.map bO) ls.length cap] L K:=by
 replace h:=hid h;have htk:=hid (λk=>@XT ls k);have hle:=hid (act ls);have hat:=hid (λk=>@UK ls k);refine ala Uq ?_;refine ah (λn T' L'=>∃(k:Nat) (r:List Int) (c:Option Nat),n=ls.length-k/\k<=ls.length/\Hid (r=(ls.take k).flatten.foldl xK [])/\T'=[(10,.int .i64 (k:Int)),(9,.int .i64 ls.length),(8,.sl (ls.map bO) ls.length cap),(3,.sl (bx r) r.length c)]/\L=L') (CutS (b:=ale _)) ⟨0,[],some 0,rfl,ali _,hid rfl,rfl,rfl⟩ ?_;rintro _ _ _ ⟨k,r,c,rfl,hk,hr,rfl,rfl⟩;by_cases hlt:k<ls.length;have g1:(k:Int)<(ls.length:Int):=aoz;have g2:=ak9 k aoz;have e1:=htk.o k hlt;have e2:=hat.o k hlt;have e3:=hle.o (k+1);obtain⟨l,hl⟩:=ak7 (ls.getD k []);rw[hl]at e1 e2;rw[e1]at e3;have e4:(ls.take k).flatten.length+l.length<=1000000:=by simp at e3⊢;simp at ht;omega
 replace e1:=hid e1;replace e4:=hid e4;replace hl:=hid hl;clear e3;refine wk ?_;refine ah (λn T' L'=>∃(j:Nat) (r:List Int) (c:Option Nat),n=l.length-j/\j<=l.length/\Hid (r=((ls.take k).flatten++l.take j).foldl xK [])/\T'=[(16,.int .i64 (j:Int)),(15,.int .i64 l.length),(14,bO l),(10,.int .i64 (k:Int)),(9,.int .i64 ls.length),(8,.sl (ls.map bO) ls.length cap),(3,.sl (bx r) r.length c)]/\L=L') (CutS (b:=ale _)) ⟨0,r,c,rfl,ali _,hid (by simpa using hr.o),rfl,rfl⟩ ?_;clear hr;clear r c;rintro _ _ _ ⟨j,r,c,rfl,hj,hr,rfl,rfl⟩;by_cases hjl:j<l.length;have e4':=e4.o;have g3:(j:Int)<(l.length:Int):=aoz;have g4:=ak9 j aoz;have g5:(bx l).getD j .undef=.int .i64 (l.getD j 0):=by simp[hjl]
 have hrn:r.length<=1000000:=by have h1:=Ua ((ls.take k).flatten++l.take j) [];rw[<- hr.o]at h1;simp at h1 e4';omega
 have hnext:xK r (l.getD j 0)=((ls.take k).flatten++l.take (j+1)).foldl xK []:=by rw[hr.o,aly hjl,<- alv,anb (l':=[l[j]])];simp[hjl]
 replace hnext:=hid hnext;clear e4';refine wk ?_;refine ah1 hrn ?_;refine aoH ?_;exact aoE aoz (CutL (b:=ale _)) ⟨j+1,xK r (l.getD j 0),none,rfl,hjl,hid hnext.o,rfl,rfl⟩;have hje:j=l.length:=aoz;subst hje;have g3:¬(l.length:Int)<(l.length:Int):=aoz;refine wk ?_;refine aoE aoz (CutL (b:=ale _)) ⟨k+1,r,c,rfl,hlt,hid ?_,rfl,rfl⟩;rw[hr.o,e1.o,alt];have hke:k=ls.length:=aoz;subst hke;have g1:¬(ls.length:Int)<(ls.length:Int):=aoz;have e:=hr.o;rw[alt]at e;have h':=h.o;rw[Li,<- e]at h';replace h':=hid h';clear e;refine wk ?_;exact WG (aa h'.o)
def VI(ls:List (List Int))(id:Int):Bool:=ls.all λl=>l.contains id
def ZF(ls:List (List Int)):List Int:=(Li ls).filter (VI ls)
theorem ahQ{ls:List (List Int)}{cap:Option Nat}(hn:ls.length<=1000000)(ht:ls.flatten.length<=1000000)(hl:∀l∈ls,l.length<=1000000)(h:K (bO (ZF ls)) L):
  alb 60 [.sl (ls.map bO) ls.length cap] L K:=by
 replace h:=hid h;have hat:=hid (λk=>@UK ls k);have hrn:=alF (afT ls) ht;replace hl:=hid hl;refine ala Up ?_;refine ab7 hn ht ?_;rw[ZF]at h;generalize Li ls=r at *;refine aoH ?_;refine bt (l:=[]) (n:=0) 3 1 rfl (alG 1).symm ?_;refine ah (λn T' L'=>∃(k m:Nat) (o:List Int),n=r.length-k/\k<=r.length/\m<=k/\Hid (m=o.length/\o=(r.take k).filter (VI ls))/\T'=[(12,.int .i64 (k:Int)),(11,.int .i64 r.length),(10,bO r),(3,.gsl (bx o) m L.length 1),(0,.sl (ls.map bO) ls.length cap)]/\L'=L++[.spare m 1]) aoD ⟨0,0,[],rfl,ali _,ale _,hid ⟨rfl,rfl⟩,rfl,rfl⟩ ?_;rintro _ _ _ ⟨k,m,o,rfl,hk,hmk,ho,rfl,rfl⟩;by_cases hlt:k<r.length
 .have g1:(k:Int)<(r.length:Int):=aoz;have g2:=ak9 k aoz;have g5:(bx r).getD k .undef=.int .i64 (r.getD k 0):=(by simp[hlt]);obtain⟨id,hi⟩:=ak7 (r.getD k 0);have htk:r.take (k+1)=r.take k++[id]:=(by rw[aly hlt,<- hi];simp[hlt]);rw[hi]at g5;clear hi;replace htk:=hid htk;refine wk ?_;refine ah (λn T' L'=>∃(j:Nat) (b:Bool),n=ls.length-j/\j<=ls.length/\Hid (b=VI (ls.take j) id)/\T'=[(18,.int .i64 (j:Int)),(17,.int .i64 ls.length),(16,.sl (ls.map bO) ls.length cap),(6,.bool b),(5,.int .i64 id),(12,.int .i64 (k:Int)),(11,.int .i64 r.length),(10,bO r),(3,.gsl (bx o) m L.length 1),(0,.sl (ls.map bO) ls.length cap)]/\L'=L++[.spare m 1]) aoD ⟨0,true,rfl,ali _,hid rfl,rfl,rfl⟩ ?_;rintro _ _ _ ⟨j,b,rfl,hj,hb,rfl,rfl⟩;by_cases hjl:j<ls.length
  .have g3:(j:Int)<(ls.length:Int):=aoz;have g4:=ak9 j aoz;have e2:=hat.o j hjl;have e4:(ls.getD j []).length<=1000000:=hl.o _ (by rw[alD,alu hjl];exact al6 _);obtain⟨l,hlj⟩:=ak7 (ls.getD j []);have htj:VI (ls.take (j+1)) id=(b&&l.contains id):=by rw[hb.o,<- hlj];unfold VI;rw[aly hjl,amB];simp[hjl]
   rw[hlj]at e2 e4;clear hlj;replace htj:=hid htj;rcases b with _|_;refine wk ?_;exact aoE aoz aoC ⟨j+1,false,rfl,hjl,hid (by rw[htj.o];rfl),rfl,rfl⟩
   .repeat' first
     |refine bu ?_
     | (first|refine bj aoB ?_|refine aJ aoB ?_|refine aM ?_|refine cN ?_|refine bE (fun _=>?_)|refine aC ?_|refine bo ?_)
       refine sm ?_
     | (first|refine a8 aoB ?_|refine ba ?_|refine aL ?_|refine bm ?_|refine bJ (aB ?_))
       refine sl ?_
     |exact bF
     |first|apply bG|apply be|apply bH|apply bf|apply bI|apply bg
     |refine aP ?_
     |refine aK ?_
     |first|refine aN rfl ?_|refine aO rfl ?_|refine ax rfl ?_ ?_|refine aT rfl (λ_=>?_) (λ_=>?_)|refine aS rfl (λ_=>?_) (λ_=>?_)
     |((first|refine au (λ_=>?_) (λ_=>?_)|refine aA (λ_=>?_) (λ_=>?_))<;>try refine sm ?_)
     |refine And.intro trivial ?_
     |refine And.intro aoz ?_
     |refine aY rfl (λ_=>?_) (λ_=>?_)
     |refine And.intro ?_ ?_
    refine aF (ajP e4 ⟨rfl,rfl⟩) ?_;refine sk ?_
    repeat' first
     |refine bu ?_
     | (first|refine bj aoB ?_|refine aJ aoB ?_|refine aM ?_|refine cN ?_|refine bE (fun _=>?_)|refine aC ?_|refine bo ?_)
       refine sm ?_
     | (first|refine a8 aoB ?_|refine ba ?_|refine aL ?_|refine bm ?_|refine bJ (aB ?_))
       refine sl ?_
     |exact bF
     |first|apply bG|apply be|apply bH|apply bf|apply bI|apply bg
     |refine aP ?_
     |refine aK ?_
     |first|refine aN rfl ?_|refine aO rfl ?_|refine ax rfl ?_ ?_|refine aT rfl (λ_=>?_) (λ_=>?_)|refine aS rfl (λ_=>?_) (λ_=>?_)
     |((first|refine au (λ_=>?_) (λ_=>?_)|refine aA (λ_=>?_) (λ_=>?_))<;>try refine sm ?_)
     |refine And.intro trivial ?_
     |refine And.intro aoz ?_
     |refine aY rfl (λ_=>?_) (λ_=>?_)
     |refine And.intro ?_ ?_
    exact aoE aoz aoC ⟨j+1,l.contains id,rfl,hjl,hid (by rw[htj.o];rfl),rfl,rfl⟩
  have hje:j=ls.length:=aoz;subst hje;have g3:¬(ls.length:Int)<(ls.length:Int):=aoz;have hb':=hb.o;rw[alt]at hb';replace hb':=hid hb';have e1:(m+1)*8<=140737488355328:=aoz;have e2:m+1<=140737488355328:=aoz;rcases b with _|_;refine wk ?_;refine aoE aoz aoC ⟨k+1,m,o,rfl,hlt,aoz,hid ⟨ho.o.1,?_⟩,rfl,rfl⟩;rw[htk.o,am5,<- ho.o.2];simp[<- hb'.o];refine wk ?_;refine aoE aoz aoC ⟨k+1,m+1,o++[id],rfl,hlt,aoz,hid ⟨by simp[ho.o.1],?_⟩,rfl,rfl⟩;rw[htk.o,am5,<- ho.o.2];simp[<- hb'.o]
 have hke:k=r.length:=aoz;subst hke;have g1:¬(r.length:Int)<(r.length:Int):=aoz;have e:=ho.o.2;rw[alt]at e;have h':=h.o;rw[<- e]at h';replace h':=hid h';clear e;refine wk ?_;refine aW (ae (by simp only[AV.frz,dU,AV.refs,dT]) ?_);have:=h'.o;simp only[bO,<- ho.o.1]at this;simp only[AV.frz,dU];exact this
theorem Va{a b:List Int}(ha:a.Pairwise (· < ·))(hb:b.Pairwise (· < ·))(h:∀x,x∈a↔x∈b):a=b:=by
 have na:a.Nodup:=ha.imp λh=>aoz
 have nb:b.Nodup:=hb.imp λh=>aoz
 have hp:a.Perm b:=(List.perm_ext_iff_of_nodup na nb).2 h;exact aog (le:=λx y=>x<y) (λx y _ _ h1 h2=>aoz) ha hb hp
theorem SH(id:Int):∀(l:List Int) (x:Int),x∈qZ id l↔x=id\/x∈l
 |[],x=>by simp[qZ]
 | y::t,x=>by
   simp only[qZ];split
   .simp
   .simp only[alj,SH id t x];constructor
    .rintro(h|h|h)
     .exact .inr (.inl h)
     .exact .inl h
     .exact .inr (.inr h)
    .rintro(h|h|h)
     .exact .inr (.inl h)
     .exact .inl h
     .exact .inr (.inr h)
theorem ZU(id:Int):∀l:List Int,l.Pairwise (· < ·)->id∉l->(qZ id l).Pairwise (· < ·)
 |[],_,_=>by simp[qZ]
 | y::t,h,hn=>by
   rw[al2]at h;simp only[alj,not_or]at hn;simp only[qZ];split
   .rename_i hlt;refine al2.2 ⟨λx hx=>?_,al2.2 h⟩;rcases alj.1 hx with rfl|hx
    .exact hlt
    .have:=h.1 x hx;omega
   .rename_i hlt;refine al2.2 ⟨λx hx=>?_,ZU id t h.2 hn.2⟩;rcases(SH id t x).1 hx with rfl|hx
    .omega
    .exact h.1 x hx
theorem afl(l:List Int)(id x:Int):x∈xK l id↔x=id\/x∈l:=by unfold xK;split;rename_i h;rw[alQ]at h;constructor;exact .inr;rintro(rfl|h');exact h;exact h';exact SH id l x
theorem ahZ(l:List Int)(id:Int)(h:l.Pairwise (· < ·)):(xK l id).Pairwise (· < ·):=by unfold xK;split;exact h;rename_i hc;rw[alQ]at hc;exact ZU id l h hc
theorem Z8(l:List Int):∀r:List Int,r.Pairwise (· < ·)->(l.foldl xK r).Pairwise (· < ·)/\∀x,x∈l.foldl xK r↔x∈r\/x∈l:=by
 induction l with
 |nil=>exact λr h=>⟨h,aoA⟩
 | cons y l ih =>
   intro r h;obtain⟨h1,h2⟩:=ih (xK r y) (ahZ r y h);refine⟨h1,λx=>?_⟩;rw[al7,h2,afl,alj];constructor
   .rintro((h|h)|h)
    .exact .inr (.inl h)
    .exact .inl h
    .exact .inr (.inr h)
   .rintro(h|h|h)
    .exact .inl (.inr h)
    .exact .inl (.inl h)
    .exact .inr h
theorem VF(ls:List (List Int)):(Li ls).Pairwise (· < ·):=(Z8 ls.flatten [] .nil).1
theorem SF(ls:List (List Int))(x:Int):x∈Li ls↔x∈ls.flatten:=by simpa[Li]using(Z8 ls.flatten [] .nil).2 x
theorem abD{l:List Int}(h:l.Pairwise (·<=·)):(lO l).Pairwise (· < ·):=by
 unfold lO Lib.compact Lib.compactUpTo;rw[anQ];have h0:(List.range l.length).Pairwise (· < ·):=List.pairwise_lt_range;refine List.Pairwise.imp_of_mem (R:=λi j=>i<j) (λ{i j} hi hj hij=>?_) (h0.filter _);rw[alO,an4]at hi hj;have hk:=hj.2;simp only[Lib.keeps,decide_eq_true_eq]at hk;rcases hk with hk|hk;omega;have hle:=anR.1 h;have hj1:j-1<l.length:=aoz;have e1:(l.toArray[j]!)=l[j]:=by simp[hj.1]
 have e2:(l.toArray[j-1]!)=l[j-1]:=by simp[hj1]
 have e3:(l.toArray[i]!)=l[i]:=by simp[hi.1]
 rw[e1,e2]at hk;rw[e1,e3];have a1:l[i]<=l[j-1]:=by rcases alA i (j-1)with h1|h1;exact hle i (j-1) hi.1 hj1 h1;have:i=j-1:=aoz;subst this;exact Int.le_refl _
 have a2:l[j-1]<=l[j]:=hle (j-1) j hj1 hj.1 aoz;omega
theorem aaj(l:List Int)(x:Int):x∈lO l↔x∈l:=by
 refine⟨λh=>(Ue l).subset h,λh=>?_⟩;obtain⟨j,hj,rfl⟩:=aml.1 h;have key:∀(n j:Nat) (hj:j<l.length),j<=n->∃(i:Nat) (hi:i<l.length),l[i]=l[j]/\Lib.keeps l.toArray i=true:=by
  intro n;induction n with
  | zero =>
    intro j hj hn;exact⟨j,hj,rfl,by simp[Lib.keeps,show j=0 by omega]⟩
  | succ n ih =>
    intro j hj hn;by_cases h0:j=0
    .exact⟨j,hj,rfl,by simp[Lib.keeps,h0]⟩
    by_cases he:l[j]'hj=l[j-1]
    .obtain⟨i,hi,e1,e2⟩:=ih (j-1) aoz aoz;exact⟨i,hi,by rw[e1,he],e2⟩
    .refine⟨j,hj,rfl,?_⟩;have hj1:j-1<l.length:=aoz;simp only[Lib.keeps,decide_eq_true_eq];refine .inr ?_;simpa[hj,hj1]using he
 obtain⟨i,hi,e1,e2⟩:=key j j hj (ale _);rw[<- e1];unfold lO Lib.compact Lib.compactUpTo;refine alg.2 ⟨i,alO.2 ⟨an4.2 hi,e2⟩,by simp[hi]⟩
theorem SX(xs:List Int):(bS xs).Pairwise (· < ·):=abD (xW xs)
theorem yz(xs:List Int)(x:Int):x∈bS xs↔x∈xs:=(aaj _ x).trans (cX xs).mem_iff
theorem aig(ls:List (List Int)):Li ls=bS ls.flatten:=Va (VF ls) (SX _) λx=>(SF ls x).trans (yz _ x).symm
theorem aeQ(o l:List Int)(x:Int):x∈jC o l↔x∈o/\x∈l:=by simp[jC,alO,yz]
theorem adY(ls:List (List Int)):∀o:List Int,o.Pairwise (· < ·)->(ls.foldl jC o).Pairwise (· < ·)/\∀x,x∈ls.foldl jC o↔x∈o/\∀l∈ls,x∈l:=by
 induction ls with
 |nil=>exact λo h=>⟨h,aoA⟩
 | cons l ls ih =>
   intro o h;obtain⟨h1,h2⟩:=ih (jC o l) (h.filter _);refine⟨h1,λx=>?_⟩;rw[al7,h2,aeQ];constructor
   .rintro⟨⟨a,b⟩,c⟩;refine⟨a,λm hm=>?_⟩;rcases alj.1 hm with rfl|hm
    .exact b
    .exact c m hm
   .rintro⟨a,b⟩;exact⟨⟨a,b l aoA⟩,λm hm=>b m (amp _ hm)⟩
theorem XN(ls:List (List Int))(x:Int):VI ls x=true↔∀l∈ls,x∈l:=by simp[VI,aln]
theorem YA:∀ls:List (List Int),ZF ls=qY ls
 |[]=>rfl
 | l::ls=>by
   obtain⟨h1,h2⟩:=adY ls (bS l) (SX l);refine Va ((VF _).filter _) h1 λx=>?_
   show x∈(Li (l::ls)).filter _↔x∈ls.foldl jC (bS l);rw[alO,SF,XN,h2,yz];constructor
   .rintro⟨_,h⟩;exact⟨h l aoA,λm hm=>h m (amp _ hm)⟩
   .rintro⟨a,b⟩;refine⟨by simp[a],λm hm=>?_⟩;rcases alj.1 hm with rfl|hm
    .exact a
    .exact b m hm
theorem ab6{xs:List Int}{cap cap':Option Nat}(hn:xs.length<=1000000)(h:K (.bool true) L):alb 22 [.sl (bx xs) xs.length cap,.sl (bx xs) xs.length cap'] L K:=aeY hn (by simpa using h)
theorem ae6{ls:List (List Int)}{cap:Option Nat}(hn:ls.length<=1000000)(ht:ls.flatten.length<=1000000)(hl:∀l∈ls,l.length<=1000000)(h:K (bO (qY ls)) L):
 alb 60 [.sl (ls.map bO) ls.length cap] L K:=ahQ hn ht hl (by rw[YA];exact h)
theorem ae8{ls:List (List Int)}{cap:Option Nat}(hn:ls.length<=1000000)(ht:ls.flatten.length<=1000000)(h:K (bO (bS ls.flatten)) L):
 alb 61 [.sl (ls.map bO) ls.length cap] L K:=ab7 hn ht (by rw[aig];exact h)
theorem PQ{b:Nat}:∀ls:List (List Int),(∀l∈ls,l.length<=b)->ls.flatten.length<=ls.length*b
 |[],_=>aoA
 | l::ls,h=>by
   have h1:=PQ ls λm hm=>h m (amp _ hm)
   have h2:=h l aoA;simp only[List.flatten_cons,alw,alp,anp];omega
abbrev GH(ls:List (List Int)):List Int:=bS ls.flatten
theorem aaS:ai9 qY GH:=by
 have hm:∀ls x,x∈qY ls↔x∈ls.flatten/\∀l∈ls,x∈l:=λls x=>by rw[<- YA,ZF,alO,SF,XN]
 refine⟨λls x=>?_,λls x=>?_,λls=>?_,λls=>SX _⟩;rw[hm];constructor;rintro⟨h1,h2⟩;refine⟨λe=>?_,h2⟩;subst e;cases h1;rintro⟨h1,h2⟩;cases ls with
 |nil=>exact absurd rfl h1
 |cons l r=>exact⟨List.mem_flatten.2 ⟨l,aoA,h2 l aoA⟩,h2⟩
 rw[GH,yz,List.mem_flatten];rw[<- YA,ZF];exact List.Pairwise.sublist ane (VF ls)
abbrev tyO(tm:TMp)(f:List UInt8):Option Int:=(bB tm f).map (·.2.1)
abbrev lfO(tm:TMp)(l:List aQ):=ach (ed tm) (tyO tm) l
abbrev l4(tm:TMp)(l:List aQ)(w:Int):Flt->Option (List Int):=aem qY GH (lfO tm l) w
theorem yg{mt jn:List (List Int)->List Int}{leaf:Int->List UInt8->List UInt8->List Pc->Option (List Int)}{w:Int}:∀ks:List Flt,Ya mt jn leaf w ks=ks.map (aem mt jn leaf w)
 |[]=>by rw[Ya];rfl
 |f::r=>by rw[Ya,yg r];rfl
theorem gh:∀a b:List (Option (List Int)),az (a++b)=az a++az b
 |[],b=>rfl
 |none::a,b=>by simp only[alN,az,gh a b]
 |some x::a,b=>by simp only[alN,az,gh a b]
theorem rj:∀{a:List (Option (List Int))}{l:List Int},l∈az a↔some l∈a
 |[],l=>by simp[az]
 |none::a,l=>by simp[az,rj (a:=a)]
 |some x::a,l=>by simp[az,rj (a:=a)]
theorem iC:∀a:List (Option (List Int)),(az a).length<=a.length
 |[]=>by simp[az]
 |none::a=>by simp only[az,alp];have:=iC a;omega
 |some x::a=>by simp only[az,alp];have:=iC a;omega
def InE(l:List aQ)(m:List Int):Prop:=m.Pairwise (· < ·)/\∀x∈m,x∈l.map (·.1)
theorem InE.len{l:List aQ}{m:List Int}(h:InE l m):m.length<=l.length:=by have:=Zr h.1 h.2;simpa using this
theorem ab9{l:List aQ}(hr:eE l)(f:List UInt8):InE l (lG l f):=⟨xL hr,λx hx=>by obtain⟨a,h1,_⟩:=pU.1 hx;exact alg.2 ⟨_,h1,rfl⟩⟩
theorem afQ{tm:TMp}{l:List aQ}(hr:eE l){k:Int}{a v:List UInt8}{ps:List Pc}{m:List Int}(h:lfO tm l k a v ps=some m):InE l m:=by
 unfold lfO ach at h;rcases hq:tyO tm (af a)with _|syn;rw[hq]at h;cases h;rw[hq]at h;simp only at h;split at h;cases h;unfold ad3;split;exact⟨.nil,λx hx=>by cases hx⟩;exact⟨SI hr,λx hx=>by obtain⟨a,h1,_⟩:=ic.1 hx;exact alg.2 ⟨_,h1,rfl⟩⟩
 split at h;cases h;exact ab9 hr _;split at h;cases h;unfold Lf;refine⟨List.Pairwise.sublist ane (xL hr),λx hx=>(ab9 hr _).2 x (alO.1 hx).1⟩;cases h
theorem aar{l:List aQ}{k:Int}{os:List (Option (List Int))}(h:∀m∈az os,InE l m){m:List Int}(e:Ww qY GH k os=some m):InE l m:=by
 refine⟨adD aaS e,λx hx=>?_⟩;unfold Ww at e;split at e;split at e;cases e;rename_i hne;cases e;obtain⟨_,h2⟩:=(aaS.mtM _ _).1 hx;cases hs:az os with
 |nil=>exact absurd hs hne
 |cons y r=>exact(h y (by rw[hs];simp)).2 x (h2 y (by rw[hs];simp))
 split at e;cases e;obtain⟨y,h1,h2⟩:=(aaS.jnM _ _).1 hx;exact(h y h1).2 x h2;cases e
theorem acL{w:Int}{o:Option (List Int)}{m:List Int}(h:fN w o=some m):o=some m/\(m.length:Int)<=w:=by
 cases o with
 |none=>cases h
 | some x =>
   rw[fN]at h;split at h
   .cases h
   .cases h;exact⟨rfl,aoz⟩
theorem UT{tm:TMp}{l:List aQ}(hr:eE l){w:Int}:∀f:Flt,∀m,l4 tm l w f=some m->InE l m:=by
 refine R3 λk a v ps ks ih m h=>?_
 rw[l4,aem]at h;have h1:=(acL h).1;split at h1;refine aar (λy hy=>?_) h1;rw[rj,yg,alg]at hy;obtain⟨x,hx,e⟩:=hy;exact ih x hx y e;exact afQ hr h1
def de:Option (List Int)->AV
 |none=>.tup [.sl [] 0 (some 0),.bool false]
 |some m=>.tup [iq m,.bool true]
theorem adE{L:List Blk}{it:Nat}{tm:TMp}{l:List aQ}{B:Nat->Prop}(ho:IxO L it tm l B){n:List UInt8}(hn:aR n){K:alc}(h:K (.bool ((tyO tm (af n)).elim false λs=>decide (s<=3))) L):alb 109 [.ptr it 0,.str n] L K:=by have kk1:Hid (∀{K:alc},K (.bool (bB tm (af n)).isSome) L->alb 11 [.ptr it 0,.str n] L K):=@hid _ (λ{K} q=>RV ho hn q);obtain⟨im,ie,ip,ii,em,ec,pm,pc,dm,dc,h1,h2,h3,h4⟩:=ho;obtain⟨f,hf⟩:=ak7 (af n);have kk2:Hid (Ctr Tryz.prog 38 [.str n] (.str f)):=@hid _ (by intro L K q;exact fO hn (by rw[hf];exact q));unfold tyO at h;rw[hf]at h kk1;have hst:=h1.st;have hty:=h1.ty;have hks:bD .str (.str f)=true:=rfl;rcases c7 (va:=tyV) rb h1.tok f lI with⟨j,⟨w1,w2,w3,w4⟩,q1,q2,_⟩|⟨q1,q2,_⟩;rw[q1]at h kk1;simp only[amu,alz,Option.elim]at kk1 h;replace h:=hid h;clear h1 h2 h3 h4 q1;refine ala lU ?_;exact aa h.o;rw[q1]at h kk1;simp only[amM,alP,Option.elim]at kk1 h;replace h:=hid h;clear h1 h2 h3 h4 q1;refine ala lU ?_;exact aa h.o
def ak2(o:Option (List Int))(v:AV)(b:Bool):Prop:=match o with
 |some m=>v=iq m/\b=true
 |none=>b=false/\∃m c,v=.sl (bx m) m.length c
theorem ae3(l:List Int):AV.frz (bO l)=bO l:=by simp only[AV.frz,dU]
theorem Sq:∀ls:List (List Int),AV.frzL (ls.map bO)=ls.map bO
 |[]=>rfl
 |l::r=>by simp only[alr,AV.frzL,ae3,Sq r]
theorem iE(p:Nat->Bool):∀l:List Int,AV.refsL p (l.map (AV.int .i64))=true
 |[]=>rfl
 |x::l=>by simp only[alr,AV.refsL,AV.refs,iE p l,alX]
theorem aiN{L:List Blk}{it:Nat}{tm:TMp}{l:List aQ}{w:Int}{f:Flt}{o:Option (List Int)}(hr:∀m,o=some m->m.length<=1000000)(hb:∀{X:List Blk}{K:alc},(∀v b,ak2 o v b->K (.tup [v,.bool b]) (L++X))->alb 59 [.ptr it 0,.agg (fA f),.int .i64 w] (L++X) K){K:alc}(h:K (de (fN w o)) L):alb 27 [.ptr it 0,.agg (fA f),.int .i64 w] L K:=by
 obtain⟨k,a,v,ps,ks⟩:=f;replace hb:=@hid _ @hb;rw[Lp]at hb⊢;obtain⟨PS,hPS⟩:∃P,P=ir ps:=⟨_,rfl⟩;obtain⟨KS,hKS⟩:∃P,P=fsA ks:=⟨_,rfl⟩;rw[<- hPS,<- hKS]at hb⊢;clear hPS hKS;cases o with
 | none =>
   simp only[fN,de]at h;replace h:=hid h;refine ala qh ?_;refine hb.o λv b hv=>?_
   obtain⟨rfl,m,c,rfl⟩:=hv;refine aoH ?_;exact ae rfl h.o
 | some m =>
   by_cases hw:w<(m.length:Int)
   .rw[fN,if_pos hw]at h;simp only[de]at h;replace h:=hid h;replace hr:=hid hr;refine ala qh ?_;refine hb.o λv b hv=>?_
    obtain⟨rfl,rfl⟩:=hv;refine aoH ?_;exact ae rfl h.o
   .rw[fN,if_neg hw]at h;simp only[de]at h;replace h:=hid h;replace hr:=hid hr;refine ala qh ?_;refine hb.o λv b hv=>?_
    obtain⟨rfl,rfl⟩:=hv;refine aoH ?_;exact ae (by simp only[AV.refs,AV.refsL,iE,alX]) h.o
theorem Yb{L:List Blk}{it:Nat}{tm:TMp}{l:List aQ}{B:Nat->Prop}{w:Int}(ho:IxO L it tm l B)(hi:Sj l):∀(f:Flt),WF f->∀{X:List Blk}{K:alc},K (de (l4 tm l w f)) (L++X) ->
  alb 27 [.ptr it 0,.agg (fA f),.int .i64 w] (L++X) K:=by
 have hrs:=ho.rise;have hlen:∀{m:List Int},InE l m->m.length<=1000:=λh=>alF h.len hi.len
 refine R3 λk a v ps ks ih hrd X K h=>?_
 have hin:=UT (tm:=tm) (w:=w) hrs;simp only[FlB]at hrd;obtain⟨r1,r2,r3,r4,r5,r6⟩:=hrd;have hn:aR a:=by unfold aR;omega
 have ih2:∀x∈ks,∀{X:List Blk}{K:alc},K (de (l4 tm l w x)) (L++X)->alb 27 [.ptr it 0,.agg (fA x),.int .i64 w] (L++X) K:=λx hx {X K} q=>ih x hx (Sk r6 x hx) q
 replace ih2:=@hid _ @ih2;clear ih r6;obtain⟨o,ho'⟩:=ak7 ((if k=0\/k=1 then Ww qY GH k (Ya qY GH (lfO tm l) w ks)else lfO tm l k a v ps));rw[l4,aem,ho']at h;refine aiN (l:=l) (tm:=tm) (o:=o) (λm e=>?_) (λ{Y K} h=>?_) h;subst e;split at ho';refine alF (hlen (aar (λy hy=>?_) ho')) aoz;rw[rj,yg,alg]at hy;obtain⟨x,hx,e⟩:=hy;exact hin x y e;exact alF (hlen (afQ hrs ho')) aoz;clear hin;obtain⟨M,hM⟩:=ak7 (L++X++Y);rw[hM]at h⊢;have hMW:∀W,M++W=L++(X++Y++W):=λW=>by rw[<- hM];simp
 have hoW:Hid (∀W,IxO (M++W) it tm l B):=hid λW=>by rw[hMW];exact ho.app _
 have ih3:∀x∈ks,∀{W:List Blk}{K:alc},K (de (l4 tm l w x)) (M++W)->alb 27 [.ptr it 0,.agg (fA x),.int .i64 w] (M++W) K:=λx hx {W K} q=>by rw[hMW]at q⊢;exact ih2.o x hx q
 replace ih3:=@hid _ @ih3;clear ih2 hMW hM;rw[Lp];obtain⟨PS,hPS⟩:∃P,P=ir ps:=⟨_,rfl⟩;obtain⟨KS,hKS⟩:∃P,P=fsA ks:=⟨_,rfl⟩;rw[<- hPS,<- hKS];replace hPS:=hid hPS;replace hKS:=hid hKS;by_cases hk:k=0\/k=1;rw[if_pos hk,yg]at ho';obtain⟨V,hV⟩:=ak7 (ks.map (l4 tm l w));rw[hV]at ho';replace hV:=hid hV;have hnl:V.length=ks.length:=by rw[<- hV.o];simp
 have hVin:∀m∈az V,m.length<=1000:=λm hm=>by rw[rj,<- hV.o,alg]at hm;obtain⟨x,_,e⟩:=hm;exact hlen (UT hrs x m e)
 have hSl:(az V).length<=60:=by have:=iC V;omega
 have hFl:(az V).flatten.length<=1000000:=by have:=PQ (b:=1000) (az V) hVin;have:(az V).length*1000<=60*1000:=amj _ hSl;omega
 have stp:∀i:Nat,i<ks.length->∃q:Flt,Hid ((KS.drop (i*5)).take 5=fA q/\i*5+5<=KS.length/\(∀{W:List Blk}{K:alc},K (de (l4 tm l w q)) (M++W)->alb 27 [.ptr it 0,.agg (fA q),.int .i64 w] (M++W) K)/\(i:Int)<(ks.length:Int)/\IntKind.i64.wrap ((i:Int)+1)=(i:Int)+1/\V.take (i+1)=V.take i++[l4 tm l w q]):=λi hlt=>by
  refine⟨ks.getD i ZC,hid ⟨?_,?_,?_,aoz,ab aoz aoz,?_⟩⟩;rw[hKS.o];exact YN hlt;rw[hKS.o,UP];omega;exact λq=>ih3.o _ (by simp[hlt]) q
  rw[aly aoz];congr 1;simp[<- hV.o,hlt]
 have e1:∀A:Blk,(M++[A]).length=M.length+1:=λA=>aoA
 clear hrs hlen ih3;replace h:=hid h;replace ho':=hid ho';refine ac cY (by simp[bw]) ?_;simp only[bw,am];rcases hk with rfl|rfl;refine wk ?_;refine bt (l:=[]) (n:=0) 8 1 rfl (alG 1).symm ?_;rw[e1];refine ah (λm T' L'=>∃(i n:Nat) (C:List AV) (Y:List Blk),m=ks.length-i/\i<=ks.length/\Hid (C=(az (V.take i)).map bO/\n=(az (V.take i)).length)/\T'=[(21,.int .i64 (i:Int)),(20,.int .i64 ks.length),(19,.sl KS ks.length none),(8,.gsl C n (M.length+1) 1),(4,.ptr M.length 0),(0,.ptr it 0),(2,.int .i64 w)]/\L'=M++(.cells [.int .i64 0,.str a,.str v,.sl PS ps.length none,.sl KS ks.length none] :: .spare n 1::Y)) aoD ⟨0,0,[],[],rfl,ali _,hid ⟨rfl,rfl⟩,rfl,aoA⟩ ?_;rintro _ _ _ ⟨i,n,C,Y,rfl,hi,hC,rfl,rfl⟩;by_cases hlt:i<ks.length;obtain⟨q,hq⟩:=stp i hlt;obtain⟨e3,e4,e5,g1,g2,e6⟩:=hq.o;cases ha:l4 tm l w q with
 | none =>
   rw[ha]at e5 e6;simp only[de]at e5;have kk1:=@hid _ @e5;have hC2:=hid (show C=(az (V.take (i+1))).map bO/\n=(az (V.take (i+1))).length by rw[e6,gh];simpa[az]using hC.o)
   clear e5 hq e6 ha;simp only[Lq]at e3 kk1;refine wk ?_;exact aoE aoz aoD ⟨i+1,n,C,_,rfl,hlt,hC2,rfl,rfl⟩
 | some m =>
   have hn60:n<=60:=by have h1:=hC.o.2;have h2:=iC (V.take i);rw[amJ]at h2;omega
   rw[ha]at e5 e6;simp only[de]at e5;have kk1:=@hid _ @e5;have hC2:=hid (show C++[bO m]=(az (V.take (i+1))).map bO/\n+1=(az (V.take (i+1))).length by
    rw[e6,gh];refine⟨?_,?_⟩
    .rw[hC.o.1];simp[az]
    .rw[hC.o.2];simp[az])
   clear e5 hq e6 ha;simp only[Lq]at e3 kk1;refine wk ?_;exact aoE aoz aoD ⟨i+1,n+1,_,_,rfl,hlt,hC2,rfl,rfl⟩
 have hke:i=ks.length:=aoz;subst hke;have g1:¬(ks.length:Int)<(ks.length:Int):=aoz;have hE:C=(az (V.take ks.length)).map bO/\n=(az (V.take ks.length)).length:=⟨hC.o.1,hC.o.2⟩;clear stp;rw[<- hnl,alt]at hE;obtain⟨rfl,rfl⟩:=hE;have hnl':=hnl;replace hnl:=hid hnl;replace hSl:=hid hSl;replace hFl:=hid hFl;have kk1:Hid (∀{i:Nat}{W:List Blk}{K:alc},K (bO (qY (az V))) W->alb 29 [.gsl ((az V).map bO) (az V).length i 1] W K):=@hid _ (λ{i W K} q=>fI (by simpa only[AV.frzL,AV.frz,Sq]using ah8 (cap:=none) (by have:=hSl.o;omega) (λm hm=>by have:=hVin m hm;omega) q));obtain⟨b,hb⟩:=ak7 (decide (0<((az V).length:Int)));have h':=hid (h.o (bO (qY (az V))) b (by
  rw[<- ho'.o,Ww,if_pos rfl,<- hb];cases hs:az V with
  |nil=>rw[if_pos rfl];exact⟨rfl,_,none,rfl⟩
  |cons x r=>rw[if_neg aoA];exact⟨rfl,aoA⟩))
 obtain⟨ls,hls⟩:=ak7 (az V);obtain⟨R,hR⟩:=ak7 (qY ls);rw[hls]at kk1 h' hb⊢;rw[hR]at kk1 h';clear ho' hVin hls hR;cases b with
 | true =>
   have g3:(0:Int)<(ls.length:Int):=of_decide_eq_true hb;have g4:(ls.length:Int)>0:=g3;replace hb:=hid hb;refine wk ?_;exact ae (by simp only[AV.refs,AV.refsL,iE,alX]) h'.o
 | false =>
   have g3:¬(0:Int)<(ls.length:Int):=of_decide_eq_false hb;have g4:¬(ls.length:Int)>0:=g3;replace hb:=hid hb;refine wk ?_;exact ae (by simp only[AV.refs,AV.refsL,iE,alX]) h'.o
 refine wk ?_;refine bt (l:=[]) (n:=0) 8 1 rfl (alG 1).symm ?_;rw[e1];refine ah (λm T' L'=>∃(i n:Nat) (C:List AV) (Y:List Blk),m=ks.length-i/\i<=ks.length/\Hid (C=(az (V.take i)).map bO/\n=(az (V.take i)).length/\(V.take i).all Option.isSome=true)/\T'=[(21,.int .i64 (i:Int)),(20,.int .i64 ks.length),(19,.sl KS ks.length none),(8,.gsl C n (M.length+1) 1),(4,.ptr M.length 0),(0,.ptr it 0),(2,.int .i64 w)]/\L'=M++(.cells [.int .i64 1,.str a,.str v,.sl PS ps.length none,.sl KS ks.length none] :: .spare n 1::Y)) aoD ⟨0,0,[],[],rfl,ali _,hid ⟨rfl,rfl,rfl⟩,rfl,aoA⟩ ?_;rintro _ _ _ ⟨i,n,C,Y,rfl,hi,hC,rfl,rfl⟩;by_cases hlt:i<ks.length;obtain⟨q,hq⟩:=stp i hlt;obtain⟨e3,e4,e5,g1,g2,e6⟩:=hq.o;cases ha:l4 tm l w q with
 | none =>
   rw[ha]at e5 e6;simp only[de]at e5;have kk1:=@hid _ @e5;have hV':none∈V:=aoi (i:=i+1) (by rw[e6];simp);have h':=hid (h.o (.sl [] 0 (some 0)) false (by
    rw[<- ho'.o,Ww,if_neg aoz,if_neg (λe=>by have:=aln.1 e _ hV';cases this)]
    exact⟨rfl,[],_,rfl⟩))
   clear e5 hq e6 ha hV';simp only[Lq]at e3 kk1;refine wk ?_;exact ae rfl h'.o
 | some m =>
   have hn60:n<=60:=by have h1:=hC.o.2.1;have h2:=iC (V.take i);rw[amJ]at h2;omega
   rw[ha]at e5 e6;simp only[de]at e5;have kk1:=@hid _ @e5;have hC2:=hid (show C++[bO m]=(az (V.take (i+1))).map bO/\n+1=(az (V.take (i+1))).length/\(V.take (i+1)).all Option.isSome=true by
    rw[e6,gh];refine⟨?_,?_,?_⟩
    .rw[hC.o.1];simp[az]
    .rw[hC.o.2.1];simp[az]
    .rw[amB,hC.o.2.2];rfl)
   clear e5 hq e6 ha;simp only[Lq]at e3 kk1;refine wk ?_;exact aoE aoz aoD ⟨i+1,n+1,_,_,rfl,hlt,hC2,rfl,rfl⟩
 have hke:i=ks.length:=aoz;subst hke;have g1:¬(ks.length:Int)<(ks.length:Int):=aoz;have hE:C=(az (V.take ks.length)).map bO/\n=(az (V.take ks.length)).length:=⟨hC.o.1,hC.o.2.1⟩;clear stp;rw[<- hnl,alt]at hE;obtain⟨rfl,rfl⟩:=hE;have hall:=hC.o.2.2;rw[<- hnl,alt]at hall;replace hnl:=hid hnl;replace hSl:=hid hSl;replace hFl:=hid hFl;have kk1:Hid (∀{i:Nat}{W:List Blk}{K:alc},K (bO (GH (az V))) W->alb 108 [.gsl ((az V).map bO) (az V).length i 1] W K):=@hid _ (λ{i W K} q=>fI (by simpa only[AV.frzL,AV.frz,Sq]using aii (cap:=none) (by have:=hSl.o;omega) hFl.o q));have h':=hid (h.o (bO (GH (az V))) true (by rw[<- ho'.o,Ww,if_neg aoz,if_pos hall];exact⟨rfl,rfl⟩))
 obtain⟨R,hR⟩:=ak7 (GH (az V));obtain⟨ls,hls⟩:=ak7 (az V);rw[hR]at kk1 h';rw[hls]at kk1⊢;clear ho' hVin hls hR hall hC;refine wk ?_;exact ae (by simp only[AV.refs,AV.refsL,iE,alX]) h'.o;rw[if_neg hk]at ho';have k0:¬k=0:=λe=>hk (.inl e)
 have k1:¬k=1:=λe=>hk (.inr e)
 clear hk ih3 hKS;have kkH:Hid (∀{W:List Blk}{K:alc},K (.bool (bB tm (af a)).isSome) (M++W)->alb 11 [.ptr it 0,.str a] (M++W) K):=@hid _ (λ{W K} q=>RV (hoW.o W) hn q);unfold lfO ach at ho';by_cases k38:k=3\/k=8
 .have kkE:Hid (∀{W:List Blk}{K:alc},K (iq (WR tm l a v)) (M++W)->alb 18 [.ptr it 0,.str a,.str v] (M++W) K):=@hid _ (λ{W K} q=>aij (hoW.o W) hi hn q);obtain⟨b,hb⟩:=ak7 ((bB tm (af a)).isSome);obtain⟨R,hR⟩:=ak7 (WR tm l a v);have h':=h (iq R) b (by
   rw[<- ho',<- hb,<- hR];unfold WR tyO;cases hg:bB tm (af a)with
   |none=>exact⟨rfl,[],none,rfl⟩
   |some ty=>simp only[alz,if_pos k38];exact⟨rfl,rfl⟩)
  rw[hb]at kkH;rw[hR]at kkE;have kk1:=@kkE;have kk2:=@kkH;replace h':=hid h';clear h ho' hR hb kkE kkH hoW;refine ac cY (by simp[bw]) ?_;simp only[bw,am];rcases k38 with rfl|rfl
  all_goals
   refine wk ?_;exact ae (by simp only[AV.refs,AV.refsL,iE,alX]) h'.o
 by_cases k7:k=7;have kkE:Hid (∀{W:List Blk}{K:alc},K (iq (Pt tm l a)) (M++W)->alb 14 [.ptr it 0,.str a] (M++W) K):=@hid _ (λ{W K} q=>afU (hoW.o W) hi hn q);obtain⟨b,hb⟩:=ak7 ((bB tm (af a)).isSome);obtain⟨R,hR⟩:=ak7 (Pt tm l a);have h':=h (iq R) b (by
  rw[<- ho',<- hb,<- hR];unfold Pt tyO;cases hg:bB tm (af a)with
  |none=>exact⟨rfl,[],none,rfl⟩
  |some ty=>simp only[alz,if_neg k38,if_pos k7];exact⟨rfl,rfl⟩)
 rw[hb]at kkH;rw[hR]at kkE;have kk1:=@kkE;have kk2:=@kkH;replace h':=hid h';clear h ho' hR hb kkE kkH hoW;subst k7;refine ala cY ?_;exact ae (by simp only[AV.refs,AV.refsL,iE,alX]) h'.o;have k3:¬k=3:=λe=>k38 (.inl e)
 have k8:¬k=8:=λe=>k38 (.inr e)
 by_cases k4:k=4;rotate_left;have h':=h (.sl [] 0 (some 0)) false (by
  rw[<- ho'];unfold tyO;cases hg:bB tm (af a)with
  |none=>exact⟨rfl,[],_,rfl⟩
  |some ty=>simp only[alz,if_neg k38,if_neg k7,if_neg (λe:k=4/\_=>k4 e.1)];exact⟨rfl,[],_,rfl⟩)
 replace h':=hid h';clear h ho' kkH hoW k38;refine ala cY ?_;exact ae rfl h'.o;subst k4;have kkT:Hid (∀{W:List Blk}{K:alc},K (.bool ((tyO tm (af a)).elim false λs=>decide (s<=3))) (M++W)->alb 109 [.ptr it 0,.str a] (M++W) K):=@hid _ (λ{W K} q=>adE (hoW.o W) hn q);have kkC:Hid (∀{W:List Blk}{K:alc},K (.int .i64 (if qX ps=true then 0 else 4)) W->alb 76 [.agg [.int .i64 4,.str [97],.str [],.sl PS ps.length none,.sl [] 0 (some 0)]] W K):=@hid _ (λ{W K} q=>by rw[hPS.o];exact ahb aoz q)
 have kkL:Hid (∀{W:List Blk}{K:alc},K (iq (aid tm l a ps)) (M++W)->alb 13 [.ptr it 0,.str a,.sl PS ps.length none] (M++W) K):=@hid _ (λ{W K} q=>by rw[hPS.o];exact afV (hoW.o W) hi hn ⟨aoz,λp hp=>by have:=r4 p hp;omega⟩ q)
 unfold tyO at ho' kkT;unfold aid at kkL;cases hg:bB tm (af a)with
 | none =>
   rw[hg]at ho' kkH kkT;simp only[alP,amM]at ho' kkH;have h':=h (.sl [] 0 (some 0)) false (by rw[<- ho'];exact⟨rfl,[],_,rfl⟩);have kk1:=@kkH;replace h':=hid h';clear h ho' kkH kkT kkC kkL hoW hPS hg k38;refine ala cY ?_;exact ae rfl h'.o
 | some ty =>
   rw[hg]at ho' kkH kkT kkL;simp only[alz,amu,Option.elim]at ho' kkH kkT kkL;rw[if_neg k38,if_neg k7]at ho';by_cases hs:ty.2.1<=3;rotate_left
   .rw[if_neg (by simp[hs])]at ho';simp only[hs,decide_false]at kkT;have h':=h (.sl [] 0 (some 0)) false (by rw[<- ho'];exact⟨rfl,[],_,rfl⟩);have kk1:=@kkH;have kk2:=@kkT;replace h':=hid h';clear h ho' kkH kkT kkC kkL hoW hPS hg k38 hs;refine ala cY ?_;exact ae rfl h'.o
   .simp only[hs,decide_true]at kkT;cases hp:qX ps with
    | false =>
      rw[hp]at ho' kkC;rw[if_neg aoA]at ho';simp only[alx,if_false]at kkC;have h':=h (.sl [] 0 (some 0)) false (by rw[<- ho'];exact⟨rfl,[],_,rfl⟩);have kk1:=@kkH;have kk2:=@kkT;have kk3:=@kkC;replace h':=hid h';clear h ho' kkH kkT kkC kkL hoW hPS hg k38 hs hp;refine ala cY ?_;exact ae rfl h'.o
    | true =>
      rw[hp]at ho' kkC;rw[if_pos (by simp[hs])]at ho';simp only[if_true]at kkC;obtain⟨R,hR⟩:=ak7 (Lf (ed tm) l (af a) ty.2.1 ps);rw[hR]at kkL ho';have h':=h (iq R) true (by rw[<- ho'];exact⟨rfl,rfl⟩);have kk1:=@kkH;have kk2:=@kkT;have kk3:=@kkC;have kk4:=@kkL;replace h':=hid h';clear h ho' kkH kkT kkC kkL hoW hPS hg k38 hs hp hR;refine ala cY ?_;exact ae (by simp only[AV.refs,AV.refsL,iE,alX]) h'.o
end Go.Proofs.YtcmfcpjnhephaaaGreatDoor.Av
set_option maxRecDepth 100000
namespace Go.Proofs.YtcmfcpjnhephaaaGreatDoor.Av
open Go
def KB:LSO:=[AP 4,AP 5]
def KA:LSO:=[o1 15 (.call 20 []),Cr 6,Ai 2 6 15]
def Kz:LSO:=[Ap 17 2 6,Aa 18 0,Aq 19 19 17 18,Aa 16 19,As 20 16,Aw 21 16,Aa 7 20,Aa 8 21]
def Ky:LSO:=[Ap 23 2 6,Aa 24 0,Aq 25 32 23 24,Aa 22 25,As 26 22,Aw 27 22,Aa 9 26,Aa 10 27]
def Kx:LSO:=[Aa 28 8,AE 29 28 0,Aa 30 29,.grp none 30 false
 [Aj 31 30 7,Cs 32 30 31]
 33 (tm 32),Aa 34 33,.grp none 34 false
 [Aj 35 34 9,Cs 36 34 35]
 37 (tm 36),Aa 38 37,.grp none 38 false
 [Aj 39 38 1,Bc 40 38 39,A9 41 38 40 30]
 42 (tm 41)]
def Kw:LSO:=[AP 4,AP 5]
def Kv:LSO:=[Aa 43 1,Ak 44 43,Ad 45 0]
def Ku:LSO:=[Al 46 45 44]
def Kt:LSO:=[An 47 2 43 45,Ap 48 2 47,B5 12,Ai 2 12 48]
def Ks:LSO:=[Ac 49 1 12,Ab 50 1 49,Am 51 33 50,Ay 52 51]
def Gf:LSO:=[AP 4,AP 5]
def Ge:LSO:=[Ap 54 2 6,Ac 55 1 12,Ab 56 1 55,Aq 57 34 54 56,Aa 53 57,As 58 53,Aw 59 53,Aa 13 58,Aa 14 59]
def Gd:LSO:=[Aa 60 14,Ao 61 60 0,Aa 62 61,.grp none 62 true
 [A6 63 62 1 12,A5 64 62 1 63,AU 65 62 64,BR 66 62 65 0]
 67 (tm 66)]
def Gc:LSO:=[Aa 68 7,Ac 69 0 12,Ab 70 1 69,Aa 71 13,AA 72 21 68 70 71]
def Gb:LSO:=[Aa 73 9,Ac 74 0 12,Ab 75 1 74,Aa 76 13,AA 77 37 73 75 76]
def Ga:LSO:=[Af 78 45 1,Aa 45 78]
def F9:LSO:=[Aa 79 7,Aa 80 9,Aa 4 79,Aa 5 80]
def lT:aG:=⟨81,(aos KB [] (aos KA Cu (aos Kz CE (aos Ky CV (.seq (aos Kx C2 (aou 42 (.sreg Kw []))) (.seq (aos Kv [] (aov 0 (aos Ku [] (.seq (aow 46 0) (.seq (.block 1 (aos Kt Cv (.seq (aos Ks Cw (aou 52 (.sreg Gf []))) (aos Ge CK (aos Gd Cw (aot 67 (aos Gc C6 (.sreg Gb C6)) .skip)))))) (.sreg Ga Cu)))))) (aos F9 CB .ret))))))),[(.tmp 4),(.tmp 5)]⟩
attribute [push_cast] KB KA Kz Ky Kx Kw Kv Ku Kt Ks Gf Ge Gd Gc Gb Ga F9
theorem GK:aox 24=aoy lT:=aoB
def F5:LSO:=[Ag 0]
def F4:LSO:=[o1 16 (.call 20 []),o1 17 (.bslice false 1 1 [(.str [])] [(0,(1,(.av (.str [99,110]))))]),Aq 18 19 16 17,Aa 15 18,As 19 15,Aw 20 15,Aa 1 19,Aa 2 20]
def F3:LSO:=[Aa 21 2,AE 22 21 0,Aa 23 22,.grp none 23 false
 [Aj 24 23 1,Cs 25 23 24]
 26 (tm 25)]
def F2:LSO:=[Ag 0]
def F1:LSO:=[Aa 27 1,o1 28 (.bslice false 1 1 [(.str [])] [(0,(1,(.av (.str [97]))))]),
 o1 29 (.build [(.str []),(.sl [] 0 (some 0))] [(0,(1,(.av (.str [99,110])))),(1,(1,(tm 28)))]),BU 30 29,Bp 31 21 27 4 30]
def F0:LSO:=[o1 33 (.call 58 [(.av (.str [40,38,40,99,110,61,97,41,40,115,110,62,61,98,41,41]))]),Aa 32 33,As 34 32,Aw 35 32,AX 3,Ai 5 3 34,Aa 4 35]
def FZ:LSO:=[o1 37 (.call 58 [(.av (.str [40,124,40,99,110,61,97,41,40,115,110,61,98,41,41]))]),Aa 36 37,As 38 36,Aw 39 36,AX 5,Ai 5 5 38,Aa 6 39]
def FY:LSO:=[o1 41 (.call 58 [(.av (.str [40,124,41]))]),Aa 40 41,As 42 40,Aw 43 40,AX 7,Ai 5 7 42,Aa 8 43]
def FX:LSO:=[Aa 45 1,Ap 46 5 3,BG 47 27 45 46 9,Aa 44 47,As 48 44,Aw 49 44,Aa 9 48,Aa 10 49]
def FW:LSO:=[Aa 51 1,Ap 52 5 5,BG 53 27 51 52 9,Aa 50 53,As 54 50,Aw 55 50,Aa 11 54,Aa 12 55]
def xJ:LSO:=[Aa 57 1,Ap 58 5 7,BG 59 27 57 58 9,Aa 56 59,As 60 56,Aw 61 56,Aa 13 60,Aa 14 61]
def xI:LSO:=[Aa 62 10,Aa 63 62,.grp none 63 true
 [Ae 64 63 9,AU 65 63 64,AZ 66 63 65 1]
 67 (tm 66),Aa 68 67,.grp none 68 true
 [Ae 69 68 9,og 70 68 true (.iaddr 1 (tm 69) (iv 0)),A5 71 68 1 70,AZ 72 68 71 4]
 73 (tm 72),Aa 74 73,.grp none 74 true
 [Ae 75 74 12,BF 76 74 75]
 77 (tm 76),Aa 78 77,.grp none 78 true
 [Ae 79 78 14]
 80 (tm 79),Aa 81 80,.grp none 81 true
 [Ae 82 81 13,AU 83 81 82,AZ 84 81 83 0]
 85 (tm 84),Aa 0 85]
def tK:aG:=⟨86,(aos F5 [] (aos F4 CE (.seq (aos F3 Cw (aou 26 (.sreg F2 []))) (aos F1 C6 (aos F0 CW (aos FZ CW (aos FY CW (aos FX CE (aos FW C2 (aos xJ CE (aos xI CF .ret))))))))))),[(.tmp 0)]⟩
attribute [push_cast] F5 F4 F3 F2 F1 F0 FZ FY FX FW xJ xI
theorem Tj:aox 26=aoy tK:=aoB
def o3:LSO:=[A4 1 0,Ag 2]
def oZ:LSO:=[Ac 10 0 1,Ab 11 1 10,Ac 12 1 1,Ab 13 1 12,Aq 14 24 11 13,Aa 9 14,As 15 9,Aw 16 9,Aa 3 15,Aa 4 16]
def oY:LSO:=[Aa 17 3,BS 18 17,Aa 19 18,AK 20 19 2 1,og 21 19 false (.load true 5 (tm 20)),Ba 22 19 25 21,Bl 23 19 22,
 o1 24 (.pick (tm 19) (.av (.bool true)) (tm 23))]
def oX:LSO:=[o1 25 (.call 26 []),Aa 2 25]
def oW:LSO:=[Aa 27 3,Ac 28 2 1,Ap 29 5 28,Ac 30 7 1,Ab 31 1 30,AA 32 27 27 29 31,Aa 26 32,As 33 26,Aw 34 26,Aa 5 33,Aa 6 34]
def oV:LSO:=[Aa 36 4,Ac 37 2 1,Ap 38 5 37,Ac 39 7 1,Ab 40 1 39,AA 41 28 36 38 40,Aa 35 41,As 42 35,Aw 43 35,Aa 7 42,Aa 8 43]
def oU:LSO:=[o1 44 (.call 26 []),Aa 45 44,.grp none 45 true
 [Ae 46 45 5,Ae 47 45 7,B4 48 45 22 46 47]
 49 (tm 48),Aa 50 49,.grp none 50 true
 [Ae 51 50 6,Ae 52 50 8,og 53 50 true (.eqk false .bool (tm 51) (tm 52))]
 54 (tm 53),Aa 2 54]
def iz:aG:=⟨55,(aos o3 [] (aos oZ CU (.seq (aos oY C2 (aou 24 (.sreg oX Cu))) (aos oW CR (aos oV CR (aos oU Cy .ret)))))),[(.tmp 2)]⟩
attribute [push_cast] o3 oZ oY oX oW oV oU
theorem GZ:aox 5=aoy iz:=aoB
attribute [push_cast] lT tK iz
set_option maxHeartbeats 8000000
set_option maxRecDepth 100000
structure akO(L0:List Blk)(it im ie ip ii:Nat)(tm:TMp)(pm:List (bc (List UInt8) Nat))(pc:Nat)(L:List Blk):Prop where
 ix:IxH L it im ie ip ii tm tm.length [] 0 pm pc [] 0 (λ_ _=>False) (λ_ _=>False)
 bes:bP (λ_=>False) L0 L
 own:∀i,i∈it::im::ie::ip::ii::(pm.map (·.2.1)++([]:List (bc aU Nat)).map (·.2.1))->L0.length<=i
theorem ack{ts:List Typ}{capT:Option Nat}{c2:List AV}{n2:Nat}{cap2:Option Nat}{ns:List (List UInt8)}{cap:Option Nat}(hl:ts.length<=1100000)(hts:∀t∈ts,aR t.1)(hnl:(ns.length:Int)<=9223372036854775807)(hn:∀n∈ns,aR n){R:Int×TMp}(hR:Mu ts [] ns=R){L:List Blk}{K:alc}(h0:∀L',R.1≠0->bP (λ_=>False) L L'->K (.tup [.nilptr,.int .i64 R.1]) L')(h1:∀L' it B,R.1=0->IxO L' it R.2 [] B->bP (λ_=>False) L L'->(∀i,B i->L.length<=i)->K (.tup [.ptr it 0,.int .i64 0]) L'):
  alb 19 [.agg [.sl (bU ts) ts.length capT,.sl c2 n2 cap2],.sl (ns.map AV.str) ns.length cap] L K:=by
 have kF:Hid (∀{n:List UInt8},aR n->∀{L:List Blk}{K:alc},K (Ub (eF ts n)) L->alb 49 [.agg [.sl (bU ts) ts.length capT,.sl c2 n2 cap2],.str n] L K):=@hid _ (λ{n} h {L K} q=>ajX hl hts h q);replace hR:=hid hR;replace hn:=hid hn;replace h0:=hid h0;replace h1:=hid h1;clear hts hl;obtain⟨TS,hTS⟩:=ak7 (bU ts);obtain⟨tl,htl⟩:=ak7 (ts.length);rw[hTS,htl]at kF⊢;refine ala Wm ?_;refine ah (λm T' L'=>∃(i:Nat) (tm:TMp) (pm:List (bc (List UInt8) Nat)) (pc:Nat),m=ns.length-i/\i<=ns.length/\Hid (Mu ts tm (ns.drop i)=R)/\Hid (akO L (L.length+5) (L.length+1) (L.length+2) (L.length+3) (L.length+4) tm pm pc L')/\Hid (L'[L.length]?=some (.cells [.sl TS tl capT,.sl c2 n2 cap2]))/\T'=[(21,.int .i64 (i:Int)),(20,.int .i64 ns.length),(19,.sl (ns.map AV.str) ns.length cap),(6,.ptr (L.length+5) 0),(2,.ptr L.length 0)]) aoD ⟨0,[],[],0,rfl,ali _,hid (by simpa using hR.o),hid ⟨IxH.start (by rw[alH aoz];simp) (by rw[alH aoz];simp[a7]) (by rw[alH aoz];simp[a7]) (by rw[alH aoz];simp[a7]) (by rw[alH aoz];simp[a7]) aoA (λ_ _ e=>e),bP.app _ _,aoA⟩,hid aoA,rfl⟩ ?_;rintro _ _ L' ⟨i,tm,pm,pc,rfl,hi,hr,hN,hb,rfl⟩;have hst:=hN.o.ix.st;have hl1:L.length+6<=L'.length:=(ald.1 hst).1;by_cases hlt:i<ns.length;have j1:(i:Int)<(ns.length:Int):=aoz;have j2:=ak9 i aoz;have j3:(ns.map AV.str).getD i .undef=.str (ns.getD i []):=by simp[hlt]
 have j4:i<(ns.map AV.str).length:=by simpa using hlt
 obtain⟨n,hn1⟩:=ak7 (ns.getD i []);have hrn:aR n:=hn.o n (by rw[<- hn1];simp[hlt]);have hdr:ns.drop i=n::ns.drop (i+1):=by rw[al1 hlt,<- hn1];simp[hlt]
 rw[hn1]at j3;have hr2:=hr.o;rw[hdr,Mu]at hr2;clear hr hn1 hdr;obtain⟨NS,hNS⟩:=ak7 (ns.map AV.str);rw[hNS]at j3 j4⊢;replace hNS:=hid hNS;obtain⟨f,hf⟩:=ak7 (af n);rw[hf]at hr2;have kk2:Hid (Ctr Tryz.prog 38 [.str n] (.str f)):=@hid _ (by intro L K q;exact fO hrn (by rw[hf];exact q));have hks:bD .str (.str f)=true:=rfl;have aX:∀(X:List Blk){i:Nat}{b:Blk},L'[i]?=some b->(L'++X)[i]?=some b:=λX {i b} e=>ak8 e
 have a0:L'[L.length]?=some (.cells [.sl TS tl capT,.sl c2 n2 cap2]):=hb.o;have a1:∀X,(L'++X)[L.length+5]?=some (.cells [.lmap (L.length+1),.lmap (L.length+2),.lmap (L.length+3),.lmap (L.length+4)]):=λX=>aX X hst
 have a2:∀X,(L'++X)[L.length+1]?=some (.map (a7 AV.str tyV tm) tm.length):=λX=>aX X hN.o.ix.ty
 clear hb;have kT:∀(t:Option Typ),eF ts n=t->∃t1 t2 t3 t4,t.getD lI=(t1,t2,t3,t4)/\Hid (Ctr Tryz.prog 49 [.agg [.sl TS tl capT,.sl c2 n2 cap2],.str n] (.tup [.agg [.str t1,.int .i64 t2,.bool t3,.bool t4],.bool t.isSome])):=λt ht=>by obtain⟨⟨t1,t2,t3,t4⟩,h⟩:∃x,t.getD lI=x:=⟨_,rfl⟩;refine⟨t1,t2,t3,t4,h,@hid _ (λ{L K} q=>kF.o hrn ?_)⟩;rw[ht,Ub,h];exact q
 obtain⟨t1,t2,t3,t4,ht,kk1⟩:=kT _ rfl;clear kT hst;rcases c7 (va:=tyV) rb hN.o.ix.tok f (t1,t2,t3,t4)with⟨j,⟨w1,w2,w3,w4⟩,q1,q2,q3,q4⟩|⟨q1,q2,q3,q4⟩;rcases hty:eF ts n with _|ty;rw[hty]at hr2 kk1;have hfin:=hid (h0.o (L'++[.cells [.str t1,.int .i64 t2,.bool t3,.bool t4],.cells [.str w1,.int .i64 w2,.bool w3,.bool w4]]) (by rw[<- hr2];simp) (hN.o.bes.app2 _));rw[<- hr2]at hfin;simp only[amM]at kk1;clear hN hty ht hr2 q1 q3 q4 aX hR;refine wk ?_;refine⟨aF (kk2.o ⟨rfl,rfl⟩) rfl,?_⟩;refine wk ?_;exact aa hfin.o;rw[hty]at hr2 kk1;simp only[if_pos q4]at hr2;have hfin:=hid (h0.o (L'++[.cells [.str t1,.int .i64 t2,.bool t3,.bool t4],.cells [.str w1,.int .i64 w2,.bool w3,.bool w4]]) (by rw[<- hr2];simp) (hN.o.bes.app2 _));rw[<- hr2]at hfin;simp only[amu]at kk1;clear hN hty ht hr2 q1 q3 q4 aX hR;refine wk ?_;refine⟨aF (kk2.o ⟨rfl,rfl⟩) rfl,?_⟩;refine wk ?_;exact aa hfin.o;rcases hty:eF ts n with _|ty;rw[hty]at hr2 kk1;have hfin:=hid (h0.o (L'++[.cells [.str t1,.int .i64 t2,.bool t3,.bool t4],.cells [.str [],.int .i64 0,.bool false,.bool false]]) (by rw[<- hr2];simp) (hN.o.bes.app2 _));rw[<- hr2]at hfin;simp only[amM]at kk1;clear hN hty ht hr2 q1 q3 q4 aX hR;refine wk ?_;refine⟨aF (kk2.o ⟨rfl,rfl⟩) rfl,?_⟩;refine wk ?_;exact aa hfin.o;rw[hty]at hr2 kk1 ht;simp only[if_neg q4]at hr2;simp only[amu]at kk1;simp only[amk]at ht;subst ht;have hfp:f∉pm.map (·.1):=λe=>q4 ((hN.o.ix.pk f).1 e)
 rcases c7 (va:=AV.lmap) rb hN.o.ix.pok f (L'.length+2)with⟨_,_,_,_,_,p4⟩|⟨p1,p2,p3,p4⟩;exact absurd p4 hfp;have hT:=(hN.o.ix.more [.cells [.str t1,.int .i64 t2,.bool t3,.bool t4],.cells [.str [],.int .i64 0,.bool false,.bool false]]).tyNew q4 (t1,t2,t3,t4) (λ_ e=>e);have him:L.length+1<L'.length:=aoz;have hip:L.length+3<L'.length:=aoz;have s1:∀X c,(L'++X).set (L.length+1) c=L'.set (L.length+1) c++X:=λX c=>ama _ _ him
 have s2:∀X c d,(L'.set (L.length+1) c++X).set (L.length+3) d=(L'.set (L.length+1) c).set (L.length+3) d++X:=λX c d=>ama _ _ (by simpa using hip)
 have s3:∀c,(L'.set (L.length+1) c).length=L'.length:=λc=>aoA
 have gl:∀(X:List Blk) c{j:Nat}{b:Blk},L.length+1≠j->L'[j]?=some b->(L'.set (L.length+1) c++X)[j]?=some b:=λX c {j b} ne e=>by rw[alm (by simpa using(ald.1 e).1),alE ne];exact e
 have b1:∀X c,(L'.set (L.length+1) c++X)[L.length+5]?=some (.cells [.lmap (L.length+1),.lmap (L.length+2),.lmap (L.length+3),.lmap (L.length+4)]):=λX c=>gl X c aoz hN.o.ix.st
 have b2:∀X c,(L'.set (L.length+1) c++X)[L.length+3]?=some (.map (a7 AV.str AV.lmap pm) pc):=λX c=>gl X c aoz hN.o.ix.pr
 have b3:∀(a c d:Blk) (X:List Blk),(L'++a::X)[L'.length]?=some a:=λa c d X=>re _ _ _
 rw[s1,alv,s2,show(L'++[Blk.cells [.str t1,.int .i64 t2,.bool t3,.bool t4],Blk.cells [.str [],.int .i64 0,.bool false,.bool false]]).length=L'.length+2 by simp]at hT;have hes:rB tm f (t1,t2,t3,t4) tm.length=tm++[(f,(t1,t2,t3,t4),tm.length)]:=by unfold rB;rw[if_neg q4]
 have hep:rB pm f (L'.length+2) pc=pm++[(f,L'.length+2,pc)]:=by unfold rB;rw[if_neg p4]
 rw[hes]at q3;rw[hep]at p3;have hB:=hN.o.bes;have hN2:=hid (show akO L (L.length+5) (L.length+1) (L.length+2) (L.length+3) (L.length+4) (tm++[(f,(t1,t2,t3,t4),tm.length)]) (pm++[(f,L'.length+2,pc)]) (pc+1) _ from⟨hT,⟨by simp;omega,λj hj _=>by
  rw[alm (by simp;omega),alE aoz,alE aoz];exact hB.eq j hj (λe=>e)⟩,λj hj=>by
  simp only[alM,alr,amH,alj,alh,ana,or_false]at hj;rcases hj with e|e|e|e|e|e|e;omega;omega;omega;omega;omega;exact hN.o.own j (by simp only[alj,alh];exact .inr (.inr (.inr (.inr (.inr (.inl e))))));omega⟩)
 have hbb:Hid (((L'.set (L.length+1) (aaF (tm++[(f,(t1,t2,t3,t4),tm.length)]) (tm.length+1))).set (L.length+3) (afp (pm++[(f,L'.length+2,pc)]) (pc+1))++([.cells [.str t1,.int .i64 t2,.bool t3,.bool t4],.cells [.str [],.int .i64 0,.bool false,.bool false]]++[lY [] 0]))[L.length]?=some (.cells [.sl TS tl capT,.sl c2 n2 cap2])):=hid (by rw[alm (by simp;omega),alE aoz,alE aoz];exact a0)
 replace hr2:=hid hr2;clear hT hN hB aX gl hes hep p4 q4 q1 p1 hfp hty hR him hip;refine wk ?_;refine⟨aF (kk2.o ⟨rfl,rfl⟩) rfl,?_⟩;refine wk ?_;refine⟨aF (kk2.o ⟨rfl,rfl⟩) rfl,?_⟩;refine wk ?_;rw[<- hNS.o];exact aoE aoz (CutL (b:=by simp;omega)) ⟨i+1,_,_,_,rfl,hlt,hr2,hN2,hbb,rfl⟩;have hie:i=ns.length:=aoz;subst hie;have j1:¬(ns.length:Int)<(ns.length:Int):=aoz;have hr2:=hr.o;rw[alY,Mu]at hr2;have hfin:=hid (h1.o L' (L.length+5) _ (by rw[<- hr2]) (by rw[<- hr2];exact⟨L.length+1,L.length+2,L.length+3,L.length+4,[],0,pm,pc,[],0,hN.o.ix.iff (λf x _=>by simp[lG]) (λk x=>by simp[fP]),P9.nil,List.Pairwise.nil,λi=>Iff.rfl⟩) hN.o.bes hN.o.own)
 clear hr2 hr hN hb hst hR;refine wk ?_;exact aa hfin.o
variable {L:List Blk}{K:alc}
theorem akX{l:List (List UInt8)}{k:Nat}(h:k<l.length):(l.map AV.str).getD k .undef=.str (l.getD k []):=by rw[alD,alD];simp[h]
theorem acq{xs:List (List UInt8)}{cap:Option Nat}{s:List UInt8}(hn:xs.length<=1000000000000)(h:K (.bool (xs.contains s)) L):
  alb 82 [.sl (xs.map AV.str) xs.length cap,.str s] L K:=by
 replace h:=hid h;have hg:=hid (λk (q:k<xs.length)=>akX q);have hl:(xs.map AV.str).length=xs.length:=aoA;obtain⟨X,hX⟩:=ak7 (xs.map AV.str);rw[hX]at hg hl⊢;clear hX;refine ala We ?_;refine ah (λn T' L'=>∃k:Nat,n=xs.length-k/\k<=xs.length/\T'=[(9,.int .i64 (k:Int)),(8,.int .i64 xs.length),(7,.sl X xs.length cap),(1,.str s)]/\L=L'/\Hid (∀j,j<k->xs.getD j []≠s)) (CutS (b:=ale _)) ⟨0,rfl,ali _,rfl,rfl,hid aoA⟩ ?_;rintro _ _ L' ⟨k,rfl,hk,rfl,e,hr⟩;subst e;by_cases hlt:k<xs.length;have g1:(k:Int)<(xs.length:Int):=aoz;have g2:=ak9 k aoz;have e3:=hg.o k hlt;have e4:k<X.length:=aoz;obtain⟨x,hx⟩:=ak7 (xs.getD k []);rw[hx]at e3;by_cases hq:x=s;have e:xs.contains s=true:=by rw[alQ,<- hq,<- hx];simp[hlt]
 rw[e]at h;replace hx:=hid hx;subst hq;clear e;refine wk ?_;exact aa h.o;have hr2:Hid (∀j,j<k+1->xs.getD j []≠s):=hid (λj hj=>by rcases alA j k with h|h;exact hr.o j h;have:j=k:=aoz;subst this;rw[hx];exact hq)
 clear hx hr;refine wk ?_;exact aoE aoz aoC ⟨k+1,rfl,hlt,rfl,rfl,hr2⟩;have g1:¬(k:Int)<(xs.length:Int):=aoz;have e:xs.contains s=false:=by simp only[al8,decide_eq_false_iff_not];intro hs;obtain⟨j,hj,e⟩:=aml.1 hs;exact hr.o j aoz (by simp[hj,e])
 rw[e]at h;clear hr e;refine wk ?_;exact aa h.o
end Go.Proofs.YtcmfcpjnhephaaaGreatDoor.Av
set_option maxRecDepth 100000
namespace Go.Proofs.YtcmfcpjnhephaaaGreatDoor.Av
open Go
def MT:LSO:=[A4 2 0,AP 4,Ad 5 0]
def MS:LSO:=[Ap 9 2 2,o1 10 (.build [(.sl [] 0 (some 0)),(.sl [] 0 (some 0)),(.sl [] 0 (some 0)),(.sl [] 0 (some 0))] [(0,(2,(tm 9)))]),A4 11 10,Aa 6 11]
def MR:LSO:=[Aa 12 1,Ak 13 12,Ad 14 0]
def MQ:LSO:=[Al 15 14 13]
def MP:LSO:=[An 16 1 12 14,Ab 17 1 16,Aa 8 17]
def MO:LSO:=[Ac 18 0 2,Ab 19 1 18,Aa 20 8,Aq 21 12 19 20,AD 22 21 0]
def MN:LSO:=[AP 4,Ad 5 20]
def MM:LSO:=[Aa 23 6,Ar 24 23,Ac 25 2 24,Ab 26 1 25,Aa 27 8,Am 28 39 27,Aq 29 82 26 28]
def ML:LSO:=[AP 4,Ad 5 21]
def MK:List (aj×Kd):=
 [A8 30 6,A8 31 6,AI 32 31 0 0,A7 33 2 32,A0 34 1 33 0 0,A8 35 8,Bb 36 39 35 0 0,od 37 (.bslice false 1 1 [(.str [])] [(0,(1,(tm 36)))]) (.read 0 0),
 od 38 (.app 1 1 16 [(.str [])] (tm 34) (tm 37)) .eff]
def HC:List aj :=
 [⟨(some 39),(.nilchk (tm 30)),none⟩,⟨(some 40),(.faddr 2 (tm 39)),none⟩,⟨none,(.store 1 (tm 40) (tm 38)),none⟩]
def HE:LSO:=[Af 41 14 1,Aa 14 41]
def HD:LSO:=[Aa 42 6,Aa 4 42,Ad 5 0]
def Lw:aG:=⟨43,(aos MT [] (aos MS Cw (.seq (aos MR [] (aov 0 (aos MQ [] (.seq (aow 15 0) (.seq (.block 1 (aos MP Cv (.seq (aos MO Cx (aou 22 (.sreg MN []))) (.seq (.seq (.sdreg MM [.pure,(.read 0 0),.pure,(.read 0 0),.pure,(.read 0 0)] C0) (aou 29 (.sreg ML []))) (.dregM MK HC [false,false,false,false,false,false,false,false,false,false,false]))))) (.sreg HE Cu)))))) (aos HD Cz .ret)))),[(.tmp 4),(.tmp 5)]⟩
attribute [push_cast] MT MS MR MQ MP MO MN MM ML MK HC HE HD
theorem Wa:aox 32=aoy Lw:=aoB
def oT:LSO:=[Ah 4]
def oS:LSO:=[Aa 7 0,Ar 8 7,Ac 9 3 8,Ab 10 1 9,Ak 11 10,Ad 12 0]
def oR:LSO:=[Al 13 12 11]
def oQ:LSO:=[An 14 2 10 12,Ap 15 2 14,B5 6,Ai 2 6 15]
def oP:LSO:=[Ac 16 0 6,Ab 17 1 16,Aa 18 1,BV 19 17 18]
def oO:LSO:=[Aa 20 4,Ap 21 2 6,BW 22 21,BX 23 20 22,Aa 4 23]
def oN:LSO:=[Af 24 12 1,Aa 12 24]
def oM:LSO:=[Aa 25 0,Aa 26 4,Ar 27 25,Ac 28 3 27,Ai 1 28 26]
def iy:aG:=⟨29,(aos oT [] (.seq (aos oS CL (aov 0 (aos oR [] (.seq (aow 13 0) (.seq (.block 1 (aos oQ Cv (aos oP Cw (aot 19 (.sreg oO Cx) .skip)))) (.sreg oN Cu)))))) (.sreg oM CN))),[]⟩
attribute [push_cast] oT oS oR oQ oP oO oN oM
theorem GY:aox 36=aoy iy:=aoB
def qA:LSO:=[Aa 10 0,Aa 11 1,Aq 12 36 10 11]
def qz:LSO:=[Ah 6]
def qy:LSO:=[Ag 7]
def qx:LSO:=[Aa 13 0,Ar 14 13,Ac 15 3 14,Ab 16 1 15,Ak 17 16,Ad 18 0]
def qw:LSO:=[Al 19 18 17]
def qu:LSO:=[An 20 2 16 18,Ap 21 2 20,B5 9,Ai 2 9 21]
def qt:LSO:=[Aa 22 7,Ay 23 22,Aa 24 23,.grp none 24 true
 [Ae 25 24 1,A6 26 24 0 9,A5 27 24 1 26,Bn 28 24 25 27]
 29 (tm 28)]
def qo:LSO:=[Aa 30 6,Aa 31 1,Aa 32 2,Am 33 86 32,o1 34 (.build [(.int .i64 0),(.sl [] 0 (some 0))] [(0,(1,(tm 31))),(1,(1,(tm 33)))]),BW 35 34,BX 36 30 35,
 Aa 6 36]
def qn:LSO:=[Az 7]
def qm:LSO:=[Aa 37 6,Ap 38 2 9,BW 39 38,BX 40 37 39,Aa 6 40]
def oB:LSO:=[Af 41 18 1,Aa 18 41]
def oz:LSO:=[Aa 42 7,Ay 43 42]
def oy:LSO:=[Aa 44 6,Aa 45 1,Aa 46 2,Am 47 86 46,o1 48 (.build [(.int .i64 0),(.sl [] 0 (some 0))] [(0,(1,(tm 45))),(1,(1,(tm 47)))]),BW 49 48,BX 50 44 49,
 Aa 6 50]
def ox:LSO:=[Aa 51 0,Aa 52 6,Ar 53 51,Ac 54 3 53,Ai 1 54 52]
def lQ:aG:=⟨55,(aos qA CQ (aos qz [] (aos qy [] (.seq (aos qx CL (aov 0 (aos qw [] (.seq (aow 19 0) (.seq (.block 1 (aos qu Cv (.seq (aos qt Cw (aot 29 (aos qo C2 (.sreg qn [])) .skip)) (.sreg qm Cx)))) (.sreg oB Cu)))))) (.seq (aos oz Cu (aot 43 (.sreg oy C2) .skip)) (.sreg ox CN)))))),[]⟩
attribute [push_cast] qA qz qy qx qw qu qt qo qn qm oB oz oy ox
theorem Lx:aox 37=aoy lQ:=aoB
def qC:LSO:=[Ag 4]
def qB:LSO:=[Aa 5 0,Ar 6 5,Ac 7 2 6,Ab 8 1 7,Aa 9 1,Am 10 39 9,Aq 11 82 8 10,Aa 4 11]
def lR:aG:=⟨12,(aos qC [] (.seq (.sdreg qB [.pure,(.read 0 0),.pure,(.read 0 0),.pure,(.read 0 0)] C2) .ret)),[(.tmp 4)]⟩
attribute [push_cast] qC qB
theorem Ly:aox 63=aoy lR:=aoB
attribute [push_cast] Lw iy lQ lR
end Go.Proofs.YtcmfcpjnhephaaaGreatDoor.Av
set_option maxRecDepth 100000
namespace Go.Proofs.YtcmfcpjnhephaaaGreatDoor.Av
open Go
variable {cap:Option Nat}{L L0:List Blk}{ts:List Typ}{K:alc}{l:List aQ}{rt it:Nat}{B:Nat->Prop}
def zT:LSO:=[Ah 6]
def zS:LSO:=[Aa 9 2,Ak 10 9,Ad 11 0]
def zR:LSO:=[Al 12 11 10]
def zQ:LSO:=[An 13 1 9 11,Ab 14 1 13,Aa 8 14]
def zP:LSO:=[Aa 15 0,Aa 16 8,Aa 17 1,o1 18 (.build [(.str []),(.int .i64 0),(.bool false),(.bool false)] [(0,(1,(tm 16))),(1,(1,(tm 17)))]),BY 19 18,BZ 20 15 19,
 Aa 0 20]
def zO:LSO:=[Af 21 11 1,Aa 11 21]
def zN:LSO:=[Aa 22 0,Aa 6 22]
def tw:aG:=⟨23,(aos zT [] (.seq (aos zS [] (aov 0 (aos zR [] (.seq (aow 12 0) (.seq (.block 1 (aos zQ Cv (.sreg zP C0))) (.sreg zO Cu)))))) (aos zN Cu .ret))),[(.tmp 6)]⟩
attribute [push_cast] zT zS zR zQ zP zO zN
theorem S5:aox 50=aoy tw:=aoB
def Iu:LSO:=[Cr 0]
def It:LSO:=[Cr 1]
def Is:LSO:=[Ac 5 0 1,Ab 6 1 5,o1 7 (.bslice false 1 1 [(.str [])] [(0,(1,(.av (.str [111,98,106,101,99,116,67,108,97,115,115]))))]),Bp 8 50 6 3 7,Ac 9 0 1,Ai 1 9 8]
def Ir:LSO:=[Ac 10 0 1,Ab 11 1 10,
 o1 12 (.bslice false 1 4 [(.str []),(.str []),(.str []),(.str [])] [(0,(1,(.av (.str [99,110])))),(1,(1,(.av (.str [115,110])))),(2,(1,(.av (.str [111,117])))),(3,(1,(.av (.str [111]))))]),
 Bp 13 50 11 1 12,Ac 14 0 1,Ai 1 14 13]
def Iq:LSO:=[Ac 15 0 1,Ab 16 1 15,
 o1 17 (.bslice false 1 3 [(.str []),(.str []),(.str [])] [(0,(1,(.av (.str [100,99])))),(1,(1,(.av (.str [117,105,100])))),(2,(1,(.av (.str [109,97,105,108]))))]),
 Bp 18 50 16 3 17,Ac 19 0 1,Ai 1 19 18]
def Ip:LSO:=[Ac 20 0 1,Ab 21 1 20,BJ 22,Bp 23 50 21 1 22,Ac 24 0 1,Ai 1 24 23]
def Io:LSO:=[Ac 25 0 1,Ab 26 1 25,o1 27 (.bslice false 1 1 [(.str [])] [(0,(1,(.av (.str [109,101,109,98,101,114]))))]),Bp 28 50 26 6 27,Ac 29 0 1,Ai 1 29 28]
def Im:LSO:=[Ac 30 0 1,Ab 31 1 30,o1 32 (.bslice false 1 1 [(.str [])] [(0,(1,(.av (.str [117,115,101,114,80,97,115,115,119,111,114,100]))))]),Bp 33 50 31 7 32,
 Ac 34 0 1,Ai 1 34 33]
def Il:LSO:=[Ac 35 0 1,Ab 36 1 35,
 o1 37 (.build [(.str []),(.int .i64 0),(.bool false),(.bool false)] [(0,(1,(.av (.str [101,109,112,108,111,121,101,101,78,117,109,98,101,114])))),(1,(1,(iv 4))),(2,(1,(.av (.bool true))))]),
 BY 38 37,BZ 39 36 38,Ac 40 0 1,Ai 1 40 39]
def Ik:LSO:=[Ac 41 0 1,Ab 42 1 41,
 o1 43 (.build [(.str []),(.int .i64 0),(.bool false),(.bool false)] [(0,(1,(.av (.str [97,99,116,105,118,101])))),(1,(1,(iv 5))),(2,(1,(.av (.bool true))))]),BY 44 43,
 BZ 45 42 44,Ac 46 0 1,Ai 1 46 45]
def Dj:LSO:=[o1 47 (.bslice false 1 5 [(.str []),(.str []),(.str []),(.str []),(.str [])] [(0,(1,(.av (.str [99,114,101,97,116,101,100,65,116])))),(1,(1,(.av (.str [99,104,97,110,103,101,100,65,116])))),(2,(1,(.av (.str [112,119,100,70,97,105,108,117,114,101])))),(3,(1,(.av (.str [112,119,100,76,111,99,107,101,100])))),(4,(1,(.av (.str [112,119,100,67,104,97,110,103,101,100]))))]),
 Ak 48 47,Ad 49 0]
def Di:LSO:=[Al 50 49 48]
def Dh:LSO:=[An 51 1 47 49,Ab 52 1 51,Aa 3 52]
def Dg:LSO:=[Aa 53 3,
 o1 54 (.build [(.str []),(.int .i64 0),(.bool false),(.bool false)] [(0,(1,(tm 53))),(1,(1,(iv 4))),(2,(1,(.av (.bool true)))),(3,(1,(.av (.bool true))))]),B6 4,Ai 4 4 54]
def Df:LSO:=[Aa 55 3,o1 56 (.bin .eql (tm 55) (.av (.str [112,119,100,70,97,105,108,117,114,101])))]
def De:LSO:=[Ac 57 1 4,Bd 1 57 3]
def Dd:LSO:=[Ac 58 2 4,o0 (.store 1 (tm 58) (.av (.bool false)))]
def Dc:LSO:=[Ac 59 0 1,Ab 60 1 59,Ap 61 4 4,BY 62 61,BZ 63 60 62,Ac 64 0 1,Ai 1 64 63]
def Db:LSO:=[Af 65 49 1,Aa 49 65]
def At:LSO:=[Ac 66 1 1,Ab 67 1 66,o1 68 (.bslice false 1 1 [(.str [])] [(0,(1,(.av (.str [111,98,106,101,99,116,67,108,97,115,115]))))]),
 o1 69 (.bslice false 1 5 [(.str []),(.str []),(.str []),(.str []),(.str [])] [(0,(1,(.av (.str [99,114,101,97,116,101,100,65,116])))),(1,(1,(.av (.str [99,104,97,110,103,101,100,65,116])))),(2,(1,(.av (.str [112,119,100,70,97,105,108,117,114,101])))),(3,(1,(.av (.str [112,119,100,76,111,99,107,101,100])))),(4,(1,(.av (.str [112,119,100,67,104,97,110,103,101,100]))))]),
 o1 70 (.build [(.str []),(.str []),(.int .i64 0),(.sl [] 0 (some 0)),(.sl [] 0 (some 0))] [(0,(1,(.av (.str [116,111,112])))),(3,(1,(tm 68))),(4,(1,(tm 69)))]),Be 71 70,
 Bf 72 67 71,Ac 73 1 1,Ai 1 73 72]
def z8:LSO:=[Ac 74 1 1,Ab 75 1 74,o1 76 (.bslice false 1 1 [(.str [])] [(0,(1,(.av (.str [100,99]))))]),BJ 77,
 o1 78 (.build [(.str []),(.str []),(.int .i64 0),(.sl [] 0 (some 0)),(.sl [] 0 (some 0))] [(0,(1,(.av (.str [100,111,109,97,105,110])))),(1,(1,(.av (.str [116,111,112])))),(2,(1,(iv 1))),(3,(1,(tm 76))),(4,(1,(tm 77)))]),
 Be 79 78,Bf 80 75 79,Ac 81 1 1,Ai 1 81 80]
def z7:LSO:=[Ac 82 1 1,Ab 83 1 82,o1 84 (.bslice false 1 1 [(.str [])] [(0,(1,(.av (.str [111]))))]),BJ 85,
 o1 86 (.build [(.str []),(.str []),(.int .i64 0),(.sl [] 0 (some 0)),(.sl [] 0 (some 0))] [(0,(1,(.av (.str [111,114,103,97,110,105,122,97,116,105,111,110])))),(1,(1,(.av (.str [116,111,112])))),(2,(1,(iv 1))),(3,(1,(tm 84))),(4,(1,(tm 85)))]),
 Be 87 86,Bf 88 83 87,Ac 89 1 1,Ai 1 89 88]
def z6:LSO:=[Ac 90 1 1,Ab 91 1 90,o1 92 (.bslice false 1 1 [(.str [])] [(0,(1,(.av (.str [111,117]))))]),BJ 93,
 o1 94 (.build [(.str []),(.str []),(.int .i64 0),(.sl [] 0 (some 0)),(.sl [] 0 (some 0))] [(0,(1,(.av (.str [111,114,103,97,110,105,122,97,116,105,111,110,97,108,85,110,105,116])))),(1,(1,(.av (.str [116,111,112])))),(2,(1,(iv 1))),(3,(1,(tm 92))),(4,(1,(tm 93)))]),
 Be 95 94,Bf 96 91 95,Ac 97 1 1,Ai 1 97 96]
def zZ:LSO:=[Ac 98 1 1,Ab 99 1 98,o1 100 (.bslice false 1 2 [(.str []),(.str [])] [(0,(1,(.av (.str [99,110])))),(1,(1,(.av (.str [115,110]))))]),
 o1 101 (.bslice false 1 2 [(.str []),(.str [])] [(0,(1,(.av (.str [100,101,115,99,114,105,112,116,105,111,110])))),(1,(1,(.av (.str [117,115,101,114,80,97,115,115,119,111,114,100]))))]),
 o1 102 (.build [(.str []),(.str []),(.int .i64 0),(.sl [] 0 (some 0)),(.sl [] 0 (some 0))] [(0,(1,(.av (.str [112,101,114,115,111,110])))),(1,(1,(.av (.str [116,111,112])))),(2,(1,(iv 1))),(3,(1,(tm 100))),(4,(1,(tm 101)))]),
 Be 103 102,Bf 104 99 103,Ac 105 1 1,Ai 1 105 104]
def zY:LSO:=[Ac 106 1 1,Ab 107 1 106,
 o1 108 (.bslice false 1 4 [(.str []),(.str []),(.str []),(.str [])] [(0,(1,(.av (.str [117,105,100])))),(1,(1,(.av (.str [109,97,105,108])))),(2,(1,(.av (.str [101,109,112,108,111,121,101,101,78,117,109,98,101,114])))),(3,(1,(.av (.str [97,99,116,105,118,101]))))]),
 o1 109 (.build [(.str []),(.str []),(.int .i64 0),(.sl [] 0 (some 0)),(.sl [] 0 (some 0))] [(0,(1,(.av (.str [105,110,101,116,80,101,114,115,111,110])))),(1,(1,(.av (.str [112,101,114,115,111,110])))),(2,(1,(iv 1))),(4,(1,(tm 108)))]),
 Be 110 109,Bf 111 107 110,Ac 112 1 1,Ai 1 112 111]
def zX:LSO:=[Ac 113 1 1,Ab 114 1 113,o1 115 (.bslice false 1 2 [(.str []),(.str [])] [(0,(1,(.av (.str [99,110])))),(1,(1,(.av (.str [109,101,109,98,101,114]))))]),
 BJ 116,
 o1 117 (.build [(.str []),(.str []),(.int .i64 0),(.sl [] 0 (some 0)),(.sl [] 0 (some 0))] [(0,(1,(.av (.str [103,114,111,117,112])))),(1,(1,(.av (.str [116,111,112])))),(2,(1,(iv 1))),(3,(1,(tm 115))),(4,(1,(tm 116)))]),
 Be 118 117,Bf 119 114 118,Ac 120 1 1,Ai 1 120 119]
def zW:LSO:=[Ac 121 1 1,Ab 122 1 121,o1 123 (.bslice false 1 1 [(.str [])] [(0,(1,(.av (.str [117,115,101,114,80,97,115,115,119,111,114,100]))))]),
 o1 124 (.build [(.str []),(.str []),(.int .i64 0),(.sl [] 0 (some 0)),(.sl [] 0 (some 0))] [(0,(1,(.av (.str [115,101,99,117,114,101,100])))),(1,(1,(.av (.str [116,111,112])))),(2,(1,(iv 2))),(3,(1,(tm 123)))]),
 Be 125 124,Bf 126 122 125,Ac 127 1 1,Ai 1 127 126]
def zV:LSO:=[Ac 128 1 1,Ab 129 1 128,o1 130 (.bslice false 1 2 [(.str []),(.str [])] [(0,(1,(.av (.str [117,105,100])))),(1,(1,(.av (.str [109,97,105,108]))))]),
 o1 131 (.build [(.str []),(.str []),(.int .i64 0),(.sl [] 0 (some 0)),(.sl [] 0 (some 0))] [(0,(1,(.av (.str [108,97,98,101,108,108,101,100])))),(1,(1,(.av (.str [116,111,112])))),(2,(1,(iv 2))),(4,(1,(tm 130)))]),
 Be 132 131,Bf 133 129 132,Ac 134 1 1,Ai 1 134 133]
def zU:LSO:=[Ap 135 2 1,Ai 2 0 135]
def yK:aG:=⟨136,(aos Iu [] (aos It [] (aos Is C6 (aos Ir C6 (aos Iq C6 (aos Ip C6 (aos Io C6 (aos Im C6 (aos Il CM (aos Ik CM (.seq (aos Dj [] (aov 0 (aos Di [] (.seq (aow 50 0) (.seq (.block 1 (aos Dh Cv (aos Dg Cv (.seq (aos Df Cu (aot 56 (aos De CA (.sreg Dd CA)) .skip)) (.sreg Dc CM))))) (.sreg Db Cu)))))) (aos At CJ (aos z8 CJ (aos z7 CJ (aos z6 CJ (aos zZ CJ (aos zY C7 (aos zX CJ (aos zW C7 (aos zV C7 (aos zU CA .ret))))))))))))))))))))),[(.cell true 2 0)]⟩
attribute [push_cast] Iu It Is Ir Iq Ip Io Im Il Ik Dj Di Dh Dg Df De Dd Dc Db At z8 z7 z6 zZ zY zX zW zV zU
theorem Uv:aox 20=aoy yK:=aoB
attribute [push_cast] tw
variable {L:List Blk}{K:alc}
set_option maxHeartbeats 8000000
set_option maxRecDepth 1000000
abbrev tnC(syn:Int)(nm:List UInt8):List AV:=[.str nm,.int .i64 syn,.bool false,.bool false]
theorem ac4{α:Type}{L:List α}{p:Nat}{b:α}(h:L[p]?=some b):L.set p b=L:=by apply amN;intro i;rw[alC];split;rename_i e;subst e;rw[h,if_pos (ald.1 h).1];rfl
theorem ahw{C:List AV}{n p:Nat}{syn:Int}{names:List (List UInt8)}(hn:n+names.length<=1100000)(hp:L[p]?=some (.spare n 4))(h:K (.gsl (C++names.flatMap (tnC syn)) (n+names.length) p 4) (L.set p (.spare (n+names.length) 4))):
  alb 50 [.gsl C n p 4,.int .i64 syn,.sl (names.map AV.str) names.length cap] L K:=by
 have hpl:p<L.length:=(ald.1 hp).1;have hset:∀b,(L.set p b)[p]?=some b:=λb=>by simp[hpl]
 replace h:=hid h;refine ala S5 ?_;refine ah (λm T' L'=>∃(j z:Nat) (D:List AV) (M:List Blk),m=names.length-j/\j<=names.length/\z=n+j/\Hid (D=C++(names.take j).flatMap (tnC syn))/\Hid (M=L.set p (.spare z 4))/\T'=[(11,.int .i64 (j:Int)),(10,.int .i64 names.length),(9,.sl (names.map AV.str) names.length cap),(0,.gsl D z p 4),(1,.int .i64 syn)]/\M=L') (CutS (b:=ale _)) ⟨0,n,C,L,rfl,ali _,rfl,hid aoA,hid (ac4 hp).symm,rfl,rfl⟩ ?_;rintro _ _ _ ⟨j,z,D,M,rfl,hj,hz,hD,hM,rfl,rfl⟩;by_cases hlt:j<names.length;have g1:(j:Int)<(names.length:Int):=aoz;have g2:=ak9 j aoz;obtain⟨x,hx⟩:=ak7 (names.getD j []);have j3:(names.map AV.str).getD j .undef=.str x:=by rw[<- hx];simp[hlt]
 have htk:names.take (j+1)=names.take j++[x]:=by rw[aly hlt,<- hx];simp[hlt]
 have hMp:M[p]?=some (.spare z 4):=by rw[hM.o];exact hset _
 have hD2:D++[.str x,.int .i64 syn,.bool false,.bool false]=C++(names.take (j+1)).flatMap (tnC syn):=by rw[hD.o,htk];simp
 have hM2:M.set p (.spare (z+1) 4)=L.set p (.spare (z+1) 4):=by rw[hM.o,amC]
 have hMl:M.length=L.length:=by rw[hM.o];simp
 replace hD2:=hid hD2;replace hM2:=hid hM2;have hz1:z+1<=1100000:=aoz;have hz2:z+1=n+(j+1):=aoz;replace hz2:=hid hz2;clear hx htk hD hM hset hz;refine wk ?_;exact aoE aoz (CutL (b:=by simp;omega)) ⟨j+1,z+1,_,_,rfl,hlt,hz2.o,hD2,hM2,rfl,rfl⟩;have hke:j=names.length:=aoz;subst hke;have g1:¬(names.length:Int)<(names.length:Int):=aoz;have hD2:=hD.o;have hM2:=hM.o;rw[alt]at hD2;subst hD2 hz;rw[hM2]at *;clear hD hM hM2;refine wk ?_;exact aa h.o
def an:List Typ:=[([111,98,106,101,99,116,67,108,97,115,115],3,false,false),([99,110],1,false,false),([115,110],1,false,false),([111,117],1,false,false),([111],1,false,false),([100,99],3,false,false),([117,105,100],3,false,false),([109,97,105,108],3,false,false),([100,101,115,99,114,105,112,116,105,111,110],1,false,false),([109,101,109,98,101,114],6,false,false),([117,115,101,114,80,97,115,115,119,111,114,100],7,false,false),([101,109,112,108,111,121,101,101,78,117,109,98,101,114],4,true,false),([97,99,116,105,118,101],5,true,false),([99,114,101,97,116,101,100,65,116],4,true,true),([99,104,97,110,103,101,100,65,116],4,true,true),([112,119,100,70,97,105,108,117,114,101],3,false,true),([112,119,100,76,111,99,107,101,100],4,true,true),([112,119,100,67,104,97,110,103,101,100],4,true,true)]
def Lt:List AV:=[.str [116,111,112],.str [],.int .i64 0,.sl [.str [111,98,106,101,99,116,67,108,97,115,115]] 1 none,.sl [.str [99,114,101,97,116,101,100,65,116],.str [99,104,97,110,103,101,100,65,116],.str [112,119,100,70,97,105,108,117,114,101],.str [112,119,100,76,111,99,107,101,100],.str [112,119,100,67,104,97,110,103,101,100]] 5 none,.str [100,111,109,97,105,110],.str [116,111,112],.int .i64 1,.sl [.str [100,99]] 1 none,.sl [.str [100,101,115,99,114,105,112,116,105,111,110]] 1 none,.str [111,114,103,97,110,105,122,97,116,105,111,110],.str [116,111,112],.int .i64 1,.sl [.str [111]] 1 none,.sl [.str [100,101,115,99,114,105,112,116,105,111,110]] 1 none,.str [111,114,103,97,110,105,122,97,116,105,111,110,97,108,85,110,105,116],.str [116,111,112],.int .i64 1,.sl [.str [111,117]] 1 none,.sl [.str [100,101,115,99,114,105,112,116,105,111,110]] 1 none,.str [112,101,114,115,111,110],.str [116,111,112],.int .i64 1,.sl [.str [99,110],.str [115,110]] 2 none,.sl [.str [100,101,115,99,114,105,112,116,105,111,110],.str [117,115,101,114,80,97,115,115,119,111,114,100]] 2 none,.str [105,110,101,116,80,101,114,115,111,110],.str [112,101,114,115,111,110],.int .i64 1,.sl [] 0 none,.sl [.str [117,105,100],.str [109,97,105,108],.str [101,109,112,108,111,121,101,101,78,117,109,98,101,114],.str [97,99,116,105,118,101]] 4 none,.str [103,114,111,117,112],.str [116,111,112],.int .i64 1,.sl [.str [99,110],.str [109,101,109,98,101,114]] 2 none,.sl [.str [100,101,115,99,114,105,112,116,105,111,110]] 1 none,.str [115,101,99,117,114,101,100],.str [116,111,112],.int .i64 2,.sl [.str [117,115,101,114,80,97,115,115,119,111,114,100]] 1 none,.sl [] 0 none,.str [108,97,98,101,108,108,101,100],.str [116,111,112],.int .i64 2,.sl [] 0 none,.sl [.str [117,105,100],.str [109,97,105,108]] 2 none]
theorem G2:∀ts:List Typ,AV.frzL (bU ts)=bU ts
 |[]=>rfl
 |ty::ts=>by rw[show bU (ty::ts)=tyC ty++bU ts from rfl];simp only[tyC,alN,alL,AV.frzL,AV.frz,G2 ts]
theorem Xa(p:Nat->Bool):∀ts:List Typ,AV.refsL p (bU ts)=true
 |[]=>rfl
 |ty::ts=>by rw[show bU (ty::ts)=tyC ty++bU ts from rfl];simp only[tyC,alN,alL,AV.refsL,AV.refs,Xa p ts,alX]
theorem ahi{P:Program}{N:Nat}{own:Nat->Nat->Nat}{Q:Exit->Tm->List Blk->Prop}{T:Tm}{lc:cn}{L':List Blk}(e:L=L')(h:AW P N own lc Q T L'):AW P N own lc Q T L:=e▸h
theorem agG(h:K (.agg [.sl (bU an) an.length none,.sl Lt 9 none]) L):alb 20 [] L K:=by
 have st:∀(a:Nat) (syn:Int) (ns:List (List UInt8)) (b:Nat),bU (an.take a)++ns.flatMap (tnC syn)=bU (an.take b)->a+ns.length=b->b<=100->∀K:AV->List Blk->Prop,K (.gsl (bU (an.take b)) b (L.length+2) 4) (L++[.cells [.sl [] 0 (some 0),.sl [] 0 (some 0)],.cells [.gsl (bU (an.take a)) a (L.length+2) 4,.gsl [] 0 (L.length+3) 5],.spare b 4,.spare 0 5])->alb 50 [.gsl (bU (an.take a)) a (L.length+2) 4,.int .i64 syn,.sl (ns.map AV.str) ns.length (some ns.length)] (L++[.cells [.sl [] 0 (some 0),.sl [] 0 (some 0)],.cells [.gsl (bU (an.take a)) a (L.length+2) 4,.gsl [] 0 (L.length+3) 5],.spare a 4,.spare 0 5]) K:=λa syn ns b h1 h2 h3 K q=>by refine ahw aoz aoA ?_;rw[h1,h2,al4 _ _ aoz,show L.length+2-L.length=2 by omega];exact q
 have s1:=st 0 3 [[111,98,106,101,99,116,67,108,97,115,115]] 1 rfl rfl aoz;have s2:=st 1 1 [[99,110],[115,110],[111,117],[111]] 5 rfl rfl aoz;have s3:=st 5 3 [[100,99],[117,105,100],[109,97,105,108]] 8 rfl rfl aoz;have s4:=st 8 1 [[100,101,115,99,114,105,112,116,105,111,110]] 9 rfl rfl aoz;have s5:=st 9 6 [[109,101,109,98,101,114]] 10 rfl rfl aoz;have s6:=st 10 7 [[117,115,101,114,80,97,115,115,119,111,114,100]] 11 rfl rfl aoz;clear st;obtain⟨C1,h1⟩:=ak7 (bU (an.take 1));obtain⟨C5,h5⟩:=ak7 (bU (an.take 5));obtain⟨C8,h8⟩:=ak7 (bU (an.take 8));obtain⟨C9,h9⟩:=ak7 (bU (an.take 9));obtain⟨C10,h10⟩:=ak7 (bU (an.take 10));obtain⟨C11,h11⟩:=ak7 (bU (an.take 11));rw[show bU (an.take 0)=[]from rfl]at s1;rw[h1]at s1 s2;rw[h5]at s2 s3;rw[h8]at s3 s4;rw[h9]at s4 s5;rw[h10]at s5 s6;rw[h11]at s6;simp only[alr,amH,alp,al9,amy,Nat.reduceAdd]at s1 s2 s3 s4 s5 s6;have kk1:=@hid _ (λ{K:alc}=>s1 K);have kk2:=@hid _ (λ{K:alc}=>s2 K);have kk3:=@hid _ (λ{K:alc}=>s3 K);have kk4:=@hid _ (λ{K:alc}=>s4 K);have kk5:=@hid _ (λ{K:alc}=>s5 K);have kk6:=@hid _ (λ{K:alc}=>s6 K);clear s1 s2 s3 s4 s5 s6;clear h1 h5 h8 h9 h10;replace h11:=hid h11;replace h:=hid h;refine ac Uv (by simp[yK]) ?_;simp only[yK,am]
 iterate 6 first
  |refine bu ?_
  | (first|refine bj aoB ?_|refine aJ aoB ?_|refine aM ?_|refine cN ?_|refine bE (fun _=>?_)|refine aC ?_|refine bo ?_)
    simp(config:={maxSteps:=2000000}) only[Kon,push_cast,reduceIte,Nat.reduceEqDiff,Nat.reduceAdd,Nat.reduceMul,Nat.reduceSub,Nat.reduceLT,Nat.reduceLeDiff,Int.reduceLT,Int.reduceLE,Int.reduceAdd,Int.reduceSub,Int.reduceNeg,Int.reduceToNat,Int.reduceEq,reduceCtorEq, *]
  | (first|refine a8 aoB ?_|refine ba ?_|refine aL ?_|refine bm ?_|refine bJ (aB ?_))
    simp only[push_cast,reduceIte,Nat.reduceEqDiff,Nat.reduceAdd,Nat.reduceMul,Nat.reduceSub,Nat.reduceLT,Nat.reduceLeDiff,Int.reduceLT,Int.reduceLE,Int.reduceAdd,Int.reduceSub,Int.reduceNeg,Int.reduceToNat,Int.reduceEq,reduceCtorEq, *]
  |exact bF
  |first|apply bG|apply be|apply bH|apply bf|apply bI|apply bg
  |refine aP ?_
  |refine aK ?_
  |first|refine aN rfl ?_|refine aO rfl ?_|refine ax rfl ?_ ?_|refine aT rfl (λ_=>?_) (λ_=>?_)|refine aS rfl (λ_=>?_) (λ_=>?_)
  |((first|refine au (λ_=>?_) (λ_=>?_)|refine aA (λ_=>?_) (λ_=>?_))<;>try simp(config:={maxSteps:=2000000}) only[Kon,push_cast,reduceIte,Nat.reduceEqDiff,Nat.reduceAdd,Nat.reduceMul,Nat.reduceSub,Nat.reduceLT,Nat.reduceLeDiff,Int.reduceLT,Int.reduceLE,Int.reduceAdd,Int.reduceSub,Int.reduceNeg,Int.reduceToNat,Int.reduceEq,reduceCtorEq, *])
  |refine And.intro trivial ?_
  |refine And.intro aoz ?_
  |refine aY rfl (λ_=>?_) (λ_=>?_)
  |refine And.intro ?_ ?_
 refine LT (L.length+1) 0 4 (c:=[.sl [] 0 (some 0),.sl [] 0 (some 0)]) (l:=[]) (n:=0) aoA rfl rfl ?_;refine LT (L.length+1) 1 5 (c:=[.gsl [] 0 (L.length+2) 4,.sl [] 0 (some 0)]) (l:=[]) (n:=0) aoA rfl rfl ?_;refine ahi (L':=L++[.cells [.sl [] 0 (some 0),.sl [] 0 (some 0)],.cells [.gsl [] 0 (L.length+2) 4,.gsl [] 0 (L.length+3) 5],.spare 0 4,.spare 0 5]) aoA ?_;refine wk ?_;refine ah (λm T' L'=>∃(j z:Nat) (D:List AV) (X:List Blk),m=5-j/\j<=5/\Hid (z=13+j)/\Hid (D=bU (an.take (13+j)))/\T'=[(49,.int .i64 (j:Int)),(48,.int .i64 5),(47,.sl [.str [99,114,101,97,116,101,100,65,116],.str [99,104,97,110,103,101,100,65,116],.str [112,119,100,70,97,105,108,117,114,101],.str [112,119,100,76,111,99,107,101,100],.str [112,119,100,67,104,97,110,103,101,100]] 5 (some 5)),(1,.ptr (L.length+1) 0),(0,.ptr L.length 0)]/\L'=L++(.cells [.sl [] 0 (some 0),.sl [] 0 (some 0)] :: .cells [.gsl D z (L.length+2) 4,.gsl [] 0 (L.length+3) 5] :: .spare z 4 :: .spare 0 5::X)) aoD ⟨0,13,_,[],rfl,aoz,hid rfl,hid (by rw[<- h11.o];rfl),rfl,rfl⟩ ?_;clear kk1 kk2 kk3 kk4 kk5 kk6 h11;rintro _ _ _ ⟨j,z,D,X,rfl,hj,hz,hD,rfl,rfl⟩;by_cases hlt:j<5;have g1:(j:Int)<5:=aoz;have g2:=ak9 j aoz;have hz1:z<=20:=by have:=hz.o;omega
 have hz2:z+1=13+(j+1):=by have:=hz.o;omega
 replace hz2:=hid hz2;have hj5:j=0\/j=1\/j=2\/j=3\/j=4:=aoz;clear hz;rcases hj5 with e|e|e|e|e;have e3:([.str [99,114,101,97,116,101,100,65,116],.str [99,104,97,110,103,101,100,65,116],.str [112,119,100,70,97,105,108,117,114,101],.str [112,119,100,76,111,99,107,101,100],.str [112,119,100,67,104,97,110,103,101,100]]:List AV).getD j .undef=.str [99,114,101,97,116,101,100,65,116]:=by rw[e];rfl
 have hD2:D++[.str [99,114,101,97,116,101,100,65,116],.int .i64 4,.bool true,.bool true]=bU (an.take (13+(j+1))):=by rw[hD.o,e];rfl
 replace hD2:=hid hD2;replace e:=hid e;clear hD;refine wk ?_;exact aoE aoz aoC ⟨j+1,z+1,_,_,rfl,hlt,hz2,hD2,rfl,rfl⟩;have e3:([.str [99,114,101,97,116,101,100,65,116],.str [99,104,97,110,103,101,100,65,116],.str [112,119,100,70,97,105,108,117,114,101],.str [112,119,100,76,111,99,107,101,100],.str [112,119,100,67,104,97,110,103,101,100]]:List AV).getD j .undef=.str [99,104,97,110,103,101,100,65,116]:=by rw[e];rfl
 have hD2:D++[.str [99,104,97,110,103,101,100,65,116],.int .i64 4,.bool true,.bool true]=bU (an.take (13+(j+1))):=by rw[hD.o,e];rfl
 replace hD2:=hid hD2;replace e:=hid e;clear hD;refine wk ?_;exact aoE aoz aoC ⟨j+1,z+1,_,_,rfl,hlt,hz2,hD2,rfl,rfl⟩;have e3:([.str [99,114,101,97,116,101,100,65,116],.str [99,104,97,110,103,101,100,65,116],.str [112,119,100,70,97,105,108,117,114,101],.str [112,119,100,76,111,99,107,101,100],.str [112,119,100,67,104,97,110,103,101,100]]:List AV).getD j .undef=.str [112,119,100,70,97,105,108,117,114,101]:=by rw[e];rfl
 have hD2:D++[.str [112,119,100,70,97,105,108,117,114,101],.int .i64 3,.bool false,.bool true]=bU (an.take (13+(j+1))):=by rw[hD.o,e];rfl
 replace hD2:=hid hD2;replace e:=hid e;clear hD;refine wk ?_;exact aoE aoz aoC ⟨j+1,z+1,_,_,rfl,hlt,hz2,hD2,rfl,rfl⟩;have e3:([.str [99,114,101,97,116,101,100,65,116],.str [99,104,97,110,103,101,100,65,116],.str [112,119,100,70,97,105,108,117,114,101],.str [112,119,100,76,111,99,107,101,100],.str [112,119,100,67,104,97,110,103,101,100]]:List AV).getD j .undef=.str [112,119,100,76,111,99,107,101,100]:=by rw[e];rfl
 have hD2:D++[.str [112,119,100,76,111,99,107,101,100],.int .i64 4,.bool true,.bool true]=bU (an.take (13+(j+1))):=by rw[hD.o,e];rfl
 replace hD2:=hid hD2;replace e:=hid e;clear hD;refine wk ?_;exact aoE aoz aoC ⟨j+1,z+1,_,_,rfl,hlt,hz2,hD2,rfl,rfl⟩;have e3:([.str [99,114,101,97,116,101,100,65,116],.str [99,104,97,110,103,101,100,65,116],.str [112,119,100,70,97,105,108,117,114,101],.str [112,119,100,76,111,99,107,101,100],.str [112,119,100,67,104,97,110,103,101,100]]:List AV).getD j .undef=.str [112,119,100,67,104,97,110,103,101,100]:=by rw[e];rfl
 have hD2:D++[.str [112,119,100,67,104,97,110,103,101,100],.int .i64 4,.bool true,.bool true]=bU (an.take (13+(j+1))):=by rw[hD.o,e];rfl
 replace hD2:=hid hD2;replace e:=hid e;clear hD;refine wk ?_;exact aoE aoz aoC ⟨j+1,z+1,_,_,rfl,hlt,hz2,hD2,rfl,rfl⟩;have g1:¬(j:Int)<5:=aoz;have hj5:j=5:=aoz;have hD2:D=bU an:=by rw[hD.o,hj5];rfl
 have hz2:z=an.length:=by rw[hz.o,hj5];rfl
 replace hD2:=hid hD2;replace hz2:=hid hz2;clear hz hD hj5;refine wk ?_;rw[hD2.o,hz2.o];refine aW ?_;simp only[AV.frz,AV.frzL,G2];refine ae ?_ h.o;simp only[AV.refs,AV.refsL,Xa,alX]
theorem gp:aj8 an:=by refine⟨by decide,λty h=>?_,λty h=>?_⟩;have:an.all (λt=>decide (t.1.length<=1000))=true:=aoB;have:=aln.1 this ty h;simp only[decide_eq_true_eq]at this;unfold aR;omega;have:an.all (λt=>decide (eF an t.1=some t))=true:=aoB;simpa using aln.1 this ty h
set_option maxRecDepth 100000
theorem Sl{r:AV}{Q:AV->List Blk->Prop}(i:Nat){c:List AV}(hL:L[i]?=some (.cells c))(h:Fin L0 r (L.set i (.cells (AV.frzL c))) Q):Fin L0 r L Q:=λw0 S0 E0 E w v h0 hn hw hR hv=>h w0 S0 E0 E w v h0 hn hw (hR.frzB hL) hv
def R8(e:aQ):List AV:=[.int .i64 e.1,atV e.2]
def bM(l:List aQ):List AV:=l.flatMap R8
theorem rp(l:List aQ):(bM l).length=l.length*2:=by
 induction l with
 |nil=>rfl
 |cons e l ih=>unfold bM at ih⊢;rw[amm,alw,ih];simp[R8];omega
theorem x0(l m:List aQ):bM (l++m)=bM l++bM m:=by unfold bM;rw[anF]
theorem rS:∀{l:List aQ}{k:Nat},k<l.length->((bM l).drop (k*2)).take 2=R8 (l.getD k (0,[]))
 |e::l,0,_=>by unfold bM;rw[amm];simp[R8]
 |e::l,k+1,h=>by have ih:=rS (l:=l) (k:=k) (by simpa using h);have:bM (e::l)=R8 e++bM l:=(by unfold bM;rw[amm]);rw[this,anp];show((bM l).drop (k*2)).take 2=_;rw[ih];rfl
def LR(L:List Blk)(rt:Nat)(s:List AV)(tm:TMp)(l:List aQ):Prop:=∃k2,L[rt]?=some (.cells (s++[.sl ((tm.map (·.1)).map AV.str) tm.length none,.sl (bM l) l.length k2]))
structure Uh(ts:List Typ)(tm:TMp):Prop where
 nd:(tm.map (·.1)).Nodup
 sub:∀f∈tm.map (·.1),f∈ts.map λt=>af t.1
theorem Xw{X:Type}[DecidableEq X]:∀{l m:List X},l.Nodup->(∀x∈l,x∈m)->l.length<=m.length
 |[],m,_,_=>aoA
 | a::l,m,h,hs=>by
   rw[ame]at h;have ha:=hs a aoA;have:=Xw (l:=l) (m:=m.erase a) h.2 λx hx=>(List.mem_erase_of_ne (λe:x=a=>h.1 (by rw[<- e];exact hx))).2 (hs x (by simp[hx]))
   have h2:=List.length_erase_of_mem ha;have h3:=List.length_pos_of_mem ha;simp only[alp];omega
theorem Uh.len{tm:TMp}(h:Uh ts tm):tm.length<=ts.length:=by have:=Xw h.nd h.sub;simpa using this
theorem Uh.add{tm:TMp}(h:Uh ts tm){n f:List UInt8}{ty:Typ}{c:Nat}(ht:eF ts n=some ty)(hf:af n=f)(hin:f∉tm.map (·.1)):Uh ts (tm++[(f,ty,c)]):=by refine⟨?_,λg hg=>?_⟩;rw[alM,anS];refine⟨h.nd,aoA,λa ha b hb e=>hin ?_⟩;simp only[alr,amH,alB]at hb;rw[<- hb,<- e];exact ha;rw[alM,alh]at hg;rcases hg with hg|hg;exact h.sub g hg;simp only[alr,amH,alB]at hg;rw[hg,<- hf];refine alg.2 ⟨ty,am6 ht,?_⟩;have:=anG ht;simpa using this
theorem ae5{capT:Option Nat}{c2:List AV}{n2:Nat}{cap2:Option Nat}{ns:List (List UInt8)}(hl:ts.length<=1100000)(hts:∀t∈ts,aR t.1)(hc2:AV.frzL c2=c2)(hnl:(ns.length:Int)<=9223372036854775807)(hn:∀n∈ns,aR n){R:Int×TMp}(hR:Mu ts [] ns=R)(h0:∀L',R.1≠0->bP (λ_=>False) L L'->K (.tup [.nilptr,.int .i64 R.1]) L')(h1:∀L' rt,R.1=0->LR L' rt [.sl (bU ts) ts.length none,.sl c2 n2 none] R.2 []->bP (λ_=>False) L L'->L.length<=rt->K (.tup [.ptr rt 0,.int .i64 0]) L'):
  alb 32 [.agg [.sl (bU ts) ts.length capT,.sl c2 n2 cap2],.sl (ns.map AV.str) ns.length cap] L K:=by
 have kA:Hid (∀{n:List UInt8},aR n->∀{L:List Blk}{K:alc},(eF ts n=none->K (.int .i64 (-1)) L)->(∀k:Nat,k<ts.length->eF ts n=some (ts.getD k lI)->K (.int .i64 k) L)->alb 12 [.sl (bU ts) ts.length capT,.str n] L K):=@hid _ (λ{n} h {L K} q1 q2=>aiJ hl hts h q1 q2);have hfz:=G2 ts;replace hR:=hid hR;replace hn:=hid hn;replace h0:=hid h0;replace h1:=hid h1;clear hts;replace hl:=hid hl;obtain⟨TS,hTS⟩:=ak7 (bU ts);obtain⟨tl,htl⟩:=ak7 (ts.length);rw[hTS,htl]at kA⊢;rw[hTS]at hfz;refine ala Wa ?_;refine LT (L.length+1) 2 1 (c:=[.sl TS tl capT,.sl c2 n2 cap2,.sl [] 0 (some 0),.sl [] 0 (some 0)]) (l:=[]) (n:=0) (by rw[alH aoz];simp) rfl rfl ?_;refine ahi (L':=L++(.cells [.sl TS tl capT,.sl c2 n2 cap2] :: .cells [.sl TS tl capT,.sl c2 n2 cap2,.gsl [] 0 (L.length+2) 1,.sl [] 0 (some 0)]::[.spare 0 1])) (by rw[al4 _ _ aoz,show L.length+1-L.length=1 by omega];simp) ?_
 refine ah (λm T' L'=>∃(i:Nat) (tm:TMp) (C:List AV) (X:List Blk),m=ns.length-i/\i<=ns.length/\Hid (Mu ts tm (ns.drop i)=R)/\Hid (C=(tm.map (·.1)).map AV.str)/\Hid (Uh ts tm)/\T'=[(14,.int .i64 (i:Int)),(13,.int .i64 ns.length),(12,.sl (ns.map AV.str) ns.length cap),(6,.ptr (L.length+1) 0),(2,.ptr L.length 0)]/\L'=L++(.cells [.sl TS tl capT,.sl c2 n2 cap2] :: .cells [.sl TS tl capT,.sl c2 n2 cap2,.gsl C tm.length (L.length+2) 1,.sl [] 0 (some 0)] :: .spare tm.length 1::X)) aoD ⟨0,[],[],[],rfl,ali _,hid (by simpa using hR.o),hid rfl,hid ⟨aoA,aoA⟩,rfl,rfl⟩ ?_;rintro _ _ _ ⟨i,tm,C,X,rfl,hi,hr,hC,hti,rfl,rfl⟩;have e1:∀(a b c:Blk) (X:List Blk),(L++a::b::c::X)[L.length+1]?=some b:=λa b c X=>by rw[alH aoz];simp
 have e2:∀(a b c d:Blk) (X:List Blk),(L++a::b::c::X).set (L.length+1) d=L++a::d::c::X:=λa b c d X=>by rw[al4 _ _ aoz];simp
 have e3:∀(a b c:Blk) (X:List Blk),(L++a::b::c::X)[L.length+2]?=some c:=λa b c X=>by rw[alH aoz];simp
 have e4:∀(a b c d:Blk) (X:List Blk),(L++a::b::c::X).set (L.length+2) d=L++a::b::d::X:=λa b c d X=>by rw[al4 _ _ aoz];simp
 by_cases hlt:i<ns.length;have j1:(i:Int)<(ns.length:Int):=aoz;have j2:=ak9 i aoz;have j3:(ns.map AV.str).getD i .undef=.str (ns.getD i []):=by simp[hlt]
 have j4:i<(ns.map AV.str).length:=by simpa using hlt
 obtain⟨n,hn1⟩:=ak7 (ns.getD i []);have hrn:aR n:=hn.o n (by rw[<- hn1];simp[hlt]);have hdr:ns.drop i=n::ns.drop (i+1):=by rw[al1 hlt,<- hn1];simp[hlt]
 rw[hn1]at j3;have hr2:=hr.o;rw[hdr,Mu]at hr2;clear hr hn1 hdr;obtain⟨NS,hNS⟩:=ak7 (ns.map AV.str);rw[hNS]at j3 j4⊢;replace hNS:=hid hNS;obtain⟨f,hf⟩:=ak7 (af n);rw[hf]at hr2;have kk1:Hid (Ctr Tryz.prog 39 [.str n] (.str f)):=@hid _ (by intro L K q;exact bQ hrn (by rw[hf];exact q));have htb:tm.length<=1100000:=alF hti.o.len hl.o;rcases hty:eF ts n with _|ty;have kk2:Hid (Ctr Tryz.prog 12 [.sl TS tl capT,.str n] (.int .i64 (-1))):=@hid _ (λ{L K} q=>kA.o hrn (λ_=>q) (λk _ e=>by rw[hty]at e;cases e));rw[hty]at hr2;simp only at hr2;have hfin:=hid (h0.o (L++(.cells [.sl TS tl capT,.sl c2 n2 cap2] :: .cells [.sl TS tl capT,.sl c2 n2 cap2,.gsl C tm.length (L.length+2) 1,.sl [] 0 (some 0)] :: .spare tm.length 1::X)) (by rw[<- hr2];simp) (bP.app _ _));rw[<- hr2]at hfin;clear hr2 hty hR;refine wk ?_;exact aa hfin.o;have kB:Hid (∀{L:List Blk}{K:alc},(∀k:Nat,K (.int .i64 k) L)->alb 12 [.sl TS tl capT,.str n] L K):=@hid _ (λ{L K} q=>kA.o hrn (λe=>by rw[hty]at e;cases e) (λk _ _=>q k));rw[hty]at hr2;simp only at hr2;have hty2:=hid hty;clear hty;refine wk ?_;refine kB.o λk=>?_
 have hk0:¬(k:Int)<0:=aoz;have kH:∀b:Bool,decide (f∈tm.map (·.1))=b->Hid (∀{L:List Blk}{K:alc}{j:Nat},K (.bool b) L->alb 82 [.gsl C tm.length j 1,.str f] L K):=λb hb=>@hid _ (λ{L K j} q=>by refine fI ?_;have:=acq (xs:=tm.map (·.1)) (cap:=none) (s:=f) (by simp;omega) (L:=L) (K:=K) (by rw[al8,hb];exact q);rw[alU]at this;simp only[AV.frzL,AV.frz,hC.o,eB];exact this)
 by_cases hin:f∈tm.map (·.1);have kk2:=@kH true (decide_eq_true hin);rw[if_pos hin]at hr2;have hfin:=hid (h0.o (L++(.cells [.sl TS tl capT,.sl c2 n2 cap2] :: .cells [.sl TS tl capT,.sl c2 n2 cap2,.gsl C tm.length (L.length+2) 1,.sl [] 0 (some 0)] :: .spare tm.length 1::X)) (by rw[<- hr2];simp) (bP.app _ _));rw[<- hr2]at hfin;clear hr2 hR kH kB hin;refine wk ?_;exact aa hfin.o;have kk2:=@kH false (decide_eq_false hin);rw[if_neg hin]at hr2;replace hr2:=hid hr2;have hC2:=hid (show C++[.str f]=((tm++[(f,ty,tm.length)]).map (·.1)).map AV.str by rw[hC.o];simp);have hlen:=hid (show(tm++[(f,ty,tm.length)]).length=tm.length+1 by simp);have hti2:=hid (show Uh ts (tm++[(f,ty,tm.length)])from hti.o.add hty2.o hf hin);clear hR kH kB hin;refine wk ?_;rw[<- hNS.o];refine aoE aoz aoC ⟨i+1,tm++[(f,ty,tm.length)],_,X,rfl,hlt,hr2,hC2,hti2,rfl,?_⟩;rw[hlen.o];have hie:i=ns.length:=aoz;subst hie;have j1:¬(ns.length:Int)<(ns.length:Int):=aoz;have hr2:=hr.o;rw[alY,Mu]at hr2;have hfin:=hid (h1.o (L++(.cells [.sl TS tl capT,.sl c2 n2 cap2] :: .cells [.sl TS tl none,.sl c2 n2 none,.sl C tm.length none,.sl [] 0 none] :: .spare tm.length 1::X)) (L.length+1) (by rw[<- hr2]) ⟨none,by rw[e1,<- hr2,hTS,htl,hC.o];rfl⟩ (bP.app _ _) aoz)
 have hCf:AV.frzL C=C:=by rw[hC.o];exact eB _
 clear hr2 hr hR hC;refine wk ?_;refine Sl (L.length+1) (e1 _ _ _ _) ?_;rw[e2];simp only[AV.frzL,AV.frz,hfz,hc2,hCf];exact aa hfin.o
theorem XU(l:List aQ):AV.frzL (bM l)=bM l:=by
 induction l with
 |nil=>rfl
 | cons e l ih =>
   have:bM (e::l)=R8 e++bM l:=(by unfold bM;rw[amm]);rw[this,AV.frzL_eq,alM,<- AV.frzL_eq,<- AV.frzL_eq,ih];simp only[R8,AV.frzL,AV.frz,atV,lW]
theorem adl{a b c:AV}{k2:Option Nat}(hl:l.length<=1000000)(hL:L[rt]?=some (.cells [a,b,c,.sl (bM l) l.length k2]))(ha:a.frz=a)(hb:b.frz=b)(hc:c.frz=c){id:Int}(h:∀L' k,L'[rt]?=some (.cells [a,b,c,.sl (bM (cG id l)) (cG id l).length k])->bP (λi=>i=rt) L L'->K (.tup []) L'):
  alb 36 [.ptr rt 0,.int .i64 id] L K:=by
 have hrl:=(ald.1 hL).1;have ar:∀X,(L++X)[rt]?=some (.cells [a,b,c,.sl (bM l) l.length k2]):=λX=>by rw[alm hrl];exact hL
 have sr:∀(X:List Blk) d,(L++X).set rt d=L.set rt d++X:=λX d=>ama _ _ hrl
 have hel:=rp l;have hat:=hid (λk (q:k<l.length)=>rS q);have hat2:=hid (λk (q:k<l.length)=>show cG id (l.take (k+1))=cG id (l.take k)++(if(l.getD k (0,[])).1≠id then[l.getD k (0,[])]else[])by rw[aly q];unfold cG;rw[am5];congr 1;by_cases e:l[k].1=id<;>simp[q,e])
 have hfin:=hid (show ∀k L2,K (.tup []) (L.set rt (.cells [a,b,c,.sl (bM (cG id l)) (cG id l).length k])++L2)from λk L2=>h _ k (by rw[alm (by simpa using hrl),amf hrl]) ((bP.set (B:=λi=>i=rt) L (.inl rfl) _).trans (bP.app (B:=λ_=>False) _ _) λi _ e=>e.elim));obtain⟨ES,hES⟩:=ak7 (bM l);rw[hES]at ar hel hat hL;clear h hES;refine ala GY ?_;refine bt (l:=[]) (n:=0) 4 2 rfl (alG 2).symm ?_;refine ah (λm T' L'=>∃(i:Nat) (C:List AV) (k:Nat) (X:List Blk),m=l.length-i/\i<=l.length/\Hid (C=bM (cG id (l.take i))/\k=(cG id (l.take i)).length)/\T'=[(12,.int .i64 (i:Int)),(11,.int .i64 l.length),(10,.sl ES l.length k2),(4,.gsl C k L.length 2),(0,.ptr rt 0),(1,.int .i64 id)]/\L'=L++(.spare k 2::X)) aoD ⟨0,[],0,[],rfl,ali _,hid ⟨rfl,rfl⟩,rfl,rfl⟩ ?_;clear hL;rintro _ _ _ ⟨i,C,k,X,rfl,hi,hC,rfl,rfl⟩;by_cases hlt:i<l.length;have j1:(i:Int)<(l.length:Int):=aoz;have j2:=ak9 i aoz;have e3:=hat.o i hlt;have e4:i*2+2<=ES.length:=by rw[hel];omega
 have e5:=hat2.o i hlt;obtain⟨⟨x,av⟩,hx⟩:∃e,l.getD i (0,[])=e:=⟨_,rfl⟩;rw[hx]at e3 e5;simp only[R8]at e3;simp only at e5;have hkb:k<=1000000:=by rw[hC.o.2];have:=amQ (λe:aQ=>decide (e.1≠id)) (l.take i);rw[amJ]at this;unfold cG;omega
 have hef:AV.frzL (bp av)=bp av:=lW av;by_cases hq:x=id;rw[if_neg (by simpa using hq),alJ]at e5;have hC2:=hid (show C=bM (cG id (l.take (i+1)))/\k=(cG id (l.take (i+1))).length by rw[e5];exact hC.o);subst hq;clear hx e5;refine wk ?_;exact aoE aoz aoC ⟨i+1,_,_,_,rfl,hlt,hC2,rfl,rfl⟩;rw[if_pos hq]at e5;have hC2:=hid (show C++[.int .i64 x,.sl (bp av) av.length none]=bM (cG id (l.take (i+1)))/\k+1=(cG id (l.take (i+1))).length by rw[e5,x0,hC.o.1,alw,hC.o.2];exact⟨rfl,rfl⟩)
 clear hx e5;refine wk ?_;exact aoE aoz aoC ⟨i+1,_,_,_,rfl,hlt,hC2,rfl,rfl⟩;have hie:i=l.length:=aoz;subst hie;have j1:¬(l.length:Int)<(l.length:Int):=aoz;obtain⟨hC1,hC2⟩:=hC.o;rw[alt]at hC1 hC2;have hCf:AV.frzL C=C:=by rw[hC1];exact XU _
 have hf2:=hid (λX=>hfin.o none X);rw[<- hC1,<- hC2]at hf2;clear hC hC1 hC2 hfin hat hat2;refine wk ?_;refine d6 rfl trivial (Sl rt (by rw[alm (by simpa using hrl),amf hrl]) ?_);rw[ama _ _ (by simpa using hrl),amC];simp only[AV.frzL,AV.frz,ha,hb,hc,hCf];exact aa (hf2.o _)
theorem adI{x e:aQ}{t:List aQ}(h:¬x.1<e.1)(l:List aQ):l++lK x (e::t)=(l++[e])++lK x t:=by rw[lK,if_neg h];simp
theorem ae0{a b c:AV}{k2:Option Nat}(hl:l.length<=900000)(hL:L[rt]?=some (.cells [a,b,c,.sl (bM l) l.length k2]))(ha:a.frz=a)(hb:b.frz=b)(hc:c.frz=c){id:Int}{v:List Atr}(hv:v.length<=1100000)(hz:∀a∈v,a.2.length<=1100000)(h:∀L' k,L'[rt]?=some (.cells [a,b,c,.sl (bM (GR id v l)) (GR id v l).length k])->bP (λi=>i=rt) L L'->K (.tup []) L'):
  alb 37 [.ptr rt 0,.int .i64 id,.sl (bp v) v.length cap] L K:=by
 have kD:Hid (∀{K:alc},(∀L' k,Hid (L'[rt]?=some (.cells [a,b,c,.sl (bM (cG id l)) (cG id l).length k])/\bP (λi=>i=rt) L L')->K (.tup []) L')->alb 36 [.ptr rt 0,.int .i64 id] L K):=@hid _ (λ{K} q=>adl aoz hL ha hb hc λL' k q1 q2=>q L' k (hid ⟨q1,q2⟩));have kk1:Hid (Ctr Tryz.prog 86 [.sl (bp v) v.length cap] (.sl (bp v) v.length none)):=@hid _ (λ{L K} q=>ahM hv hz q);have hvf:AV.frzL (bp v)=bp v:=lW v;have hdl:(cG id l).length<=900000:=alF (amQ _ _) hl;unfold GR at h;obtain⟨m,hm⟩:=ak7 (cG id l);rw[hm]at h hdl kD;replace h:=hid h;clear hL hm hl hv hz;refine ala Lx ?_;refine kD.o λL1 k1 hD=>?_
 clear kD;have hL:=hD.o.1;have hrl:=(ald.1 hL).1;have ar:∀X,(L1++X)[rt]?=some (.cells [a,b,c,.sl (bM m) m.length k1]):=λX=>by rw[alm hrl];exact hL
 have sr:∀(X:List Blk) d,(L1++X).set rt d=L1.set rt d++X:=λX d=>ama _ _ hrl
 have hel:=rp m;have hat:=hid (λk (q:k<m.length)=>rS q);have hfin:=hid (show ∀k L2,K (.tup []) (L1.set rt (.cells [a,b,c,.sl (bM (lK (id,v) m)) (lK (id,v) m).length k])++L2)from λk L2=>h.o _ k (by rw[alm (by simpa using hrl),amf hrl]) (hD.o.2.trans ((bP.set (B:=λi=>i=rt) L1 (.inl rfl) _).trans (bP.app (B:=λ_=>False) _ _) λi _ e=>e.elim) λi _ e=>e));obtain⟨ES,hES⟩:=ak7 (bM m);rw[hES]at ar hel hat hL;clear h hD;refine wk ?_;refine bt (l:=[]) (n:=0) 6 2 rfl (alG 2).symm ?_;refine ah (λn T' L'=>∃(i:Nat) (out:List aQ) (C:List AV) (k:Nat) (dn:Bool) (X:List Blk),n=m.length-i/\i<=m.length/\Hid (C=bM out/\k=out.length/\k<=i+1/\(dn=false->k<=i))/\Hid (if dn=true then out++m.drop i=lK (id,v) m else out++lK (id,v) (m.drop i)=lK (id,v) m)/\T'=[(18,.int .i64 (i:Int)),(17,.int .i64 m.length),(16,.sl ES m.length k1),(6,.gsl C k L1.length 2),(7,.bool dn),(0,.ptr rt 0),(1,.int .i64 id),(2,.sl (bp v) v.length cap)]/\L'=L1++(.spare k 2::X)) aoD ⟨0,[],[],0,false,[],rfl,ali _,hid ⟨rfl,rfl,aoz,λ_=>ale _⟩,hid aoA,rfl,rfl⟩ ?_;clear hL;rintro _ _ _ ⟨i,out,C,k,dn,X,rfl,hi,hC,hI,rfl,rfl⟩;by_cases hlt:i<m.length;have j1:(i:Int)<(m.length:Int):=aoz;have j2:=ak9 i aoz;have e3:=hat.o i hlt;have e4:i*2+2<=ES.length:=by rw[hel];omega
 have hdr:m.drop i=m.getD i (0,[])::m.drop (i+1):=by rw[al1 hlt];simp[hlt]
 obtain⟨⟨x,av⟩,hx⟩:∃e,m.getD i (0,[])=e:=⟨_,rfl⟩;rw[hx]at e3 hdr;simp only[R8]at e3;have hkb:k<=1000000:=by have:=hC.o.2.2.1;omega
 have hkb2:k+1<=1000000:=by have:=hC.o.2.2.1;omega
 have hef:AV.frzL (bp av)=bp av:=lW av;have hI2:=hI.o;rw[hdr]at hI2;cases dn with
 | true =>
   simp only[if_true]at hI2;have hC2:=hid (show C++[.int .i64 x,.sl (bp av) av.length none]=bM (out++[(x,av)])/\k+1=(out++[(x,av)]).length/\k+1<=i+1+1/\(true=false->k+1<=i+1)by have h1:=hC.o.2.2.1;rw[x0,hC.o.1,alw];refine⟨rfl,by rw[hC.o.2.1];rfl,aoz,λe=>by cases e⟩)
   have hI3:=hid (show(if true=true then(out++[(x,av)])++m.drop (i+1)=lK (id,v) m else(out++[(x,av)])++lK (id,v) (m.drop (i+1))=lK (id,v) m)by simpa using hI2);clear hx hdr hI hI2 hkb2;refine wk ?_;exact aoE aoz aoC ⟨i+1,_,_,_,true,_,rfl,hlt,hC2,hI3,rfl,rfl⟩
 | false =>
   simp only[alx,if_false]at hI2;by_cases hq:id<x
   .rw[lK,if_pos hq]at hI2;have hC2:=hid (show C++[.int .i64 id,.sl (bp v) v.length none,.int .i64 x,.sl (bp av) av.length none]=bM (out++[(id,v),(x,av)])/\k+1+1=(out++[(id,v),(x,av)]).length/\k+1+1<=i+1+1/\(true=false->k+1+1<=i+1)by have h1:=hC.o.2.2.2 rfl;rw[x0,hC.o.1,alw];refine⟨rfl,by rw[hC.o.2.1];rfl,aoz,λe=>by cases e⟩)
    have hI3:=hid (show(if true=true then(out++[(id,v),(x,av)])++m.drop (i+1)=lK (id,v) m else(out++[(id,v),(x,av)])++lK (id,v) (m.drop (i+1))=lK (id,v) m)by simpa using hI2);clear hx hdr hI hI2;refine wk ?_;exact aoE aoz aoC ⟨i+1,_,_,_,true,_,rfl,hlt,hC2,hI3,rfl,rfl⟩
   .rw[adI hq]at hI2;have hC2:=hid (show C++[.int .i64 x,.sl (bp av) av.length none]=bM (out++[(x,av)])/\k+1=(out++[(x,av)]).length/\k+1<=i+1+1/\(false=false->k+1<=i+1)by have h1:=hC.o.2.2.2 rfl;rw[x0,hC.o.1,alw];refine⟨rfl,by rw[hC.o.2.1];rfl,aoz,λ_=>aoz⟩)
    have hI3:=hid (show(if false=true then(out++[(x,av)])++m.drop (i+1)=lK (id,v) m else(out++[(x,av)])++lK (id,v) (m.drop (i+1))=lK (id,v) m)by simpa using hI2);clear hx hdr hI hI2 hkb2;refine wk ?_;exact aoE aoz aoC ⟨i+1,_,_,_,false,_,rfl,hlt,hC2,hI3,rfl,rfl⟩
 have hie:i=m.length:=aoz;subst hie;have j1:¬(m.length:Int)<(m.length:Int):=aoz;have hI2:=hI.o;rw[alY]at hI2;obtain⟨hC1,hC2,hC3,hC4⟩:=hC.o;have hkb:k<=1000000:=aoz;have hCf:AV.frzL C=C:=by rw[hC1];exact XU _
 cases dn with
 | true =>
   simp only[if_true,alJ]at hI2;have hf2:=hid (λX=>hfin.o none X);rw[<- hI2,<- hC1,<- hC2]at hf2;clear hC hC1 hC2 hC3 hC4 hfin hat hI hI2;refine wk ?_;refine d6 rfl trivial (Sl rt (by rw[alm (by simpa using hrl),amf hrl]) ?_);rw[ama _ _ (by simpa using hrl),amC];simp only[AV.frzL,AV.frz,ha,hb,hc,hCf];exact aa (hf2.o _)
 | false =>
   simp only[alx,if_false,lK]at hI2;have hf2:=hid (λX=>hfin.o none X);rw[<- hI2,x0,alw,<- hC1,<- hC2]at hf2;have hCf2:AV.frzL (C++[.int .i64 id,.sl (bp v) v.length none])=C++[.int .i64 id,.sl (bp v) v.length none]:=by rw[AV.frzL_eq,alM,<- AV.frzL_eq,hCf,<- AV.frzL_eq];simp only[AV.frzL,AV.frz,hvf]
   clear hC hC1 hC2 hC3 hC4 hfin hat hI hI2;refine wk ?_;refine d6 rfl trivial (Sl rt (by rw[alm (by simpa using hrl),amf hrl]) ?_);rw[ama _ _ (by simpa using hrl),amC];simp only[AV.frzL,AV.frz,ha,hb,hc,hCf2];exact aa (hf2.o _)
theorem ajn{P:Program}{f:FuncId}{b:Bool}(h:ad P f [] [] λv _=>v=.bool b)(hk:K (.bool b) L):ad P f [] L K:=λw0 S0 E w vs hR hv=>by
 have hR0:Rel w ⟨λ_=>False,0⟩ {mem:=E.mem,loc:=λ_=>none,tok:=λ_=>none} [] w:=by
  refine⟨hR.mem,?_,λ_ _=>rfl,?_,?_,λ_ _=>rfl,?_,?_,?_,λ_ _ _=>rfl,ale _,rfl,rfl,rfl,hR.glob,hR.gsz⟩
  all_goals intros;simp_all
 have key:∀{E':Env}{L':List Blk}{w':World},Rel w ⟨λ_=>False,0⟩ E' L' w'->tP w w':=λk=>⟨λb hb=>k.frame b hb (λx=>x),k.size,k.os,k.tape,k.output⟩
 have hv0:VRL {mem:=E.mem,loc:=λ_=>none,tok:=λ_=>none} [] vs:=by simpa only[VRL]using hv
 rcases h w _ _ w vs hR0 hv0 with⟨h1,h2⟩|⟨E',v,av,L',w',h1,h2,h3,h4,h5⟩;refine .inl ⟨h1,h2.mono λe w' ⟨E',v,av,L',a,b,c,d,r⟩=>⟨E,v,_,L,a,.refl E,hk,?_,hR.grown (key r)⟩⟩;subst c;simpa only[VR]using d;refine .inr ⟨E,v,_,L,w',h1,.refl E,hk,?_,hR.grown (key h5)⟩;subst h3;simpa only[VR]using h4
abbrev cnS:List UInt8:=[99,110]
abbrev Uj:TMp:=(Mu an [] [cnS]).2
theorem aiO:Mu an [] [cnS]=(0,Uj):=aoB
theorem aiP(b:List UInt8)(h:b.length<=4):p8 [(cnS,[b])]:=⟨aoA,by simp[lX],λx hx=>by rw[alB.1 hx];exact⟨by show aR cnS;unfold aR;decide,aoA⟩⟩
theorem agX:cW Uj Uj.length/\∀e∈Uj,aR e.1:=by have h:=Yw (ts:=an) (ns:=[cnS]) (TmS.nil _) (λn hn=>by rw[alB.1 hn];unfold aR;decide);refine⟨h.ok,λe he=>?_⟩;obtain⟨n,_,h2,h3⟩:=h.ty e he;rw[<- h2];unfold aR at h3⊢;rw[Mj];exact h3
def ahg(a:List Atr):Prop:=(a.length:Int)<=9223372036854775807/\∀x∈a,aR x.1/\(x.2.length:Int)<=9223372036854775807
structure Y7(l:List aQ):Prop where
 len:(l.length:Int)<=9223372036854775807
 at':∀e∈l,ahg e.2
 id:∀e∈l,-9223372036854775808<=e.1/\e.1<=9223372036854775807
structure gL(L0 L:List Blk)(it rt:Nat)(tm:TMp)(l:List aQ)(B:Nat->Prop):Prop where
 ix:IxO L it tm l B
 doc:LR L rt [.sl (bU an) an.length none,.sl Lt 9 none] tm l
 tms:TmS an tm
 ents:∀e∈l,InA an e.2/\p8 e.2
 ids:∀e∈l,-9223372036854775808<=e.1/\e.1<=9223372036854775807
 apart:¬B rt
 bes:bP (λ_=>False) L0 L
 own:∀i,B i->L0.length<=i
 rtl:L0.length<=rt
theorem TmS.ixg{tm:TMp}(h:TmS an tm)(he:∀e∈l,InA an e.2/\p8 e.2):IxG tm l:=⟨h.ok,λe hm=>by obtain⟨n,_,h2,h3⟩:=h.ty e hm;rw[<- h2];unfold aR at h3⊢;rw[Mj];exact h3,λe hm=>(he e hm).2⟩
theorem ZT(x:aQ):∀l:List aQ,(lK x l).length=l.length+1
 |[]=>rfl
 | e::t=>by
   rw[lK];split
   .rfl
   .rw[alp,ZT x t,alp]
theorem afm(id:Int)(a:List Atr)(l:List aQ):(GR id a l).length<=l.length+1:=by unfold GR;rw[ZT];have:(cG id l).length<=l.length:=amQ _ _;omega
theorem gL.drop{L1 L2:List Blk}{tm:TMp}{l':List aQ}{B':Nat->Prop}(h:gL L0 L it rt tm l B)(h1:IxO L1 it tm l' B')(b1:bP B L L1)(o1:∀i,B' i->B i\/L.length<=i)(he:∀e∈l',InA an e.2/\p8 e.2)(hi:∀e∈l',-9223372036854775808<=e.1/\e.1<=9223372036854775807)(hd:LR L2 rt [.sl (bU an) an.length none,.sl Lt 9 none] tm l')(b2:bP (λi=>i=rt) L1 L2):gL L0 L2 it rt tm l' B':=by
 have hrl:rt<L.length:=by obtain⟨k2,hk⟩:=h.doc;exact(ald.1 hk).1
 have ap:¬B' rt:=λe=>by rcases o1 rt e with q|q;exact h.apart q;omega
 refine⟨h1.keep b2 λi hi e=>ap (by rw[<- e];exact hi),hd,h.tms,he,hi,ap,?_,λi hi=>?_,h.rtl⟩;refine(h.bes.trans b1 λi hi e=>?_).trans b2 λi hi e=>?_
 exact absurd (h.own i e) aoz;have:=h.rtl;omega;rcases o1 i hi with q|q;exact h.own i q;exact alF h.bes.len q
theorem gL.app{tm:TMp}(h:gL L0 L it rt tm l B)(X:List Blk):gL L0 (L++X) it rt tm l B:=by obtain⟨k2,hk⟩:=h.doc;exact⟨h.ix.app X,⟨k2,ak8 hk⟩,h.tms,h.ents,h.ids,h.apart,h.bes.app2 X,h.own,h.rtl⟩
theorem gL.base{L0':List Blk}{tm:TMp}(h:gL L0' L it rt tm l B)(hb:bP (λ_=>False) L0 L0'):gL L0 L it rt tm l B :=
 ⟨h.ix,h.doc,h.tms,h.ents,h.ids,h.apart,hb.trans h.bes (λ_ _ e=>e),λi hi=>alF hb.len (h.own i hi),alF hb.len h.rtl⟩
theorem aia{l:List Atr}(hl:aad l=true)(hz:(yr an [] l).2=0):InA an (yr an [] l).1/\p8 (yr an [] l).1:=by obtain⟨f1,f2⟩:=acu hl;have hi:=acg (ajA an) hz;obtain⟨b1,b2⟩:=afL (ts:=an) (B:=60) (l:=l) (out:=[]) (i:=0) aoA aoA (λa ha=>(f2 a ha).1);refine⟨hi,aoz,hi.1,λx hx=>⟨?_,?_⟩⟩;obtain⟨ty,h1,h2,_⟩:=hi.2 x hx;rw[<- h2];exact gp.2.1 ty (am6 h1);have h1:=b2 x hx;have:60*(0+l.length)<=60*60:=Nat.mul_le_mul_left _ aoz;omega
theorem afM{ns:List (List UInt8)}{acts:List aQ}{capA:Option Nat}(hn:∀n∈ns,aR n)(hnl:(ns.length:Int)<=9223372036854775807)(ha:Y7 acts)(h0:∀L',bP (λ_=>False) L L'->K (.tup [.nilptr,.nilptr]) L')(h1:∀L' it rt tm l B,Mu an [] ns=(0,tm)->gL L L' it rt tm l B->l.length<=40->K (.tup [.ptr it 0,.ptr rt 0]) L'):
  alb 24 [.sl (ns.map AV.str) ns.length cap,.sl (bM acts) acts.length capA] L K:=by
 obtain⟨R,hR⟩:=ak7 (Mu an [] ns);have hts:=Yw (ts:=an) (ns:=ns) (TmS.nil _) hn;rw[hR]at hts;obtain⟨x,hx⟩:=ak7 (bU an);obtain⟨m,hm⟩:=ak7 (an.length);obtain⟨y,hy⟩:=ak7 (Lt);have kk1:Hid (Ctr Tryz.prog 20 [] (.agg [.sl x m none,.sl y 9 none])):=hid λq=>agG (by rw[hx,hm,hy];exact q)
 have hyf:AV.frzL y=y:=by rw[<- hy];rfl
 have hxf:AV.frzL x=x:=by rw[<- hx];exact G2 _
 have kM:∀l:List Atr,aad l=true->ahg l->Hid (Ctr Tryz.prog 34 [.agg [.sl x m none,.sl y 9 none],.sl (bp l) l.length none] (.tup [.sl (bp (yr an [] l).1) (yr an [] l).1.length none,.int .i64 (yr an [] l).2])):=λl hl hr=>@hid _ (λ{L K} q=>by obtain⟨f1,f2⟩:=acu hl;rw[<- hx,<- hm];exact ahR gp aoz (λa ha=>⟨(hr.2 a ha).1,by have:=(f2 a ha).1;omega⟩) rfl q)
 have kF:∀l:List Atr,ahg l->Hid (Ctr Tryz.prog 33 [.sl (bp l) l.length none] (.bool (aad l))):=λl hr=>@hid _ (λ{L K} q=>akA hr.1 (λa ha=>(hr.2 a ha).2) q)
 have kN:Hid (∀{L:List Blk}{K:alc},(∀L',R.1≠0->bP (λ_=>False) L L'->K (.tup [.nilptr,.int .i64 R.1]) L')->(∀L' it B,R.1=0->Hid (IxO L' it R.2 [] B/\bP (λ_=>False) L L'/\∀i,B i->L.length<=i)->K (.tup [.ptr it 0,.int .i64 0]) L')->alb 19 [.agg [.sl x m none,.sl y 9 none],.sl (ns.map AV.str) ns.length cap] L K):=@hid _ (λ{L K} q0 q1=>by rw[<- hx,<- hm];exact ack gp.1 gp.2.1 aoz hn hR q0 λL' it B e g1 g2 g3=>q1 L' it B e (hid ⟨g1,g2,g3⟩))
 have kR:Hid (∀{L:List Blk}{K:alc},(∀L',R.1≠0->bP (λ_=>False) L L'->K (.tup [.nilptr,.int .i64 R.1]) L')->(∀L' rt,R.1=0->Hid (LR L' rt [.sl (bU an) an.length none,.sl Lt 9 none] R.2 []/\bP (λ_=>False) L L'/\L.length<=rt)->K (.tup [.ptr rt 0,.int .i64 0]) L')->alb 32 [.agg [.sl x m none,.sl y 9 none],.sl (ns.map AV.str) ns.length cap] L K):=@hid _ (λ{L K} q0 q1=>by rw[<- hx,<- hm];exact ae5 gp.1 gp.2.1 hyf aoz hn hR q0 λL' rt e g1 g2 g3=>q1 L' rt e (hid ⟨by rw[hy];exact g1,g2,g3⟩))
 have hel:=rp acts;have hat:=hid (λk (q:k<acts.length)=>rS q);obtain⟨ES,hES⟩:=ak7 (bM acts);rw[hES]at hel hat⊢;replace h0:=hid h0;replace h1:=hid h1;replace ha:=hid ha;replace hts:=hid hts;obtain⟨z,tm⟩:=R;simp only at kN kR hts;have hcl:=hid hR;clear hR hn hnl hES;by_cases hz:z=0;rotate_left;have hz1:¬(z:Int)=0:=hz;refine ala GK ?_;refine kN.o (λL1 _ u1=>?_) (λ_ _ _ e=>absurd e hz);have hb1:Hid (bP (λ_=>False) L L1/\L1[L.length]?=some (.cells [.sl x m none,.sl y 9 none])):=hid ⟨(bP.app (B:=λ_=>False) L _).trans u1 (λ_ _ e=>e),u1.get aoA (λe=>e)⟩;clear u1;have hx7:=hb1.o.2;refine wk ?_;refine kR.o (λL2 _ u2=>?_) (λ_ _ e=>absurd e hz);have h0':=hid (λX=>h0.o (L2++X) ((hb1.o.1.trans u2 (λ_ _ e=>e)).app2 X));clear u2 hb1 hx7 kN kR L1;refine wk ?_;exact aa (by simpa using h0'.o [])
 .subst hz;obtain⟨L0,hL0⟩:=ak7 (L++[Blk.cells [.sl x m none,.sl y 9 none]]);have hb0:=hid (show bP (λ_=>False) L L0 by rw[<- hL0];exact bP.app _ _);have hx0:L0[L.length]?=some (.cells [.sl x m none,.sl y 9 none]):=(by rw[<- hL0];simp);replace hL0:=hid hL0;refine ala GK ?_;rw[hL0.o];refine kN.o (λ_ e _=>absurd rfl e) (λL1 it B _ u1=>?_);have hx1:L1[L.length]?=some (.cells [.sl x m none,.sl y 9 none]):=u1.o.2.1.get hx0 (λe=>e);refine wk ?_;refine kR.o (λ_ e _=>absurd rfl e) (λL2 rt _ u2=>?_);have hM0:Hid (gL L0 L2 it rt tm [] B):=hid (by obtain⟨v1,v2,v3⟩:=u1.o;obtain⟨w1,w2,w3⟩:=u2.o;refine⟨v1.keep w2 (λ_ _ e=>e),w1,hts.o,λe he=>(by cases he),λe he=>(by cases he),λe=>?_,v2.trans w2 (λ_ _ e=>e),v3,alF v2.len w3⟩;have:=v1.lt e;omega)
  have hx2:L2[L.length]?=some (.cells [.sl x m none,.sl y 9 none]):=u2.o.2.1.get hx1 (λe=>e);clear u1 u2 hx1 kN kR hts;by_cases h30:30<acts.length;have g1:(acts.length:Int)>30:=aoz;have g2:(30:Int)<(acts.length:Int):=aoz;have h0':=hid (h0.o L2 (hb0.o.trans hM0.o.bes (λ_ _ e=>e)));clear hM0 hx2 kM kF;refine wk ?_;exact aa h0'.o;have g30:¬(acts.length:Int)>30:=aoz;have g31:¬(30:Int)<(acts.length:Int):=aoz;refine wk ?_;refine ah (λn T' L'=>∃(j:Nat) (l:List aQ) (B:Nat->Prop),n=acts.length-j/\j<=acts.length/\Hid (gL L0 L' it rt tm l B/\l.length<=j/\l.length<=40)/\Hid (L2.length<=L'.length)/\T'=[(45,.int .i64 (j:Int)),(44,.int .i64 acts.length),(43,.sl ES acts.length capA),(9,.ptr rt 0),(7,.ptr it 0),(6,.ptr L.length 0)]) (CutS (b:=ale _)) ⟨0,[],B,rfl,ali _,hid ⟨hM0.o,aoA,aoA⟩,hid (ale _),rfl⟩ ?_;clear hM0 hx2;rintro _ _ L' ⟨j,l,B,rfl,hj,hM,hle,rfl⟩;have hx7:L'[L.length]?=some (.cells [.sl x m none,.sl y 9 none]):=hM.o.1.bes.get hx0 (λe=>e);by_cases hjl:j<acts.length
  .have hal:=ha.o.len;have j1:(j:Int)<(acts.length:Int):=aoz;have j2:=ak9 j aoz;have e3:=hat.o j hjl;have e4:j*2+2<=ES.length:=(by rw[hel];omega);obtain⟨⟨id,av⟩,he⟩:∃e,acts.getD j (0,[])=e:=⟨_,rfl⟩;have hmem:(id,av)∈acts:=(by rw[<- he];simp[hjl]);have hrd:=ha.o.at' _ hmem;have hidr:=ha.o.id _ hmem;simp only at hidr;rw[he]at e3;simp only[R8]at e3;have kF1:=@kF av hrd;have aX:∀X,(L'++X)[L.length]?=some (.cells [.sl x m none,.sl y 9 none]):=λX=>ak8 hx7
   have hle2:=hle.o;cases hfw:aad av with
   | false =>
     have kk2:Hid (Ctr Tryz.prog 33 [.sl (bp av) av.length none] (.bool false)):=@hid _ (λ{L K} q=>kF1.o (by rw[hfw];exact q));have h0':=hid (λX=>h0.o (L'++X) ((hb0.o.trans hM.o.1.bes (λ_ _ e=>e)).app2 X));clear hal he hmem hrd kF1 kM kF hfw hM;refine wk ?_;exact aa (h0'.o _)
   | true =>
     have kk2:Hid (Ctr Tryz.prog 33 [.sl (bp av) av.length none] (.bool true)):=@hid _ (λ{L K} q=>kF1.o (by rw[hfw];exact q));have kM1:=@kM av hfw hrd;have hmk:=hid (λhz=>aia hfw hz);obtain⟨⟨R1,z1⟩,hR1⟩:∃R,yr an [] av=R:=⟨_,rfl⟩;rw[hR1]at kM1 hmk;simp only at hmk;have kk3:Hid (Ctr Tryz.prog 34 [.agg [.sl x m none,.sl y 9 none],.sl (bp av) av.length none] (.tup [.sl (bp R1) R1.length none,.int .i64 z1])):=@hid _ (λ{L K} q=>kM1.o q);have hMA:=hid (hM.o.1.app [.cells [.int .i64 id,atV av]]);have hM3:=hid (λi (hi:B i)=>hM.o.1.ix.lt hi);have hln:=hid hM.o.2;replace hidr:=hid hidr;have hj40:j<40:=aoz;clear he hmem hrd kF1 kM kF hfw kM1 hR1 hM;by_cases hz2:z1=0;rotate_left
     .have hnl:Hid (L2.length<=(L'++[Blk.cells [.int .i64 id,atV av]]).length):=hid (by simp;omega);have hnx:Hid (gL L0 (L'++[Blk.cells [.int .i64 id,atV av]]) it rt tm l B/\l.length<=j+1/\l.length<=40):=hid ⟨hMA.o,by have:=hln.o;omega,hln.o.2⟩;clear hMA hln hmk;refine wk ?_;exact aoE aoz (CutL (b:=hnl.o)) ⟨j+1,l,B,rfl,hjl,hnx,hnl,rfl⟩
     subst hz2;have hz0:(0:Int)=0:=rfl;by_cases hav:av=[]
     .have hv1:(av.length:Int)=0:=(by rw[hav];rfl);have hv2:¬(av.length:Int)>0:=aoz;have hv3:¬(0:Int)<(av.length:Int):=aoz;replace hav:=hid hav;have hnl:Hid (L2.length<=(L'++[Blk.cells [.int .i64 id,atV av]]).length):=hid (by simp;omega);have hnx:Hid (gL L0 (L'++[Blk.cells [.int .i64 id,atV av]]) it rt tm l B/\l.length<=j+1/\l.length<=40):=hid ⟨hMA.o,by have:=hln.o;omega,hln.o.2⟩;clear hMA hln hmk;refine wk ?_;exact aoE aoz (CutL (b:=hnl.o)) ⟨j+1,l,B,rfl,hjl,hnx,hnl,rfl⟩
     .have hv1:¬(av.length:Int)=0:=λe=>hav (alS.1 aoz)
      have hv2:(av.length:Int)>0:=aoz;have hv3:(0:Int)<(av.length:Int):=aoz;obtain⟨hRi,hRo⟩:=hmk.o rfl;replace hRi:=hid hRi;replace hRo:=hid hRo;refine wk ?_;refine acj hMA.o.ix (hMA.o.tms.ixg hMA.o.ents) hRo.o λL3 B3 g3 g4 g5=>?_
      obtain⟨k2,hk⟩:=hMA.o.doc;have hk3:=hid (g4.get hk hMA.o.apart);have hD3:=hid (show _/\_/\_ from⟨g3,g4,g5⟩);clear g3 g4 g5 hk;have hbx:L3[L'.length]?=some (.cells [.int .i64 id,atV av]):=hD3.o.2.1.get aoA λe=>by have:=hM3.o _ e;omega
      refine wk ?_;refine ae0 (by have:=hln.o;omega) hk3.o (by simp only[AV.frz,G2]) (by simp only[AV.frz];rfl) (by simp only[AV.frz,eB]) hRo.o.len (λa ha=>(hRo.o.sz a ha).2) λL4 k q1 q2=>?_
      have hnx:Hid (gL L0 L4 it rt tm (GR id R1 l) B3/\(GR id R1 l).length<=j+1/\(GR id R1 l).length<=40):=hid ⟨hMA.o.drop hD3.o.1 hD3.o.2.1 hD3.o.2.2 (λe he=>by
        rcases lF.1 he with rfl|⟨h,_⟩
        .exact⟨hRi.o,hRo.o⟩
        .exact hMA.o.ents e h) (λe he=>by
        rcases lF.1 he with rfl|⟨h,_⟩
        .exact hidr.o
        .exact hMA.o.ids e h) ⟨_,q1⟩ q2,by
       have:=afm id R1 l;have h2:=hln.o;omega⟩
      have hnl:Hid (L2.length<=L4.length):=hid (by have h3:=hD3.o.2.1.len;have h4:=q2.len;simp at h3;omega)
      clear hMA hD3 hk3 q1 q2 hmk hln hRi hRo;refine wk ?_;exact aoE aoz (CutL (b:=hnl.o)) ⟨j+1,_,_,rfl,hjl,hnx,hnl,rfl⟩
  have hje:j=acts.length:=aoz;subst hje;have j1:¬(acts.length:Int)<(acts.length:Int):=aoz;have hfin:=hid (h1.o _ _ _ _ _ _ hcl.o (hM.o.1.base hb0.o) hM.o.2.2);clear hM;refine wk ?_;exact aa hfin.o
end Go.Proofs.YtcmfcpjnhephaaaGreatDoor.Av
set_option maxRecDepth 100000
namespace Go.Proofs.YtcmfcpjnhephaaaGreatDoor.Av
open Go
def D4:LSO:=[A4 1 0,Ad 2 0]
def D3:LSO:=[Ap 6 5 1,o1 7 (.call 94 [(tm 6),(iv 1),(iv 0)]),Aa 5 7,As 8 5,Aw 9 5,Aa 3 8,Aa 4 9]
def D2:LSO:=[Aa 10 3,Aa 2 10]
def tA:aG:=⟨11,(aos D4 [] (aos D3 [false,true,false,false,false,false,false] (aos D2 Cu .ret))),[(.tmp 2)]⟩
attribute [push_cast] D4 D3 D2
theorem S8:aox 46=aoy tA:=aoB
def DQ:LSO:=[A4 3 0,Ad 6 0,Ad 7 0]
def DP:LSO:=[Aa 16 2,Af 17 16 1,Aa 2 17]
def DO:LSO:=[Aa 18 1,A3 19 18 64]
def DN:LSO:=[Aa 20 2,Ad 6 6,Aa 7 20]
def DM:LSO:=[Aa 21 2,A3 22 21 1000]
def DL:LSO:=[Aa 23 2,Ad 6 9,Aa 7 23]
def DK:LSO:=[Ac 24 0 3,Ab 25 1 24,AD 26 25 0,Aa 27 26,.grp none 27 false
 [AK 28 27 0 3,AF 29 27 1 28,A9 30 27 29 8]
 31 (tm 30)]
def DJ:LSO:=[Aa 32 2,Ad 6 24,Aa 7 32]
def DI:LSO:=[Ac 33 0 3,Ab 34 1 33,AD 35 34 3]
def DH:LSO:=[Ac 36 0 3,Ab 37 1 36,Ao 38 37 2,Aa 39 38,.grp none 39 true
 [A6 40 39 4 3,A5 41 39 1 40,AU 42 39 41,BM 43 39 42 1]
 44 (tm 43)]
def vZ:LSO:=[Aa 45 2,Ad 6 2,Aa 7 45]
def vY:LSO:=[Ac 46 4 3,Ab 47 1 46,Ak 48 47,Ad 49 0]
def vX:LSO:=[Al 50 49 48]
def vW:LSO:=[Aa 51 49,Aa 8 51]
def vV:LSO:=[Ac 53 4 3,Ab 54 1 53,Aa 55 8,An 56 5 54 55,Ap 57 5 56,Aa 58 1,Af 59 58 1,Aa 60 2,AA 61 94 57 59 60,Aa 52 61,As 62 52,Aw 63 52,Aa 9 62,Aa 10 63]
def vU:LSO:=[Aa 64 10,Aa 2 64]
def vT:LSO:=[Aa 65 9,AE 66 65 0]
def vS:LSO:=[Aa 67 9,Aa 68 2,Aa 6 67,Aa 7 68]
def vR:LSO:=[Af 69 49 1,Aa 49 69]
def vQ:LSO:=[Aa 70 2,Ad 6 0,Aa 7 70]
def vP:LSO:=[Ac 71 1 3,Ab 72 1 71,Am 73 134 72,Ay 74 73]
def vO:LSO:=[Aa 75 2,Ad 6 20,Aa 7 75]
def vN:LSO:=[Ac 76 0 3,Ab 77 1 76,Ao 78 77 4]
def vM:LSO:=[Ac 79 3 3,Ab 80 1 79,Ak 81 80,A3 82 81 0,Aa 11 82]
def vL:LSO:=[Ac 83 3 3,Ab 84 1 83,Ak 85 84,Ad 86 0]
def vK:LSO:=[Al 87 86 85]
def vJ:LSO:=[Aa 88 86,An 89 2 84 86,Ap 90 2 89,BH 13,Aa 12 88,Ai 2 13 90]
def vI:LSO:=[Aa 91 12,Ao 92 91 0,Aa 14 92]
def vH:LSO:=[Aa 93 12,Af 94 93 1,Ac 95 3 3,Ab 96 1 95,Ak 97 96,AC 98 94 97,Aa 15 98]
def vG:LSO:=[Aa 99 11,Aa 100 99,.grp none 100 true
 [A6 101 100 1 13,A5 102 100 1 101,og 103 100 true (.bin .neq (tm 102) (.av (.str [])))]
 104 (tm 103),Aa 105 104,.grp none 105 true
 [A6 106 105 0 13,A5 107 105 1 106,AZ 108 105 107 1,Ae 109 105 108,.grp (some (105,true)) 109 false
 [AK 110 109 0 13,AF 111 109 1 110,AJ 112 109 111 0,Aj 113 109 112,.grp (some (109,false)) 113 true
 [Ae 114 113 14]
 115 (tm 114)]
 116 (tm 115),Ae 117 105 116,.grp (some (105,true)) 117 false
 [AK 118 117 0 13,AF 119 117 1 118,AJ 120 117 119 2,Aj 121 117 120,.grp (some (117,false)) 121 true
 [Ae 122 121 15]
 123 (tm 122)]
 124 (tm 123)]
 125 (tm 124),Aa 11 125]
def vF:LSO:=[Af 126 86 1,Aa 86 126]
def vE:LSO:=[Aa 127 11,Ay 128 127]
def vD:LSO:=[Aa 129 2,Ad 6 4,Aa 7 129]
def vC:LSO:=[Aa 130 2,Ad 6 0,Aa 7 130]
def tx:aG:=⟨131,(aos DQ [] (aos DP Cv (.seq (aos DO Cu (aou 19 (.sreg DN Cz))) (.seq (aos DM Cu (aou 22 (.sreg DL Cz))) (.seq (aos DK Cx (aou 31 (.sreg DJ Cz))) (.seq (aos DI Cv (aot 35 (.seq (aos DH Cx (aou 44 (.sreg vZ Cz))) (.seq (aos vY CB (aov 0 (aos vX [] (.seq (aow 50 0) (.seq (.block 1 (aos vW Cu (aos vV [true,true,false,false,false,false,false,false,false,false,false,false,false,false] (aos vU Cu (aos vT Cu (aou 66 (.sreg vS CB))))))) (.sreg vR Cu)))))) (aos vQ Cz .ret))) .skip)) (.seq (aos vP Cw (aou 74 (.sreg vO Cz))) (.seq (aos vN Cv (aot 78 (aos vM Cx (.seq (aos vL CD (aov 2 (aos vK [] (.seq (aow 87 2) (.seq (.block 3 (aos vJ C4 (aos vI Cv (aos vH C0 (.sreg vG Cy))))) (.sreg vF Cu)))))) (aos vE Cu (aou 128 (.sreg vD Cz))))) .skip)) (aos vC Cz .ret))))))))),[(.tmp 6),(.tmp 7)]⟩
attribute [push_cast] DQ DP DO DN DM DL DK DJ DI DH vZ vY vX vW vV vU vT vS vR vQ vP vO vN vM vL vK vJ vI vH vG vF vE vD vC
theorem S6:aox 94=aoy tx:=aoB
attribute [push_cast] tA tx
end Go.Proofs.YtcmfcpjnhephaaaGreatDoor.Av
