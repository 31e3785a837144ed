/- Joined texts of the walk, made small by a program. -/
import Derived.Test.YtcmfcpjnhephaaaGreatDoorVk11
import Derived.Test.YtcmfcpjnhephaaaGreatDoorVk10
import Derived.Test.YtcmfcpjnhephaaaGreatDoorVk4
import Derived.Test.YtcmfcpjnhephaaaGreatDoorVk8
import Derived.Test.YtcmfcpjnhephaaaGreatDoorRows
import Derived.KernelRfl
import Derived.Test.YtcmfcpjnhephaaaGreatDoorVk5
import Derived.Test.YtcmfcpjnhephaaaGreatDoorVk7
import Derived.Shelf.Spec.SlicesGrow
set_option linter.unusedSimpArgs false
set_option linter.unusedVariables false
namespace Go.Proofs.YtcmfcpjnhephaaaGreatDoor.Av
open Go
set_option maxHeartbeats 8000000
set_option maxRecDepth 100000
theorem ZK{xs:List (aY Int Bool)}{ck:Nat}(h:cP xs ck)(ht:∀e∈xs,e.2.1=true)(x:Int):V0 (aT (AV.int .i64) AV.bool xs) x=some (!(xs.map (·.1)).contains x):=by
 unfold V0;rcases cU (va:=AV.bool) rn h x true with⟨j,w,q1,q2,_,q4⟩|⟨q1,q2,_,q4⟩;have hw:w=true:=by obtain⟨c,hc⟩:=kV q1;exact ht _ hc
 simp only[q2,hw];rw[ah1.2 q4];simp only[q2];have:(xs.map (·.1)).contains x=false:=by
  cases hc:(xs.map (·.1)).contains x with
  |false=>rfl
  |true=>exact absurd (ah1.1 hc) q4
 rw[this];rfl
structure LkS(l:List bd)(f:List UInt8)(ys:List (aY Int Bool))(ck:Nat)(M:Int->Prop):Prop where
 ok:cP ys ck
 tr:∀e∈ys,e.2.1=true
 mem:∀x,x∈ys.map (·.1)↔x∈lr l f/\M x
theorem LkS.iff{l:List bd}{f:List UInt8}{ys:List (aY Int Bool)}{ck:Nat}{M M':Int->Prop}(h:LkS l f ys ck M)(e:∀x,M x↔M' x):LkS l f ys ck M':=⟨h.ok,h.tr,λx=>by rw[h.mem,e]⟩
theorem LkS.del{l:List bd}{f:List UInt8}{ys:List (aY Int Bool)}{ck:Nat}{M:Int->Prop}(h:LkS l f ys ck M)(q:Int->Bool):LkS l f (ys.filter λp => !q p.1) ck (λx=>M x/\q x=false):=by refine⟨h.ok.filter _,λe he=>h.tr e (ahI.1 he).1,λx=>?_⟩;rw[ahd];constructor;rintro⟨e,he,rfl⟩;obtain⟨h1,h2⟩:=ahI.1 he;obtain⟨h3,h4⟩:=(h.mem e.1).1 (ahd.2 ⟨e,h1,rfl⟩);exact⟨h3,h4,by simpa using h2⟩;rintro⟨h1,h2,h3⟩;obtain⟨e,he,rfl⟩:=ahd.1 ((h.mem x).2 ⟨h1,h2⟩);exact⟨e,ahI.2 ⟨he,by simpa using h3⟩,rfl⟩
theorem OK(t:List UInt8):(af t).length=t.length:=by unfold af;simp
theorem abT{L:List Blk}{it:Nat}{tm:TMp}{l:List bd}{B:Nat->Prop}(ho:IxO L it tm l B)(hi:Ok l){n:List UInt8}(hn:a7 n){ps:List Pc}(hps:ps.length<=1000/\∀p∈ps,p.2.length<=100000){cap:Option Nat}{K:ag7}(h:K (pW (ad7 tm l n ps)) L):ag6 13 [.ptr it 0,.str n,.sl (qA ps) ps.length cap] L K:=by
 have kk1:Hid (∀{K:ag7},K (.bool (cy tm (af n)).isSome) L->ag6 11 [.ptr it 0,.str n] L K):=@hid _ (λ{K} q=>NZ ho hn q);have hr:=ho.rise;obtain⟨im,ie,ip,ii,em,ec,pm,pc,dm,dc,h1,h2,h3,h4⟩:=ho;unfold ad7 at h;obtain⟨f,hf⟩:=ag2 (af n);have kk2:Hid (Ctr Tryz.prog 38 [.str n] (.str f)):=@hid _ (by intro L K q;exact fC hn (by rw[hf];exact q));rw[hf]at h kk1;have hst:=h1.st;have hpr:=h1.pr;have hks:bw .str (.str f)=true:=rfl;rcases cU (va:=tyV) pH h1.tok f oM with⟨j,⟨w1,w2,w3,w4⟩,q1,q2,_⟩|⟨q1,_⟩
 rotate_left
 rw[q1]at h kk1;simp only[aiG]at kk1;replace h:=hid h;clear h1 h2 h3 h4 hr q1;refine ag5 mA ?_;exact ba (aa h.out)
 .rw[q1]at h kk1;simp only[aiM]at kk1;simp only at h;have hfm:f∈pm.map (·.1):=(h1.pk f).2 (by obtain⟨c,hc⟩:=kV q1;exact ahd.2 ⟨_,hc,rfl⟩)
  obtain⟨jb,b,y1,y2,_⟩:=qi (va:=AV.lmap) pH 0 h1.pok.keys hfm;rw[air]at y2;obtain⟨xs,ck,s1,s2,s3,s4⟩:=h1.ps f b y1;have kk3:Hid (∀{K:ag7},K (.lmap L.length) (L++[lq xs ck])->ag6 40 [.lmap b] L K):=@hid _ (λ{K} q=>W9 s1 q);replace h:=hid h;replace hps:=hid hps;replace h1:=hid h1;replace s4:=hid s4;replace s3:=hid s3;replace s2:=hid s2;replace hr:=hid hr;replace hi:=hid hi;clear h2 h3 h4 q1 hfm y1 s1;have hpl:=Rf ps;obtain⟨PS,hPS⟩:=ag2 (qA ps);have hat:=hid (λk (q:k<ps.length)=>Qw q);rw[hPS]at hat hpl⊢;clear hPS;refine ag5 mA ?_;obtain⟨tys,htys⟩:=ag2 (iV tm);rw[htys]at h h1;obtain⟨ex,hex⟩:=ag2 (decide (w2=2));refine ak (λm T' L'=>∃(i:Nat) (ys:List (aY Int Bool)) (X:List Blk),m=ps.length-i/\i<=ps.length/\Hid (LkS l f ys ck λx=>∀p∈ps.take i,∀g∈dI (pcT ex p),x∈fD tys l (f,true,g))/\T'=[(30,.int .i64 (i:Int)),(29,.int .i64 ps.length),(28,.sl PS ps.length cap),(8,.lmap L.length),(7,.str f),(0,.ptr it 0)]/\L'=L++(lq ys ck::X)) (CutS (b:=by simp)) ⟨0,xs,[],rfl,ahf _,hid ⟨s2.out,s3.out,λx=>by rw[s4.out];simp⟩,rfl,rfl⟩ ?_;clear kk1 kk2 kk3 hn s2 s3 s4;rintro _ _ _ ⟨i,ys,X0,rfl,hi2,hS,rfl,rfl⟩;have aX:∀(X:List Blk){i:Nat}{b:Blk},L[i]?=some b->(L++X)[i]?=some b:=λX {i b} e=>ag3 e
  have a1:∀X,(L++X)[it]?=some (.cells [.lmap im,.lmap ie,.lmap ip,.lmap ii]):=λX=>aX X hst
  have a2:∀X,(L++X)[im]?=some (.map (aT AV.str tyV tm) tm.length):=λX=>aX X h1.out.ty
  have a3:∀X,(L++X)[ii]?=some (.map (aT oN AV.lmap dm) dc):=λX=>aX X h1.out.ids
  by_cases hlt:i<ps.length
  .have hpb:=hps.out.1;have j1:(i:Int)<(ps.length:Int):=(by omega);have j2:=ag4 i (by omega);have e3:=hat.out i hlt;have e4:i*2+2<=PS.length:=(by rw[hpl];omega);obtain⟨⟨k,t⟩,hp⟩:∃p,ps.getD i (0,[])=p:=⟨_,rfl⟩;have htb:=hps.out.2 (k,t) (by rw[<- hp];simp[hlt]);simp only at htb;rw[hp]at e3;simp only[pcA]at e3;have htk:ps.take (i+1)=ps.take i++[(k,t)]:=(by rw[ahw hlt,<- hp];simp[hlt]);obtain⟨t',ht'⟩:=ag2 (pcT ex (k,t));have hpt:t'.length<=100000:=by rw[<- ht'];unfold pcT;split;exact htb;rw[OK];exact htb
   have kk1:Hid (Ctr Tryz.prog 41 [.str t'] (LE (dI t'))):=@hid _ (λ{L K} q=>Yw hpt q);have hgb:(dI t').length<=100000:=(by rw[qh];omega);have hrt:a7 t:=(by unfold a7;omega);have kk2:Hid (ex=false->∀{L:List Blk}{K:ag7},K (.str t') L->ag6 38 [.str t] L K):=@hid _ (λhe {L K} q=>fC hrt (by rw[<- ht',he]at q;exact q));have htt:ex=true->t'=t:=λhe=>by rw[<- ht',he];rfl
   replace htk:=hid htk;replace ht':=hid ht';obtain⟨gs,hgs⟩:=ag2 (dI t');rw[hgs]at kk1 hgb;replace hgs:=hid hgs;replace hgb:=hid hgb;clear hp htb hpt hrt hpb;have hcase:(∃e:w2=2,t'=t)\/(¬w2=2/\Hid (Ctr Tryz.prog 38 [.str t] (.str t'))):=by
    cases hx:ex with
    |true=>exact .inl ⟨of_decide_eq_true (hex.trans hx),htt hx⟩
    |false=>exact .inr ⟨of_decide_eq_false (hex.trans hx),@hid _ (λ{L K} q=>kk2.out hx q)⟩
   clear kk2 htt;replace hex:=hid hex;rcases hcase with⟨hw,rfl⟩|⟨hw,kk2⟩
   all_goals
    refine wk ?_;refine ak (λm T' L'=>∃(j:Nat) (ys:List (aY Int Bool)) (X:List Blk),m=gs.length-j/\j<=gs.length/\Hid (X0.length+1<=X.length)/\Hid (LkS l f ys ck λx=>(∀p∈ps.take i,∀g∈dI (pcT ex p),x∈fD tys l (f,true,g))/\∀g∈gs.take j,x∈fD tys l (f,true,g))/\T'=[(49,.int .i64 (j:Int)),(48,.int .i64 gs.length),(47,.sl (gs.map AV.str) gs.length none),(30,.int .i64 (i:Int)),(29,.int .i64 ps.length),(28,.sl PS ps.length cap),(8,.lmap L.length),(7,.str f),(0,.ptr it 0)]/\L'=L++(lq ys ck::X)) (CutS (b:=by simp)) ⟨0,ys,_,rfl,ahf _,hid (by simp),hid (hS.out.iff λx=>by simp),rfl,rfl⟩ ?_;clear hS kk1;rintro _ _ _ ⟨j,ys,X,rfl,hj,hXl,hS,rfl,rfl⟩;by_cases hjg:j<gs.length
    .have hgb2:=hgb.out;have g1:(j:Int)<(gs.length:Int):=(by omega);have g2:=ag4 j (by omega);have g3:(gs.map AV.str).getD j .undef=.str (gs.getD j []):=(by simp[hjg]);have g4:j<(gs.map AV.str).length:=(by simpa using hjg);obtain⟨g,hg⟩:=ag2 (gs.getD j []);have htj:gs.take (j+1)=gs.take j++[g]:=(by rw[ahw hjg,<- hg];simp[hjg]);rw[hg]at g3;replace htj:=hid htj;obtain⟨GS,hGS⟩:=ag2 (gs.map AV.str);rw[hGS]at g3 g4⊢;clear hg hgb2;have hk3:bw (.st [.str,.bool,.str]) (.agg [.str f,.bool true,.str g])=true:=rfl;rcases cU (va:=AV.lmap) vi h1.out.dok (f,true,g) 0 with⟨j',b2,p1,p2,_⟩|⟨p1,p2,_⟩
     .obtain⟨zs,ck2,z1,z2,z3,z4⟩:=h1.out.ds _ b2 p1;have hqx:∀x,(!(zs.map (·.1)).contains x)=false↔x∈fD tys l (f,true,g):=λx=>by have e:=z4 x;simp only at e;simp[e]
      have hes:=ZK z2 z3;obtain⟨q,hq⟩:∃q:Int->Bool,(λx => !(zs.map (·.1)).contains x)=q:=⟨_,rfl⟩;have hqx2:∀x,q x=false↔x∈fD tys l (f,true,g):=λx=>by rw[<- hq];exact hqx x
      have hes2:∀x,V0 (aT (AV.int .i64) AV.bool zs) x=some (q x):=λx=>by rw[<- hq];exact hes x
      clear hq hqx hes;have hS2:=hid ((hS.out.del q).iff (M':=λx=>(∀p∈ps.take i,∀g∈dI (pcT ex p),x∈fD tys l (f,true,g))/\∀g∈gs.take (j+1),x∈fD tys l (f,true,g)) λx=>by
       rw[htj.out,and_assoc];refine and_congr_right λ_=>?_
       rw[hqx2 x];simp only[ahb,ahs];constructor
       .rintro⟨q1,q2⟩ y (hy|rfl)
        .exact q1 y hy
        .exact q2
       .intro u;exact⟨λy hy=>u y (.inl hy),u g (.inr rfl)⟩)
      have kk1:Hid (∀{K:ag7},K (.tup []) (L++(lq (ys.filter λp => !q p.1) ck::(X++[.cells [.lmap b2]])))->ag6 42 [.lmap L.length,.func 43 [.ptr (L.length+(X.length+1)) 0]] (L++(lq ys ck::(X++[.cells [.lmap b2]]))) K):=@hid _ (λ{K} u=>by
       refine Yn (xs:=ys) (ck:=ck) (q:=q) (Xf (j:=b2) (ck:=ck2) _ hes2) (λl c y=>⟨?_,?_⟩) hS.out.ok.keys hS.out.ok.born hS.out.ok.lt (by rw[pI];rfl) ?_
       .rw[vA,aho,ahB (by omega),show L.length+(X.length+1)-L.length=X.length+1 by omega,ahL,aiO,aho];exact pI _ _ _
       .rw[vA,aho,ahi (ag8.1 z1).1];exact z1
       .rw[vA];exact u)
      simp only[oN]at p2;clear z1 z2 z3 z4 p1 hS hqx2 hes2;refine wk ?_;rw[<- hGS];exact ah _ _ _ (by omega) (CutL (b:=by simp;have:=hXl.out;omega)) ⟨j+1,_,X++[.cells [.lmap b2]],rfl,hjg,hid (by simp;have:=hXl.out;omega),hS2,rfl,rfl⟩
     .obtain⟨q,hq⟩:∃q:Int->Bool,(λ_=>true)=q:=⟨_,rfl⟩;have hS2:=hid ((hS.out.del q).iff (M':=λx=>(∀p∈ps.take i,∀g∈dI (pcT ex p),x∈fD tys l (f,true,g))/\∀g∈gs.take (j+1),x∈fD tys l (f,true,g)) λx=>by
       constructor
       .rintro⟨_,u⟩;rw[<- hq]at u;cases u
       .rintro⟨_,u⟩;exact absurd (u g (by rw[htj.out];simp)) (h1.out.dn _ p1 x))
      have kk1:Hid (∀{K:ag7},K (.tup []) (L++(lq (ys.filter λp => !q p.1) ck::(X++[.cells [.nilmap]])))->ag6 42 [.lmap L.length,.func 43 [.ptr (L.length+(X.length+1)) 0]] (L++(lq ys ck::(X++[.cells [.nilmap]]))) K):=@hid _ (λ{K} u=>by
       refine Yn (xs:=ys) (ck:=ck) (q:=q) (by rw[<- hq];exact ZA) (λl c y=>?_) hS.out.ok.keys hS.out.ok.born hS.out.ok.lt (by rw[pI];rfl) ?_
       .rw[vA,aho,ahB (by omega),show L.length+(X.length+1)-L.length=X.length+1 by omega,ahL,aiO,aho];exact pI _ _ _
       .rw[vA];exact u)
      simp only[oN]at p2;clear p1 hS hq;refine wk ?_;rw[<- hGS];exact ah _ _ _ (by omega) (CutL (b:=by simp;have:=hXl.out;omega)) ⟨j+1,_,X++[.cells [.nilmap]],rfl,hjg,hid (by simp;have:=hXl.out;omega),hS2,rfl,rfl⟩
    .have hje:j=gs.length:=(by omega);subst hje;have g1:¬(gs.length:Int)<(gs.length:Int):=(by omega);have hS2:=hid (hS.out.iff (M':=λx=>∀p∈ps.take (i+1),∀g∈dI (pcT ex p),x∈fD tys l (f,true,g)) λx=>by rw[htk.out,ahr];simp only[ahb,ahs];constructor;rintro⟨q1,q2⟩ p (hp|rfl);exact q1 p hp;rw[ht'.out,hgs.out];exact q2;intro q;refine⟨λp hp=>q p (.inl hp),?_⟩;have:=q _ (.inr rfl);rw[ht'.out,hgs.out]at this;exact this)
     clear hS;refine wk ?_;exact ah _ _ _ (by omega) (CutL (b:=by simp)) ⟨i+1,_,_,rfl,hlt,hS2,rfl,rfl⟩
  have hie:i=ps.length:=(by omega);subst hie;have j1:¬(ps.length:Int)<(ps.length:Int):=(by omega);have hlr:(Qa tys l f w2 ps).Pairwise (· < ·):=by unfold Qa;exact List.Pairwise.sublist ai9 (IC hr.out)
  have hlm:∀x,x∈ys.map (·.1)↔x∈Qa tys l f w2 ps:=λx=>by rw[hS.out.mem,ahr];unfold Qa;rw[ahI,hex];simp only[ahk,ah1]
  have hln:(∀x∈Qa tys l f w2 ps,-9223372036854775808<=x/\x<=9223372036854775807)/\(Qa tys l f w2 ps).length<=1000:=by obtain⟨g1,g2⟩:=Yd hi.out (f:=f);unfold Qa;exact⟨λx hx=>g1 x (ahI.1 hx).1,ahy (ai0 _ _) g2⟩
  obtain⟨R,hR⟩:=ag2 (Qa tys l f w2 ps);rw[hR]at hlr hlm hln h;have kk1:Hid (∀{K:ag7},K (pW R) (L++(lq ys ck::X0))->ag6 44 [.lmap L.length] (L++(lq ys ck::X0)) K):=@hid _ (λ{K} q=>UH (P:=λx=>x∈ys.map (·.1)) ⟨ys,ck,by simp,hS.out.ok,hS.out.tr,λx=>Iff.rfl⟩ hlr hlm hln q);clear hlr hlm hln hR hS aX hst a1 a2 a3;refine wk ?_;exact ae (by simp only[AV.refs,hU]) h.out
def ago(v:Int):Int:=if v=0 then 1 else if v=1 then 0 else 2
inductive Flt where
 |mk (kind:Int) (attr val:List UInt8) (ps:List Pc) (kids:List Flt)
def Flt.kind:Flt->Int
 |.mk k _ _ _ _=>k
def Flt.attr:Flt->List UInt8
 |.mk _ a _ _ _=>a
def Flt.val:Flt->List UInt8
 |.mk _ _ v _ _=>v
def Flt.ps:Flt->List Pc
 |.mk _ _ _ p _=>p
def Flt.kids:Flt->List Flt
 |.mk _ _ _ _ l=>l
abbrev Yk:Flt:=.mk 0 [] [] [] []
instance:Inhabited Flt:=⟨Yk⟩
mutual
def fA:Flt->List AV
 |.mk k a v ps ks=>[.int .i64 k,.str a,.str v,.sl (qA ps) ps.length none,.sl (fsA ks) (fsN ks) none]
def fsA:List Flt->List AV
 |[]=>[]
 |f::l=>fA f++fsA l
def fsN:List Flt->Nat
 |[]=>0
 |_::l=>fsN l+1
end
theorem acp:∀l:List Flt,fsN l=l.length
 |[]=>rfl
 |_::l=>by simp only[fsN,ahj,acp l]
theorem Ly(k:Int)(a v:List UInt8)(ps:List Pc)(ks:List Flt):fA (.mk k a v ps ks)=[.int .i64 k,.str a,.str v,.sl (qA ps) ps.length none,.sl (fsA ks) ks.length none]:=by rw[fA,acp]
theorem RI(f:Flt):fA f=[.int .i64 f.kind,.str f.attr,.str f.val,.sl (qA f.ps) f.ps.length none,.sl (fsA f.kids) f.kids.length none]:=by obtain⟨k,a,v,ps,ks⟩:=f;exact Ly k a v ps ks
theorem UP:∀l:List Flt,(fsA l).length=l.length*5
 |[]=>rfl
 |n::l=>by simp only[fsA,ahq,UP l,RI,ahj,ahX];omega
theorem XF:∀{l:List Flt}{k:Nat},k<l.length->((fsA l).drop (k*5)).take 5=fA (l.getD k Yk)
 |n::l,0,_=>by simp[fsA,RI]
 | n::l,k+1,h=>by
   have ih:=@XF l k (by simpa using h);have e:(fsA (n::l)).drop ((k+1)*5)=(fsA l).drop (k*5):=by rw[fsA,List.drop_append,RI];simp only[ahj,ahX];rw[aiN (by simp;omega),ahJ];congr 1;omega
   rw[e,ih];rfl
theorem ad2(l:List Pc):AV.frzL (qA l)=qA l:=by
 induction l with
 |nil=>rfl
 | cons a l ih =>
   rw[AV.frzL_eq]at ih⊢;simp only[qA,aif,ahE]at ih⊢;rw[ih];rfl
mutual
theorem acu:∀n:Flt,AV.frzL (fA n)=fA n
 |.mk k a v ps ks=>by have ih:=Yx ks;simp only[fA,AV.frzL,AV.frz,ih,ad2]
theorem Yx:∀l:List Flt,AV.frzL (fsA l)=fsA l
 |[]=>rfl
 |n::l=>by have h1:=acu n;have h2:=Yx l;rw[AV.frzL_eq]at h1 h2⊢;rw[fsA,ahE,h1,h2]
end
def Tr(v:Int):Prop:=v=0\/v=1\/v=2
theorem agR{v:Int}(h:Tr v):ago (ago v)=v:=by rcases h with rfl|rfl|rfl<;>decide
mutual
theorem QA{P:Flt->Prop}(h:∀k a v ps ks,(∀x∈ks,P x)->P (.mk k a v ps ks)):∀f,P f
 |.mk k a v ps ks=>h k a v ps ks (We h ks)
theorem We{P:Flt->Prop}(h:∀k a v ps ks,(∀x∈ks,P x)->P (.mk k a v ps ks)):∀(l:List Flt),∀x∈l,P x
 |[],x,hx=>by cases hx
 | f::r,x,hx=>by
   rcases ahc.1 hx with e|e
   .rw[e];exact QA h f
   .exact We h r x e
end
mutual
def FlB(A V N T M:Nat):Flt->Prop
 |.mk _ a v ps ks=>a.length<=A/\v.length<=V/\ps.length<=N/\(∀p∈ps,p.2.length<=T)/\ks.length<=M/\SX A V N T M ks
def SX(A V N T M:Nat):List Flt->Prop
 |[]=>True
 |f::r=>FlB A V N T M f/\SX A V N T M r
end
theorem Sw{A V N T M:Nat}:∀{l:List Flt},SX A V N T M l->∀x∈l,FlB A V N T M x
 |[],_,x,hx=>by cases hx
 | f::r,h,x,hx=>by
   rw[SX]at h;rcases ahc.1 hx with rfl|e
   .exact h.1
   .exact Sw h.2 x e
theorem U7{A V N T M:Nat}:∀{l:List Flt},(∀x∈l,FlB A V N T M x)->SX A V N T M l
 |[],_=>by rw[SX];trivial
 |f::r,h=>by rw[SX];exact⟨h f (by simp),U7 λx hx=>h x (by simp[hx])⟩
abbrev ac9:Flt->Prop:=FlB 140737488351232 140737488351232 9223372036854775807 140737488351232 9223372036854775807
abbrev U8:Flt->Prop:=FlB 140737488351232 3000 20 100 60
end Go.Proofs.YtcmfcpjnhephaaaGreatDoor.Av
set_option maxRecDepth 100000
namespace Go.Proofs.YtcmfcpjnhephaaaGreatDoor.Av
open Go
def zV:LSO:=[A4 3 0,Af 6]
def zU:LSO:=[Aa 11 1,As 12 11,Ab 13 1 12,Ag 14 13 1,As 15 11,Ai 1 15 14]
def zT:LSO:=[Aa 16 1,As 17 16,Ab 18 1 17,A3 19 18 60,Aa 20 19,.grp none 20 false
 [Ah 21 20 2,A9 22 20 21 64]
 23 (tm 22),Aa 24 23,.grp none 24 false
 [AO 25 24 2 3,AI 26 24 1 25,Bq 27 24 26,A9 28 24 27 3000]
 29 (tm 28),Aa 30 29,.grp none 30 false
 [AO 31 30 3 3,AI 32 30 1 31,Bf 33 30 32,A9 34 30 33 20]
 35 (tm 34),Aa 36 35,.grp none 36 false
 [AO 37 36 4 3,AI 38 36 1 37,Bf 39 36 38,A9 40 36 39 60]
 41 (tm 40)]
def zS:LSO:=[Af 6]
def zR:LSO:=[Ad 42 3 3,Ab 43 1 42,Am 44 43,Ac 45 0]
def zQ:LSO:=[Al 46 45 44]
def zP:LSO:=[An 47 2 43 45,Ap 48 2 47,Ci 8,Ai 2 8 48]
def zO:LSO:=[Ad 49 1 8,Ab 50 1 49,Au 51 50,A3 52 51 100]
def zN:LSO:=[Af 6]
def zM:LSO:=[Ag 53 45 1,Aa 45 53]
def uZ:LSO:=[Ad 54 4 3,Ab 55 1 54,Am 56 55,Ac 57 0]
def uY:LSO:=[Al 58 57 56]
def uX:LSO:=[An 59 5 55 57,Ap 60 5 59,AU 10,Ai 5 10 60]
def uW:LSO:=[Ap 61 5 10,Aa 62 1,Aa 63 2,Ag 64 63 1,AB 65 57 61 62 64,Ay 66 65]
def uV:LSO:=[Af 6]
def uU:LSO:=[Ag 67 57 1,Aa 57 67]
def uT:LSO:=[A0 6]
def rN:aO:=⟨68,(akg zV [] (akg zU C0 (.seq (akg zT C6 (aki 41 (.sreg zS []))) (.seq (akg zR CA (akj 0 (akg zQ [] (.seq (akk 46 0) (.seq (.block 1 (akg zP Cr (akg zO Cs (aki 52 (.sreg zN []))))) (.sreg zM Cq)))))) (.seq (akg uZ CA (akj 2 (akg uY [] (.seq (akk 58 2) (.seq (.block 3 (akg uX Cr (akg uW Cu (aki 66 (.sreg uV []))))) (.sreg uU Cq)))))) (akg uT [] .ret)))))),[(.tmp 6)]⟩
attribute [push_cast] zV zU zT zS zR zQ zP zO zN zM uZ uY uX uW uV uU uT
theorem O9:akl 57=akm rN:=by kernel_rfl
def Da:LSO:=[A4 1 0,Af 2]
def CZ:LSO:=[o1 3 (.alloc [(.int .i64 0)]),Bc 1 3 0]
def CY:LSO:=[Ap 4 5 1,BA 5 57 4 3 1,Aa 2 5]
def rP:aO:=⟨6,(akg Da [] (akg CZ [] (akg CY Cr .ret))),[(.tmp 2)]⟩
attribute [push_cast] Da CZ CY
theorem Pb:akl 25=akm rP:=by kernel_rfl
attribute [push_cast] rP
variable {L:List Blk}{K:ag7}
set_option maxHeartbeats 8000000
set_option maxRecDepth 100000
theorem Y7:∀(f:Flt),ac9 f->∀{p:Nat}{n d:Int}{L:List Blk}{K:ag7},L[p]?=some (.cells [.int .i64 n])->0<=n->n<=60->1<=d->d<=65->(∀(b:Bool) (m:Int),0<=m->m<=61->(b=true->m<=60/\U8 f)->K (.bool b) (L.set p (.cells [.int .i64 m]))) ->
  ag6 57 [.agg (fA f),.ptr p 0,.int .i64 d] L K:=by
 refine QA λk a v ps ks ih hrd p n d L K hL hn0 hn1 hd0 hd1 h=>?_
 simp only[FlB]at hrd;obtain⟨r1,r2,r3,r4,r5,r6⟩:=hrd;replace r6:=hid (Sw r6);replace ih:=hid ih;have hp:p<L.length:=(ag8.1 hL).1;have f1:∀X:List Blk,(L++X)[p]?=some (.cells [.int .i64 n]):=λX=>by rw[ahi hp];exact hL
 have f2:∀(X:List Blk) A,(L++X).set p A=L.set p A++X:=λX A=>ahY _ _ hp
 have f3:∀(X:List Blk) A,(L.set p A++X)[p]?=some A:=λX A=>by rw[ahi (by simpa using hp),ahv,if_pos rfl,if_pos hp]
 have f4:∀A:Blk,(L.set p A).length=L.length:=λA=>by simp
 have f5:∀(X:List Blk) A,(L.set p A++X)[L.length]?=X[0]?:=λX A=>by rw[ahB (by simp)];simp
 have f6:∀(X:List Blk) A k,(L.set p A++X)[L.length+k]?=X[k]?:=λX A k=>by rw[ahB (by simp)];simp
 have f7:∀(X:List Blk) A k C,(L.set p A++X).set (L.length+k) C=L.set p A++X.set k C:=λX A k C=>by rw[ahT _ _ (by simp)];simp
 have f8:∀(X:List Blk) A C,(L.set p A++X).set p C=L.set p C++X:=λX A C=>by rw[ahY _ _ (by simpa using hp),ais]
 have g0:IntKind.i64.wrap (n+1)=n+1:=ac (by omega) (by omega);have g9:IntKind.i64.wrap (d+1)=d+1:=ac (by omega) (by omega);have fin:∀(X:List Blk) (b:Bool) (m:Int),K (.bool b) (L.set p (.cells [.int .i64 m]))->Fin L (.bool b) (L.set p (.cells [.int .i64 m])++X) K:=λX b m hk =>
  fq (f4 _) (λhh k hk'=>by rcases ajo hk' with e|e;exact hh k e;subst e;rfl) rfl hk
 replace fin:=hid fin;replace h:=hid h;rw[Ly];refine ad O9 (by simp[rN]) ?_;simp only[rN,am];obtain⟨PS,hPS⟩:∃P,P=qA ps:=⟨_,rfl⟩;obtain⟨KS,hKS⟩:∃P,P=fsA ks:=⟨_,rfl⟩;rw[<- hPS,<- hKS];replace hPS:=hid hPS;replace hKS:=hid hKS
 repeat' first
  |refine br ?_
  | (first|refine bh (by kernel_rfl) ?_|refine aH (by kernel_rfl) ?_|refine aK ?_|refine cO ?_|refine bB (fun _=>?_)|refine aB ?_|refine bm ?_)
    refine sm ?_
  | (first|refine a8 (by kernel_rfl) ?_|refine bc ?_|refine aJ ?_|refine bj ?_|refine bG (aA ?_))
    refine sl ?_
  |exact bC
  |first|apply bD|apply be|apply bE|apply bf|apply bF|apply bg
  |refine aN ?_
  |refine aI ?_
  |first|refine aL rfl ?_|refine aM rfl ?_|refine aw rfl ?_ ?_|refine aQ rfl (λ_=>?_) (λ_=>?_)|refine aP rfl (λ_=>?_) (λ_=>?_)
  |((first|refine au (λ_=>?_) (λ_=>?_)|refine az (λ_=>?_) (λ_=>?_))<;>try refine sm ?_)
  |refine And.intro trivial ?_
  |refine And.intro (by omega) ?_
  |refine aU rfl (λ_=>?_) (λ_=>?_)
  |refine And.intro ?_ ?_
 rename_i hx;exact fin.out _ _ _ (h.out false (n+1) (by omega) (by omega) (λe=>by cases e));rename_i hx;have b1:n+1<=60/\d<=64/\v.length<=3000/\ps.length<=20/\ks.length<=60:=by
  refine⟨?_,?_,?_,?_,?_⟩;exact ai2.1 λe=>hx (.inl (.inl (.inl (.inl e))))
  exact ai2.1 λe=>hx (.inl (.inl (.inl (.inr e))))
  have:=ai2.1 λe=>hx (.inl (.inl (.inr e)));omega
  have:=ai2.1 λe=>hx (.inl (.inr e));omega
  have:=ai2.1 λe=>hx (.inr e);omega
 clear hx;obtain⟨b1,b2,b3,b4,b5⟩:=b1;obtain⟨B,hB⟩:=ag2 (Blk.cells [AV.int IntKind.i64 k,AV.str a,AV.str v,AV.sl PS ps.length none,AV.sl KS ks.length none]);rw[hB];refine ak (λm T' L'=>∃(i:Nat) (X:List Blk),m=ps.length-i/\i<=ps.length/\(∀x∈ps.take i,x.2.length<=100)/\T'=[(45,.int .i64 (i:Int)),(44,.int .i64 ps.length),(43,.sl PS ps.length none),(3,.ptr L.length 0),(1,.ptr p 0),(2,.int .i64 d)]/\L'=L.set p (.cells [.int .i64 (n+1)])++(B::X)) (CutS (b:=by simp)) ⟨0,[],rfl,ahf _,by simp,rfl,rfl⟩ ?_;rintro _ _ _ ⟨i,X,rfl,hi,hI,rfl,rfl⟩;by_cases hlt:i<ps.length
 .have g1:(i:Int)<(ps.length:Int):=(by omega);have g2:=ag4 i (by omega);have e3:=Qw hlt;have e4:i*2+2<=PS.length:=(by rw[hPS.out,Rf];omega);obtain⟨⟨x,t⟩,ha⟩:∃a,ps.getD i (0,[])=a:=⟨_,rfl⟩;have htk:ps.take (i+1)=ps.take i++[(x,t)]:=(by rw[ahw hlt,show ps[i]=(x,t)by rw[<- ha];simp[hlt]]);rw[ha,<- hPS.out]at e3;simp only[pcA]at e3;replace hI:=hid hI;clear ha;replace htk:=hid htk;clear hPS
  repeat' first
   |refine br ?_
   | (first|refine bh (by kernel_rfl) ?_|refine aH (by kernel_rfl) ?_|refine aK ?_|refine cO ?_|refine bB (fun _=>?_)|refine aB ?_|refine bm ?_)
     refine sm ?_
   | (first|refine a8 (by kernel_rfl) ?_|refine bc ?_|refine aJ ?_|refine bj ?_|refine bG (aA ?_))
     refine sl ?_
   |exact bC
   |first|apply bD|apply be|apply bE|apply bf|apply bF|apply bg
   |refine aN ?_
   |refine aI ?_
   |first|refine aL rfl ?_|refine aM rfl ?_|refine aw rfl ?_ ?_|refine aQ rfl (λ_=>?_) (λ_=>?_)|refine aP rfl (λ_=>?_) (λ_=>?_)
   |((first|refine au (λ_=>?_) (λ_=>?_)|refine az (λ_=>?_) (λ_=>?_))<;>try refine sm ?_)
   |refine And.intro trivial ?_
   |refine And.intro (by omega) ?_
   |refine aU rfl (λ_=>?_) (λ_=>?_)
   |refine And.intro ?_ ?_
  rename_i hx;exact fin.out _ _ _ (h.out false (n+1) (by omega) (by omega) (λe=>by cases e));rename_i hx;refine ah _ _ _ (by omega) (CutL (b:=by simp)) ⟨i+1,_,rfl,hlt,?_,rfl,rfl⟩;rw[htk.out];intro y hy;rcases ahb.1 hy with e|e;exact hI.out y e;rw[ahs]at e;subst e;have hx2:¬(100:Int)<(t.length:Int):=hx;show t.length<=100;omega
 have hke:i=ps.length:=by omega
 subst hke;have g1:¬(ps.length:Int)<(ps.length:Int):=by omega
 rw[ahr]at hI;replace hI:=hid hI;subst hB;refine wk ?_;obtain⟨B,hB⟩:=ag2 (Blk.cells [AV.int IntKind.i64 k,AV.str a,AV.str v,AV.sl PS ps.length none,AV.sl KS ks.length none]);rw[hB];refine ak (λm T' L'=>∃(i:Nat) (y:Int) (Y:List Blk),m=ks.length-i/\i<=ks.length/\0<=y/\y<=60/\X.length<=Y.length/\(∀x∈ks.take i,U8 x)/\T'=[(57,.int .i64 (i:Int)),(56,.int .i64 ks.length),(55,.sl KS ks.length none),(3,.ptr L.length 0),(1,.ptr p 0),(2,.int .i64 d)]/\L'=L.set p (.cells [.int .i64 y])++(B::Y)) (CutS (b:=by simp)) ⟨0,n+1,_,rfl,ahf _,by omega,b1,ag9 _,by simp,rfl,rfl⟩ ?_;rintro _ _ _ ⟨i,y,Y,rfl,hi,hy0,hy1,hXY,hJ,rfl,rfl⟩;by_cases hlt:i<ks.length;have g1:(i:Int)<(ks.length:Int):=by omega
 have g2:=ag4 i (by omega);have e3:=XF hlt;have e4:i*5+5<=KS.length:=by rw[hKS.out,UP];omega
 obtain⟨q,hq⟩:=ag2 (ks.getD i Yk);have hqm:q∈ks:=by rw[<- hq];simp[hlt]
 have htk:ks.take (i+1)=ks.take i++[q]:=by rw[ahw hlt,show ks[i]=q by rw[<- hq];simp[hlt]]
 have hih:∀{p:Nat}{n d:Int}{L:List Blk}{K:ag7},L[p]?=some (.cells [.int .i64 n])->0<=n->n<=60->1<=d->d<=65->(∀(b:Bool) (m:Int),0<=m->m<=61->(b=true->m<=60/\U8 q)->K (.bool b) (L.set p (.cells [.int .i64 m])))->ag6 57 [.agg (fA q),.ptr p 0,.int .i64 d] L K:=λa b c d e f=>ih.out q hqm (r6.out q hqm) a b c d e f
 replace hih:=@hid _ @hih;rw[hq,<- hKS.out]at e3;obtain⟨qk,qa,qv,qp,qs⟩:=q;rw[Ly]at e3;simp only[Ly]at hih;replace hJ:=hid hJ;replace htk:=hid htk;clear hq hqm;clear hKS;refine wk ?_;refine hih.out (f3 _ _) hy0 hy1 (by omega) (by omega) λb m hm0 hm1 hb=>?_
 rw[f8];cases b with
 | false =>
   clear hb;refine sk ?_;refine wk ?_;exact fin.out _ _ _ (h.out false m hm0 hm1 (λe=>by cases e))
 | true =>
   obtain⟨hb1,hb2⟩:=hb rfl;replace hb2:=hid hb2;clear hb;refine sk ?_;refine wk ?_;refine ah _ _ _ (by omega) (CutL (b:=by simp;omega)) ⟨i+1,m,_,rfl,hlt,hm0,hb1,by simp;omega,?_,rfl,rfl⟩;rw[htk.out];intro z hz;rcases ahb.1 hz with e|e
   .exact hJ.out z e
   .rw[ahs]at e;subst e;exact hb2.out
 have hke:i=ks.length:=by omega
 subst hke;have g1:¬(ks.length:Int)<(ks.length:Int):=by omega
 rw[ahr]at hJ;replace hJ:=hid hJ;refine wk ?_;refine fin.out _ _ _ (h.out true y hy0 (by omega) λ_=>⟨hy1,?_⟩);simp only[U8,FlB];exact⟨r1,b3,b4,hI.out,b5,U7 hJ.out⟩
theorem aap{f:Flt}(hf:ac9 f)(h:∀b:Bool,(b=true->U8 f)->K (.bool b) L):
  ag6 25 [.agg (fA f)] L K:=by
 obtain⟨k,a,v,ps,ks⟩:=f;have h2:=λ{p:Nat}{n d:Int}{L:List Blk}{K:ag7}=>Y7 (.mk k a v ps ks) hf (p:=p) (n:=n) (d:=d) (L:=L) (K:=K)
 replace h:=hid h;replace h2:=@hid _ @h2;clear hf;rw[Ly]at *;refine ag5 Pb ?_;refine h2.out (show _=some (Blk.cells [AV.int .i64 0])by simp) (by omega) (by omega) (by omega) (by omega) λb m _ _ hb=>?_
 have h':=hid (h.out b λe=>(hb e).2);simp only[ahT _ _ (aj4 _ _),aj6,ajy,ajV];clear hb;refine sk ?_;refine wk ?_;exact ae rfl h'.out
structure WA(mt jn:List (List Int)->List Int):Prop where
 mtM:∀ls x,x∈mt ls↔ls≠[]/\∀l∈ls,x∈l
 jnM:∀ls x,x∈jn ls↔∃l∈ls,x∈l
 mtR:∀ls,(mt ls).Pairwise (· < ·)
 jnR:∀ls,(jn ls).Pairwise (· < ·)
def wn(wide:Int):Option (List Int)->Option (List Int)
 |none=>none
 |some l=>if wide<(l.length:Int)then none else some l
def aV:List (Option (List Int))->List (List Int)
 |[]=>[]
 |none::r=>aV r
 |some l::r=>l::aV r
def Pi(mt jn:List (List Int)->List Int)(k:Int)(os:List (Option (List Int))):Option (List Int):=
 if k=0 then(if aV os=[]then none else some (mt (aV os)))else if os.all Option.isSome=true then some (jn (aV os))else none
mutual
def Sl(mt jn:List (List Int)->List Int)(leaf:Int->List UInt8->List UInt8->List Pc->Option (List Int))(wide:Int):Flt->Option (List Int)
 |.mk k a v ps ks=>wn wide (if k=0\/k=1 then Pi mt jn k (vy mt jn leaf wide ks)else leaf k a v ps)
def vy(mt jn:List (List Int)->List Int)(leaf:Int->List UInt8->List UInt8->List Pc->Option (List Int))(wide:Int):List Flt->List (Option (List Int))
 |[]=>[]
 |f::r=>Sl mt jn leaf wide f::vy mt jn leaf wide r
end
theorem QW:∀{l m:List Int},l.Pairwise (· < ·)->(∀x∈l,x∈m)->l.length<=m.length
 |[],m,_,_=>by simp
 | a::l,m,h,hs=>by
   rw[ahR]at h;have ha:=hs a (by simp);have:=QW (l:=l) (m:=m.erase a) h.2 λx hx=>(List.mem_erase_of_ne (λe=>by have:=h.1 x hx;omega)).2 (hs x (by simp[hx]))
   have h2:=List.length_erase_of_mem ha;have h3:=List.length_pos_of_mem ha;simp only[ahj];omega
def Pk(a b:Option (List Int)):Prop:=∀l,a=some l->∃m,b=some m/\∀x∈m,x∈l
def Oj:List (Option (List Int))->List (Option (List Int))->Prop
 |[],[]=>True
 |a::l,b::m=>Pk a b/\Oj l m
 |_,_=>False
theorem PO:∀{os qs:List (Option (List Int))},Oj os qs->(∀l∈aV os,∃m∈aV qs,∀x∈m,x∈l)/\(aV os≠[]->aV qs≠[])
 |[],[],_=>⟨λl hl=>(by cases hl),λh=>absurd rfl h⟩
 |[],b::m,h=>h.elim
 |a::l,[],h=>h.elim
 | a::l,b::m,h=>by
   obtain⟨h1,h2⟩:=PO h.2;cases a with
   | none =>
     cases b with
     |none=>exact⟨h1,h2⟩
     |some y=>exact⟨λl hl=>by obtain⟨m,q1,q2⟩:=h1 l hl;exact⟨m,by simp[aV,q1],q2⟩,λ_=>by simp[aV]⟩
   | some x =>
     obtain⟨y,e,q⟩:=h.1 x rfl;subst e;refine⟨λl hl=>?_,λ_=>by simp[aV]⟩;rw[aV,ahc]at hl;rcases hl with rfl|hl
     .exact⟨y,by simp[aV],q⟩
     .obtain⟨m,q1,q2⟩:=h1 l hl;exact⟨m,by simp[aV,q1],q2⟩
theorem Rn:∀{os qs:List (Option (List Int))},Oj os qs->os.all Option.isSome=true->qs.all Option.isSome=true/\∀m∈aV qs,∃l∈aV os,∀x∈m,x∈l
 |[],[],_,_=>⟨rfl,λm hm=>(by cases hm)⟩
 |[],b::m,h,_=>h.elim
 |a::l,[],h,_=>h.elim
 | a::l,b::m,h,ha=>by
   rw[aiF,ahe]at ha;obtain⟨h1,h2⟩:=Rn h.2 ha.2;cases a with
   |none=>cases ha.1
   | some x =>
     obtain⟨y,e,q⟩:=h.1 x rfl;subst e;refine⟨by rw[aiF,h1];rfl,λm' hm=>?_⟩;rw[aV,ahc]at hm;rcases hm with rfl|hm
     .exact⟨x,by simp[aV],q⟩
     .obtain⟨l',q1,q2⟩:=h2 m' hm;exact⟨l',by simp[aV,q1],q2⟩
theorem VC{w1 w2:Int}(hw:w1<=w2){a b:Option (List Int)}(hr:∀m,b=some m->m.Pairwise (· < ·))(h:Pk a b):Pk (wn w1 a) (wn w2 b):=λl e=>by
 cases a with
 |none=>cases e
 | some x =>
   rw[wn]at e;split at e
   .cases e
   .rename_i hn;cases e;obtain⟨m,e2,q⟩:=h l rfl;subst e2;have:=QW (hr m rfl) q;exact⟨m,by rw[wn,if_neg (by omega)],q⟩
theorem TG{mt jn:List (List Int)->List Int}(hp:WA mt jn){k:Int}{os:List (Option (List Int))}{m:List Int}(h:Pi mt jn k os=some m):m.Pairwise (· < ·):=by unfold Pi at h;split at h;split at h;cases h;cases h;exact hp.mtR _;split at h;cases h;exact hp.jnR _;cases h
theorem VM{mt jn:List (List Int)->List Int}(hp:WA mt jn){k:Int}{os qs:List (Option (List Int))}(h:Oj os qs):Pk (Pi mt jn k os) (Pi mt jn k qs):=λl e=>by unfold Pi at e⊢;by_cases hk:k=0;rw[if_pos hk]at e⊢;split at e;cases e;rename_i hne;cases e;obtain⟨h1,h2⟩:=PO h;refine⟨_,if_neg (h2 hne),λx hx=>(hp.mtM _ _).2 ⟨hne,λl hl=>?_⟩⟩;obtain⟨m,q1,q2⟩:=h1 l hl;exact q2 x (((hp.mtM _ _).1 hx).2 m q1);rw[if_neg hk]at e⊢;split at e;rename_i hall;cases e;obtain⟨h1,h2⟩:=Rn h hall;refine⟨_,if_pos h1,λx hx=>(hp.jnM _ _).2 ?_⟩;obtain⟨m,q1,q2⟩:=(hp.jnM _ _).1 hx;obtain⟨l,q3,q4⟩:=h2 m q1;exact⟨l,q3,q4 x q2⟩;cases e
mutual
theorem Wu{mt jn:List (List Int)->List Int}(hp:WA mt jn){leaf:Int->List UInt8->List UInt8->List Pc->Option (List Int)}(hl:∀k a v ps m,leaf k a v ps=some m->m.Pairwise (· < ·)){w1 w2:Int}(hw:w1<=w2):∀f:Flt,Pk (Sl mt jn leaf w1 f) (Sl mt jn leaf w2 f)
 | .mk k a v ps ks=>by
   rw[Sl,Sl];refine VC hw (λm e=>?_) ?_
   .split at e
    .exact TG hp e
    .exact hl _ _ _ _ _ e
   .split
    .exact VM hp (Uf hp hl hw ks)
    .exact λl e=>⟨l,e,λx hx=>hx⟩
theorem Uf{mt jn:List (List Int)->List Int}(hp:WA mt jn){leaf:Int->List UInt8->List UInt8->List Pc->Option (List Int)}(hl:∀k a v ps m,leaf k a v ps=some m->m.Pairwise (· < ·)){w1 w2:Int}(hw:w1<=w2):∀ks:List Flt,Oj (vy mt jn leaf w1 ks) (vy mt jn leaf w2 ks)
 |[]=>by rw[vy,vy];trivial
 |f::r=>by rw[vy,vy];exact⟨Wu hp hl hw f,Uf hp hl hw r⟩
end
theorem aeH{mt jn:List (List Int)->List Int}{leaf:Int->List UInt8->List UInt8->List Pc->Option (List Int)}{w:Int}{f:Flt}{l:List Int}(h:Sl mt jn leaf w f=some l):(l.length:Int)<=w:=by
 obtain⟨k,a,v,ps,ks⟩:=f;rw[Sl]at h;cases hx:(if k=0\/k=1 then Pi mt jn k (vy mt jn leaf w ks)else leaf k a v ps)with
 |none=>rw[hx]at h;cases h
 | some m =>
   rw[hx,wn]at h;split at h
   .cases h
   .cases h;omega
def abQ(tys:List (List UInt8×Int))(ty:List UInt8->Option Int)(L:List bd)(k:Int)(a v:List UInt8)(ps:List Pc):Option (List Int):=match ty (af a)with
 |none=>none
 |some syn=>if k=3\/k=8 then some (aeq tys L (af a) syn v)else if k=7 then some (lr L (af a))else if k=4/\syn<=3/\NO ps=true then some (Qa tys L (af a) syn ps)else none
end Go.Proofs.YtcmfcpjnhephaaaGreatDoor.Av
set_option maxRecDepth 100000
namespace Go.Proofs.YtcmfcpjnhephaaaGreatDoor.Av
open Go
def gB:List ai :=
 [⟨(some 2),(.mv (.av (.sl [] 0 (some 0)))),none⟩]
def gA:List ai :=
 [⟨(some 3),(.mv (tm 0)),none⟩,⟨(some 4),(.slnil false (tm 3)),none⟩]
def gz:List ai :=
 [⟨(some 2),(.mv (.av (.sl [] 0 (some 0)))),none⟩]
def gy:List ai :=
 [⟨(some 5),(.bslice false 1 0 [] []),none⟩,⟨(some 6),(.mv (tm 0)),none⟩,⟨(some 7),(.app 2 1 8 [(.int .i64 0)] (tm 5) (tm 6)),none⟩,⟨(some 2),(.mv (tm 7)),none⟩]
def cN:aO:=⟨8,(.seq (.region gB) (.seq (.seq (.region gA) (aki 4 (.region gz))) (.seq (.region gy) .ret))),[(.tmp 2)]⟩
attribute [push_cast] gB gA gz gy
theorem gm:aR Tryz.prog (λr i=>if r=3/\i=2 then 2 else 1) 114=some cN.raw:=by kernel_rfl
def eI:List ai :=
 [⟨(some 4),(.mv (.av (.sl [] 0 (some 0)))),none⟩]
def eH:List ai :=
 [⟨(some 8),(.mv (tm 0)),none⟩,⟨(some 9),(.mv (tm 1)),none⟩,⟨(some 10),(.call 116 [(tm 8),(tm 9)]),none⟩,⟨(some 5),(.mv (tm 10)),none⟩]
def eG:List ai :=
 [⟨(some 11),(.mv (tm 5)),none⟩,⟨(some 12),(.bin .eql (tm 11) (iv (-1))),none⟩]
def eF:List ai :=
 [⟨(some 13),(.mv (tm 0)),none⟩,⟨(some 4),(.mv (tm 13)),none⟩]
def eE:List ai :=
 [⟨(some 14),(.mv (tm 5)),none⟩,⟨(some 15),(.bin .add (tm 14) (iv 1)),none⟩,⟨(some 6),(.mv (tm 15)),none⟩]
def eD:List ai :=
 [⟨(some 16),(.mv (tm 6)),none⟩,⟨(some 17),(.mv (tm 0)),none⟩,⟨(some 18),(.len false (tm 17)),none⟩,⟨(some 19),(.bin .lss (tm 16) (tm 18)),none⟩]
def eC:List ai :=
 [⟨(some 22),(.mv (tm 0)),none⟩,⟨(some 23),(.mv (tm 6)),none⟩,⟨(some 24),(.iaddr 1 (tm 22) (tm 23)),none⟩,⟨(some 25),(.load false 1 (tm 24)),none⟩,⟨(some 7),(.mv (tm 25)),none⟩]
def eB:List ai :=
 [⟨(some 26),(.mv (tm 1)),none⟩,⟨(some 27),(.mv (tm 7)),none⟩,⟨(some 28),(.callv (tm 26) [(tm 27)]),none⟩,⟨(some 29),(.un .not (tm 28)),none⟩]
def eA:List ai :=
 [⟨(some 30),(.mv (tm 0)),none⟩,⟨(some 31),(.mv (tm 5)),none⟩,⟨(some 32),(.mv (tm 7)),none⟩,⟨(some 33),(.iaddr 1 (tm 30) (tm 31)),none⟩,⟨none,(.store 1 (tm 33) (tm 32)),none⟩]
def ez:List ai :=
 [⟨(some 34),(.mv (tm 5)),none⟩,⟨(some 35),(.bin .add (tm 34) (iv 1)),none⟩,⟨(some 5),(.mv (tm 35)),none⟩]
def d8:List ai :=
 [⟨(some 20),(.mv (tm 6)),none⟩,⟨(some 21),(.bin .add (tm 20) (iv 1)),none⟩,⟨(some 6),(.mv (tm 21)),none⟩]
def d7:List ai :=
 [⟨(some 36),(.mv (tm 0)),none⟩,⟨(some 37),(.mv (tm 5)),none⟩,⟨(some 38),(.slV 1 (tm 36) (some (tm 37)) none none),none⟩,⟨none,(.clear 1 [(.int .i64 0)] (tm 38)),none⟩]
def d6:List ai :=
 [⟨(some 39),(.mv (tm 0)),none⟩,⟨(some 40),(.mv (tm 5)),none⟩,⟨(some 41),(.slV 1 (tm 39) none (some (tm 40)) none),none⟩,⟨(some 4),(.mv (tm 41)),none⟩]
def bV:aO:=⟨42,(.seq (.region eI) (.seq (.region eH) (.seq (.seq (.region eG) (aki 12 (.region eF))) (.seq (.seq (.region eE) (akj 0 (.seq (.seq (.region eD) (akk 19 0)) (.seq (.block 1 (.seq (.region eC) (.seq (.region eB) (akh 29 (.seq (.region eA) (.region ez)) .skip)))) (.region d8))))) (.seq (.region d7) (.seq (.region d6) .ret)))))),[(.tmp 4)]⟩
attribute [push_cast] eI eH eG eF eE eD eC eB eA ez d8 d7 d6
theorem ek:akl 67=akm bV:=by kernel_rfl
def fe:List ai :=
 [⟨(some 4),(.mv (iv 0)),none⟩]
def fc:List ai :=
 [⟨(some 6),(.mv (tm 0)),none⟩,⟨(some 7),(.len false (tm 6)),none⟩,⟨(some 8),(.mv (iv 0)),none⟩]
def fa:List ai :=
 [⟨(some 9),(.bin .lss (tm 8) (tm 7)),none⟩]
def eZ:List ai :=
 [⟨(some 10),(.mv (tm 8)),none⟩,⟨(some 5),(.mv (tm 10)),none⟩]
def eY:List ai :=
 [⟨(some 11),(.mv (tm 1)),none⟩,⟨(some 12),(.mv (tm 0)),none⟩,⟨(some 13),(.mv (tm 5)),none⟩,⟨(some 14),(.iaddr 1 (tm 12) (tm 13)),none⟩,⟨(some 15),(.load false 1 (tm 14)),none⟩,
 ⟨(some 16),(.callv (tm 11) [(tm 15)]),none⟩]
def eX:List ai :=
 [⟨(some 17),(.mv (tm 5)),none⟩,⟨(some 4),(.mv (tm 17)),none⟩]
def eW:List ai :=
 [⟨(some 18),(.bin .add (tm 8) (iv 1)),none⟩,⟨(some 8),(.mv (tm 18)),none⟩]
def eV:List ai :=
 [⟨(some 4),(.mv (iv (-1))),none⟩]
def cf:aO:=⟨19,(.seq (.region fe) (.seq (.seq (.region fc) (akj 0 (.seq (.region fa) (.seq (akk 9 0) (.seq (.block 1 (.seq (.region eZ) (.seq (.region eY) (aki 16 (.region eX))))) (.region eW)))))) (.seq (.region eV) .ret))),[(.tmp 4)]⟩
attribute [push_cast] fe fc fa eZ eY eX eW eV
theorem eK:akl 116=akm cf:=by kernel_rfl
end Go.Proofs.YtcmfcpjnhephaaaGreatDoor.Av
set_option maxRecDepth 100000
namespace Go.Proofs.YtcmfcpjnhephaaaGreatDoor.Av
open Go
def Gj:LSO:=[Aj 2]
def Gi:LSO:=[Aa 4 0,Ak 5 114 4,Aa 3 5]
def Gh:LSO:=[Aa 6 3,Ak 7 105 6]
def Gg:LSO:=[Aa 8 3,Ak 9 115 8,Aa 2 9]
def eP:aO:=⟨10,(akg Gj [] (akg Gi Cr (akg Gh Cy (akg Gg Cr .ret)))),[(.tmp 2)]⟩
attribute [push_cast] Gj Gi Gh Gg
theorem oT:akl 66=akm eP:=by kernel_rfl
def Kf:LSO:=[Aj 2]
def Ke:LSO:=[Aa 7 0,Am 8 7,Aq 9 8 0]
def Kc:LSO:=[Aj 2]
def Kb:LSO:=[Aa 10 0,o1 11 (.iaddr 1 (tm 10) (iv 0)),Ab 12 1 11,Ak 13 66 12,Aa 3 13]
def Ka:LSO:=[Aa 14 0,o1 15 (.slV 1 (tm 14) (some (iv 1)) none none),Am 16 15,Ac 17 0]
def J9:LSO:=[Al 18 17 16]
def J8:LSO:=[An 19 1 15 17,Ab 20 1 19,Aa 5 20]
def J7:LSO:=[Aa 21 5,Ak 22 66 21,o1 6 (.alloc [(.sl [] 0 (some 0))]),Ai 1 6 22]
def J6:LSO:=[Aa 23 3,o1 24 (.mkfn 68 [(tm 6)]),Ax 25 67 23 24,Aa 3 25]
def J5:LSO:=[Ag 26 17 1,Aa 17 26]
def Gv:LSO:=[Aa 27 3,Aa 2 27]
def Ie:aO:=⟨28,(akg Kf [] (.seq (akg Ke Cr (aki 9 (.sreg Kc []))) (akg Kb Ct (.seq (akg Ka CA (akj 0 (akg J9 [] (.seq (akk 18 0) (.seq (.block 1 (akg J8 Cr (akg J7 Cr (.sreg J6 Cs)))) (.sreg J5 Cq)))))) (akg Gv Cq .ret))))),[(.tmp 2)]⟩
attribute [push_cast] Kf Ke Kc Kb Ka J9 J8 J7 J6 J5 Gv
theorem R8:akl 29=akm Ie:=by kernel_rfl
def zA:LSO:=[Af 3]
def zy:LSO:=[Ab 7 1 1,Aa 8 0,Ax 9 69 7 8,Aa 6 9,Ar 10 6,Aw 11 6,Aa 4 10,Aa 5 11]
def zx:LSO:=[Aa 12 5,Ay 13 12,Aa 3 13]
def rL:aO:=⟨14,(akg zA [] (akg zy Cx (akg zx Cr .ret))),[(.tmp 3)]⟩
attribute [push_cast] zA zy zx
theorem O7:akl 68=akm rL:=by kernel_rfl
def Kh:LSO:=[Aj 2]
def Kg:LSO:=[Aa 3 0,Ak 4 153 3,Ak 5 66 4,Aa 2 5]
def If:aO:=⟨6,(akg Kh [] (akg Kg Cs .ret)),[(.tmp 2)]⟩
attribute [push_cast] Kh Kg
theorem R9:akl 108=akm If:=by kernel_rfl
def gi:LSO:=[Aj 2]
def gh:LSO:=[Ac 3 0]
def gg:LSO:=[Aa 9 0,Am 10 9,Ac 11 0]
def gf:LSO:=[Al 12 11 10]
def gc:LSO:=[An 13 1 9 11,Ab 14 1 13,Aa 5 14]
def gb:LSO:=[Aa 15 3,Aa 16 5,Am 17 16,AY 18 15 17,Aa 3 18]
def ga:LSO:=[Aa 19 3,AH 20 19 0]
def f9:LSO:=[o1 21 (.mkif 9 (.av (.str [108,101,110,32,111,117,116,32,111,102,32,114,97,110,103,101]))),
 .op ⟨none,.bad,none⟩]
def fZ:LSO:=[Ag 22 11 1,Aa 11 22]
def fY:LSO:=[Aa 23 3,o1 24 (.call 190 [(.av (.sl [] 0 (some 0))),(tm 23)]),Aa 6 24]
def fL:LSO:=[Aa 25 0,Am 26 25,Ac 27 0]
def fK:LSO:=[Al 28 27 26]
def fJ:LSO:=[An 29 1 25 27,Ab 30 1 29,Aa 8 30]
def fI:LSO:=[Aa 31 6,Aa 32 8,o1 33 (.app 1 1 8 [(.int .i64 0)] (tm 31) (tm 32)),Aa 6 33]
def fH:LSO:=[Ag 34 27 1,Aa 27 34]
def fG:LSO:=[Aa 35 6,Aa 2 35]
def eo:aO:=⟨36,(akg gi [] (akg gh [] (.seq (akg gg [] (akj 0 (akg gf [] (.seq (akk 12 0) (.seq (.block 1 (akg gc Cr (akg gb Ct (akg ga Cq (akh 20 (.sreg f9 C3) .skip))))) (.sreg fZ Cq)))))) (akg fY Cr (.seq (akg fL [] (akj 2 (akg fK [] (.seq (akk 28 2) (.seq (.block 3 (akg fJ Cr (.sreg fI Cs))) (.sreg fH Cq)))))) (akg fG Cq .ret)))))),[(.tmp 2)]⟩
attribute [push_cast] gi gh gg gf gc gb ga f9 fZ fY fL fK fJ fI fH fG
theorem qm:akl 153=akm eo:=by kernel_rfl
def Hq:LSO:=[Af 4]
def Hp:LSO:=[Aa 6 0,Am 7 6,Aa 8 1,Am 9 8,BN 10 7 9]
def Ho:LSO:=[Af 4]
def Hn:LSO:=[Aa 11 0,Am 12 11,Ac 13 0]
def Hm:LSO:=[Al 14 13 12]
def Hl:LSO:=[Aa 15 13,Aa 5 15]
def Hk:LSO:=[Aa 16 0,Aa 17 5,An 18 1 16 17,Ab 19 1 18,Aa 20 1,Aa 21 5,An 22 1 20 21,Ab 23 1 22,BN 24 19 23]
def Hj:LSO:=[Af 4]
def Hi:LSO:=[Ag 25 13 1,Aa 13 25]
def Hh:LSO:=[A0 4]
def wi:aO:=⟨26,(akg Hq [] (.seq (akg Hp Ct (aki 10 (.sreg Ho []))) (.seq (akg Hn Cv (akj 0 (akg Hm [] (.seq (akk 14 0) (.seq (.block 1 (akg Hl Cq (.seq (.sdreg Hk [.pure,.pure,(.read 0 0),(.read 0 0),.pure,.pure,(.read 0 0),(.read 0 0)] CC) (aki 24 (.sreg Hj []))))) (.sreg Hi Cq)))))) (akg Hh [] .ret)))),[(.tmp 4)]⟩
attribute [push_cast] Hq Hp Ho Hn Hm Hl Hk Hj Hi Hh
theorem Qq:akl 22=akm wi:=by kernel_rfl
end Go.Proofs.YtcmfcpjnhephaaaGreatDoor.Av
set_option maxRecDepth 100000
namespace Go.Proofs.YtcmfcpjnhephaaaGreatDoor.Av
open Go
variable {L L' X:List Blk}{i n b it:Nat}{xs ys m:List Int}{rest caps:List AV}{f:FuncId}{cp cap:Option Nat}{ok:List Blk->Prop}{q:Int->Bool}{v:AV}{ls:List (List Int)}{K:ag7}{l:List bd}{w:Int}
attribute [push_cast] cN bV cf eP rL If eo
open Go Go.Sort
variable {L:List Blk}{K:ag7}
theorem Oq{k:Blk}(h:L[i]?=some k):L.set i k=L:=by apply aiB;intro j;rw[ahv];split;rename_i e;subst e;have hi:=(ag8.1 h).1;rw[if_pos hi,h];rfl
theorem Rel.putInts{w0:World}{S0:SB}{E:Env}{w:World}(h:Rel w0 S0 E L w){d:List Int}{c:Loc}(hi:L[i]?=some (.cells (bZ xs++rest)))(hc:E.loc i=some c)(hd:d.length=xs.length)(q:Nat):
  Rel w0 S0 E (L.set i (.cells (bZ d++rest))) (putRow (Value.int .i64) (Sort.ahead w q) c.blk c.off d.toArray):=by
 obtain⟨c',cs,ty,fr,h1,h2,h3,h4,h5,h6⟩:=h.blk i _ hi;rw[hc]at h1;cases h1;have hlt:c.blk<w.heap.size:=(ah8.1 h2).1;have e1:(putRow (Value.int .i64) (Sort.ahead w q) c.blk c.off d.toArray).heap[c.blk]?=some (.cells (putCells (Value.int .i64) c.off d.toArray cs) ty fr):=by simp[putRow,mapBlock,Sort.ahead,ai1,h2,onCells]
 have hlen:(bZ xs++rest).length=xs.length+rest.length:=by simp
 refine h.turn (k':=.cells (bZ d++rest)) hi rfl hc (by simp) (λb hb=>?_) rfl rfl rfl ⟨c,_,ty,fr,hc,e1,by simp[putCells,h3],?_,λj a ha=>?_,h6⟩ (λ_ _ e=>by cases e);have:c.blk≠b:=λe=>hb e.symm
 simp[putRow,mapBlock,Sort.ahead,ai1,this];rw[hlen]at h4;simp only[ahq,ahP,hd];omega;rw[hlen]at h4;have hj:j<d.length+rest.length:=by have:=(ag8.1 ha).1;simpa using this
 have hcs:c.off+j<cs.size:=by omega
 have ep:(putCells (Value.int .i64) c.off d.toArray cs)[c.off+j]?=some (if c.off<=c.off+j/\c.off+j<c.off+d.length then Value.int .i64 (d.toArray[c.off+j-c.off]!)else cs[c.off+j]):=by simp[putCells,hcs]
 by_cases hjd:j<d.length;have ea:a=.int .i64 d[j]:=by rw[ahi (by simpa using hjd)]at ha;simpa[hjd]using ha.symm
 subst ea;refine⟨_,ep,?_⟩;rw[if_pos (by omega),show c.off+j-c.off=j by omega];simp[VR,hjd];have ha':(bZ xs++rest)[j]?=some a:=by rw[ahB (by simp;omega)]at ha⊢;simpa[hd]using ha
 obtain⟨v,g1,g2⟩:=h5 j a ha';refine⟨v,?_,g2⟩;rw[ep,if_neg (by omega),<- g1];simp[hcs]
theorem Tc{w0:World}{S0:SB}{E:Env}{w:World}(h:Rel w0 S0 E L w){c:Loc}(hi:L[i]?=some (.cells (bZ xs++rest)))(hc:E.loc i=some c):
  Holds (Value.int .i64) w c.blk c.off xs.toArray/\c.blk<w.heap.size:=by
 obtain⟨c',cs,ty,fr,h1,h2,h3,h4,h5,h6⟩:=h.blk i _ hi;rw[hc]at h1;cases h1;refine⟨λj hj=>?_,(ah8.1 h2).1⟩;have hj':j<xs.length:=by simpa using hj
 obtain⟨v,g1,g2⟩:=h5 j (.int .i64 xs[j]) (by rw[ahi (by simpa using hj')];simp[hj']);simp only[VR]at g2;subst g2;refine⟨by simp[World.cell?,h2,g1,hj'],?_⟩;have h7:=h6 (c.off+j) (by omega) (by simp only[ahq,ahP]at h4;omega);simp only[World.frozen?,h2];obtain⟨f1,f2⟩:=fr;simp only at h7;simp only[ajl,decide_eq_false_iff_not];omega
theorem ql{P:Program}{fn:Func}(hf:P.funcs[f]?=some fn)(hb:fn.body.isSome=true)(hn:(fn.name == "runtime.NumGoroutine")=false)(args:Array Value)(w:World):(callFunc f args).run P w=.ok (.enter f args) w:=by
 simp only[callFunc,ahg,run_program,ahh,hf,hn];cases h:fn.body with
 |none=>simp[h]at hb
 |some c=>simp
theorem afe(hx:xs≠[])(hn:xs.length<=1000000)(hL:L[i]?=some (.cells (bZ xs++rest)))(h:K (.tup []) (L.set i (.cells (bZ (eg xs)++rest)))):
  ag6 105 [.lsl i 0 xs.length cp 1] L K:=λw0 S0 E w vs hR hv=>by
 simp only[VRL,VR]at hv;obtain⟨_,_,rfl,⟨c,rc,d,hc,rfl,hd,hle,_,_⟩,rfl⟩:=hv;have hpos:0<xs.length:=ain.2 hx;have hd':d=c.off:=by have:=hd (by omega);omega
 subst hd';obtain⟨hH,hlt⟩:=Tc hR hL hc;refine .inl ⟨ql Tryz.func105 rfl (by kernel_rfl) _ _,(Tryz.slices_Sort_int c.blk c.off rc xs w hH hlt (by omega)).mono ?_⟩;rintro e w' ⟨rfl,q,os,rfl⟩;have r1:=hR.putInts hL hc (d:=eg xs) ((cQ xs).length_eq) q;rw[TI];refine⟨E,_,_,_,rfl,.refl E,h,by simp[VR,VRL],r1.grown ?_⟩;exact⟨λb hb=>ajR hb,by simp[grow],rfl,rfl,rfl⟩
theorem adE(h:K (.tup []) L):ag6 105 [.sl [] 0 cap] L K :=
 cW Tryz.func105 rfl (by kernel_rfl) (λw0 S0 E w vs hR hv=>by simp only[VRL,VR]at hv;obtain⟨_,_,rfl,⟨p,c,rfl,_⟩,rfl⟩:=hv;exact(Tryz.slices_Sort_int_none p c w).mono λe w' ⟨he,hw⟩=>⟨_,he,by simp[VR,VRL],by subst hw;exact rT.refl _⟩) h
def kY(xs:List Int):List Int:=Lib.compact xs
def dG(n:Nat):List AV:=bZ (List.replicate n 0)
theorem XK(xs:List Int):(kY xs).length<=xs.length:=by unfold kY Lib.compact Lib.compactUpTo;rw[ahP];have:=ai0 (Lib.keeps xs.toArray) (List.range xs.length);simpa using this
theorem aac(hx:xs≠[])(hn:xs.length<=1000000)(hL:L[i]?=some (.cells (bZ xs++rest)))(h:∀z,K (.lsl i 0 (kY xs).length none 1) (L.set i (.cells (bZ (kY xs)++(dG z++rest))))):
  ag6 115 [.lsl i 0 xs.length none 1] L K:=λw0 S0 E w vs hR hv=>by
 simp only[VRL,VR]at hv;obtain⟨_,_,rfl,⟨c,rc,d,hc,rfl,hd,hle,_,hsz⟩,rfl⟩:=hv;have hpos:0<xs.length:=ain.2 hx;have hd':d=c.off:=by have:=hd (by omega);omega
 subst hd';obtain⟨hH,hlt⟩:=Tc hR hL hc;have hcl:=XK xs;refine .inl ⟨ql Tryz.func115 rfl (by kernel_rfl) _ _,(Tryz.slices_Compact_int c.blk c.off rc xs w hH (by omega) hle).mono ?_⟩;rintro e w' ⟨rfl,q,rfl⟩;have r1:=hR.putInts hL hc (d:=Lib.compact xs++List.replicate (xs.length-(Lib.compact xs).length) 0) (by simp only[kY]at hcl;simp;omega) q;refine⟨E,_,_,_,rfl,.refl E,h (xs.length-(Lib.compact xs).length),?_,?_⟩;simp only[VR];exact⟨c,rc,c.off,hc,rfl,λ_=>by omega,by simp only[kY]at hcl⊢;omega,(λk hk=>by cases hk),hsz⟩;simpa[bZ,dG,kY]using r1
theorem XJ(h:K (.sl [] 0 cap) L):ag6 115 [.sl [] 0 cap] L K :=
 cW Tryz.func115 rfl (by kernel_rfl) (λw0 S0 E w vs hR hv=>by simp only[VRL]at hv;obtain⟨v,_,rfl,hv,rfl⟩:=hv;have hv':=hv;simp only[VR]at hv;obtain⟨p,c,rfl,_⟩:=hv;exact(Tryz.slices_Compact_int_empty p c w).mono λe w' ⟨he,hw⟩=>⟨_,he,hv',by subst hw;exact rT.refl _⟩) h
theorem agW{x:Int}(hn:ys.length<=1000000)(hs:ys.Pairwise (·<=·))(h:K (.tup [.int .i64 (ys.countP (·<x):Nat),.bool (ys.contains x)]) L):
  ag6 69 [.sl (bZ ys) ys.length cap,.int .i64 x] L K :=
 cW Tryz.func69 rfl (by kernel_rfl) (λw0 S0 E w vs hR hv=>by
  simp only[VRL,VR]at hv;obtain⟨_,_,rfl,⟨p,c,rfl,hle,_,hp⟩,_,_,rfl,rfl,rfl⟩:=hv;by_cases hy:ys=[];subst hy;exact(Tryz.slices_BinarySearch_int_empty p c x w).mono λe w' ⟨he,hw⟩=>⟨_,he,by simp[VR,VRL],by subst hw;exact rT.refl _⟩
  rcases hp with⟨e0,_⟩|⟨b,o,rfl,hcells⟩;exact absurd (ahH.1 e0) hy;refine(Tryz.slices_BinarySearch_int b o ys.length c ys x w (ag9 _) (by omega) (λj hj=>?_) (by simpa using hs)).mono λe w' ⟨he,q,hw⟩=>⟨_,he,by simp[VR,VRL],by subst hw;exact⟨λ_ _=>rfl,ag9 _,rfl,rfl,rfl⟩⟩
  obtain⟨v,g1,g2⟩:=hcells.get (i:=j) (a:=.int .i64 ys[j]) (by simp[hj]);simp only[VR]at g2;subst g2;have:=hR.mem _ _ _ g1;rw[this];simp[hj]) h
open Go Go.Sort Go.Proofs
theorem adq(z:Array Value):∀k,(Builtin.zeroCells z k).size=k*z.size:=by intro k;simp[Builtin.zeroCells]
theorem ab0:∃i0,Tryz.prog.info? 3=some i0/\i0.zero=some (.int .i64 0)/\i0.size=1/\i0.bytes=8:=by
 have h:(Tryz.prog.info? 3).map (λi=>(i.zero,i.size,i.bytes))=some (some (.int .i64 0),1,8):=by kernel_rfl
 cases hi:Tryz.prog.info? 3 with
 |none=>rw[hi]at h;cases h
 | some i0 =>
   rw[hi]at h;simp only[ahu,aha,ahm]at h;exact⟨i0,rfl,h⟩
theorem aej(h:K (.sl [] 0 (some 0)) L):ag6 190 [.sl [] 0 (some 0),.int .i64 0] L K :=
 cW Tryz.func190 rfl (by kernel_rfl) (λw0 S0 E w vs hR hv=>by simp only[VRL]at hv;obtain⟨v,_,rfl,hv,_,_,rfl,h2,rfl⟩:=hv;have hv':=hv;simp only[VR]at hv h2;obtain⟨p,c,rfl,_,h3,_⟩:=hv;have hc:c=0:=h3 0 rfl;subst hc;subst h2;exact(Any8.slices_Grow_room Tryz.growI p 0 0 0 w (ag9 _) (by omega) (by omega) (by omega)).mono λe w' ⟨he,hw⟩=>⟨_,he,hv',by subst hw;exact rT.refl _⟩) h
theorem afM(h0:0<n)(hn:n<=4000000)(h:K (.lsl L.length 0 0 none 1) (L++[.cells []])):ag6 190 [.sl [] 0 (some 0),.int .i64 (n:Int)] L K:=λw0 S0 E w vs hR hv=>by
 simp only[VRL,VR]at hv;obtain⟨_,_,rfl,⟨p,c,rfl,_,h3,_⟩,_,_,rfl,rfl,rfl⟩:=hv;have hc:c=0:=h3 0 rfl;subst hc;obtain⟨i0,i1,i2,i3,i4⟩:=ab0;refine .inl ⟨ql Tryz.func190 rfl (by kernel_rfl) _ _,(Any8.slices_Grow_grow Tryz.growI i0 (.int .i64 0) i1 i2 (by omega) p 0 0 n [] w (ag9 _) (by omega) (by rw[i4];omega) (by omega) (by simp) (λ_=>rfl) (λa _ j v hj=>by simp at hj)).mono ?_⟩;rintro e w' ⟨rfl,rfl⟩;have r0:Rel w0 S0 E L w.drew:=hR.grown ⟨λ_ _=>rfl,ag9 _,rfl,rfl,rfl⟩
 let cs:Array Value:=([]:List Value).toArray++Builtin.zeroCells (Value.int .i64 0).cells (0+n-0)++Builtin.zeroCells (Value.int .i64 0).cells (grownCap w (0+n) 0 3-(0+n))
 have hcs:cs.size=n+(grownCap w (0+n) 0 3-n):=by simp only[cs,Array.size_append,adq];have:(Value.int .i64 0).cells.size=1:=rfl;rw[this];simp
 have r1:=r0.push (.cells cs 3) (.cells []) ⟨w.heap.size,0,cs.size⟩ rfl rfl ⟨⟨w.heap.size,0,cs.size⟩,cs,3,(0,0),by simp,(show(w.heap.push (Obj.cells cs 3))[w.heap.size]?=some (Obj.cells cs 3 (0,0))by simp),rfl,by simp,(λj a ha=>by simp at ha),λo _ _=>by omega⟩;refine⟨_,_,_,_,rfl,r1.1,h,?_,r1.2⟩;simp only[VR];exact⟨⟨w.heap.size,0,cs.size⟩,grownCap w (0+n) 0 3,0,by simp,rfl,λ_=>rfl,ahf _,(λk hk=>by cases hk),by simp only[hcs];omega⟩
set_option maxHeartbeats 8000000
set_option maxRecDepth 100000
theorem XL(h:K (.sl [] 0 (some 0)) L):ag6 114 [.sl [] 0 cap] L K:=by
 refine ad gm (by simp[cN]) ?_;simp only[cN,am]
 repeat' first
  |refine br ?_
  | (first|refine bh (by kernel_rfl) ?_|refine aH (by kernel_rfl) ?_|refine aK ?_|refine cO ?_|refine bB (fun _=>?_)|refine aB ?_|refine bm ?_)
    refine sm ?_
  | (first|refine a8 (by kernel_rfl) ?_|refine bc ?_|refine aJ ?_|refine bj ?_|refine bG (aA ?_))
    refine sl ?_
  |exact bC
  |first|apply bD|apply be|apply bE|apply bf|apply bF|apply bg
  |refine aN ?_
  |refine aI ?_
  |first|refine aL rfl ?_|refine aM rfl ?_|refine aw rfl ?_ ?_|refine aQ rfl (λ_=>?_) (λ_=>?_)|refine aP rfl (λ_=>?_) (λ_=>?_)
  |((first|refine au (λ_=>?_) (λ_=>?_)|refine az (λ_=>?_) (λ_=>?_))<;>try refine sm ?_)
  |refine And.intro trivial ?_
  |refine And.intro (by omega) ?_
  |refine aU rfl (λ_=>?_) (λ_=>?_)
  |refine And.intro ?_ ?_
 all_goals (first|refine ae rfl (Kto h ?_)|refine aa (Kto h ?_)|refine ae (by simp only[AV.refs,AV.refsL, *];rfl) (Kto h ?_)|refine ba (ae rfl (Kto h ?_))|(trace_state;fail))
 all_goals (first|(simp[*];done)|(simp[*];omega)|(simp[*];intros;omega)|(simp_all[Hid,Hid];done)|(simp_all[Hid,Hid];omega))
theorem T8(h0:xs.length≠0)(hn:xs.length<=1000000)(h:K (.lsl L.length 0 xs.length none 1) (L++[.cells (bZ xs)])):
  ag6 114 [.sl (bZ xs) xs.length cap] L K:=by
 refine ag5 gm ?_;refine QG L.length (.cells (bZ xs)) rfl (ag9 _) (by simp) (by simp[AV.refs]) (hU xs) ?_;simpa[AV.ren]using h
def U2(f:FuncId)(caps:List AV)(ok:List Blk->Prop)(q:Int->Bool):Prop:=∀(L:List Blk) (x:Int) (K:AV->List Blk->Prop),ok L->K (.bool (q x)) L->ag6 f ([.int .i64 x]++caps) L K
theorem aef(hq:U2 f caps ok q)(hok:ok L)(hn:xs.length<=1000000)(hL:L[i]?=some (.cells (bZ xs++rest)))(h1:(∀j,j<xs.length->q (xs.getD j 0)=false)->K (.int .i64 (-1)) L)(h2:∀k:Nat,k<xs.length->(∀j,j<k->q (xs.getD j 0)=false)->q (xs.getD k 0)=true->K (.int .i64 k) L):ag6 116 [.lsl i 0 xs.length cp 1,.func f caps] L K:=by
 refine ad eK (by simp[cf]) ?_;simp only[cf,am];replace hq:=hid hq;replace h1:=hid h1;replace h2:=hid h2;refine wk ?_;refine ak (λn T' L'=>∃k:Nat,n=xs.length-k/\k<=xs.length/\T'=[(8,.int .i64 (k:Int)),(7,.int .i64 xs.length),(0,.lsl i 0 xs.length cp 1),(1,.func f caps)]/\L'=L /\
  ∀j,j<k->q (xs.getD j 0)=false) (CutS (b:=ag9 _)) ⟨0,rfl,ahf _,rfl,rfl,by simp⟩ ?_
 rintro _ _ _ ⟨k,rfl,hk,rfl,rfl,hr⟩;replace hr:=hid hr;by_cases hlt:k<xs.length;have g1:(k:Int)<(xs.length:Int):=by omega
 have g2:=ag4 k (by omega);have g7:(xs.map (AV.int .i64)++rest).getD k .undef=.int .i64 (xs.getD k 0):=by rw[ahz,ahi (by simp;omega)];simp[hlt]
 refine wk ?_;refine hq.out _ _ _ hok ?_;refine sk ?_;rcases hqk:q (xs.getD k 0)with _|_;refine wk ?_;refine ah _ _ _ ?_ (CutL (b:=ag9 _)) ⟨k+1,rfl,hlt,rfl,rfl,λj hj=>?_⟩;omega;rcases aht j k with h|h;exact hr.out j h;have:j=k:=by omega
 subst this;exact hqk;refine wk ?_;exact aa (h2.out k hlt hr.out hqk);have g1:¬(k:Int)<(xs.length:Int):=by omega
 refine wk ?_;exact aa (h1.out λj hj=>hr.out j (by omega))
theorem aes(hq:U2 f caps ok q)(hok:∀l,ok (L.set i (.cells l)))(hn:xs.length<=1000000)(hL:L[i]?=some (.cells (bZ xs)))(h:∀z,K (.lsl i 0 (xs.filter λx => !q x).length none 1) (L.set i (.cells (bZ (xs.filter λx => !q x)++bZ (List.replicate z 0))))):
  ag6 67 [.lsl i 0 xs.length none 1,.func f caps] L K:=by
 have hi:i<L.length:=(ag8.1 hL).1;have hset:∀c,(L.set i c)[i]?=some c:=λc=>by simp[hi]
 have hok0:ok L:=by have:=hok (bZ xs);rwa[Oq hL]at this
 replace hq:=hid hq;replace hok:=hid hok;refine ag5 ek ?_;refine aef (rest:=[]) hq.out hok0 hn (by simpa using hL) (λhno=>?_) (λa ha hpre hqa=>?_);have hf:xs.filter (λx => !q x)=xs:=ajq.2 λx hx=>by obtain⟨j,hj,rfl⟩:=aiq.1 hx;have:=hno j hj;simp[hj]at this;simp[this]
 have h0:=h 0;rw[hf]at h0;simp only[List.replicate_zero,aix,ahG,Oq hL]at h0;replace h0:=hid h0;clear h hf hno;refine sk ?_;refine wk ?_;exact aa h0.out
 .replace h:=hid h;replace hpre:=hid hpre;replace hqa:=hid hqa;have g1:(a:Int)≠-1:=(by omega);have g2:=ag4 a (by omega);refine sk ?_;refine wk ?_;have hfx:∀j,j<xs.length->xs.take (j+1)=xs.take j++[xs.getD j 0]:=λj hj=>by rw[ahw hj];simp[hj]
  replace hfx:=hid hfx;refine ak (λn T' L'=>∃(a j:Nat) (cs:List Int),n=xs.length-j/\a<j/\j<=xs.length/\cs.length=xs.length/\T'=[(6,.int .i64 (j:Int)),(5,.int .i64 (a:Int)),(0,.lsl i 0 xs.length none 1),(1,.func f caps)]/\L'=L.set i (.cells (bZ cs)) /\
   cs.take a=(xs.take j).filter (λx => !q x)/\cs.drop j=xs.drop j) (n0:=xs.length-(a+1)) (T0:=[(6,.int .i64 ((a+1:Nat):Int)),(5,.int .i64 (a:Int)),(0,.lsl i 0 xs.length none 1),(1,.func f caps)]) (L0:=L.set i (.cells (bZ xs))) (by rw[Oq hL];exact CutS (b:=ag9 _))
   ⟨a,a+1,xs,rfl,by omega,ha,rfl,rfl,rfl,?_,rfl⟩ ?_
  rw[hfx.out a ha,aj5];have h1:(xs.take a).filter (λx => !q x)=xs.take a:=ajq.2 λx hx=>by obtain⟨j,hj,rfl⟩:=aiq.1 hx;rw[ajb]at hj;have hj2:j<xs.length:=(by omega);have:=hpre.out j (by omega);simp[hj2]at this;simp[this]
  have h2:q (xs[a]?.getD 0)=true:=(by have:=hqa.out;simpa using this);simp[h1,h2];clear ha hpre hqa g1 g2;clear a;rintro _ _ _ ⟨a,j,cs,rfl,haj,hj,hcs,rfl,rfl,hta,hdr⟩;replace hta:=hid hta;replace hdr:=hid hdr;replace hcs:=hid hcs;by_cases hlt:j<xs.length
  .have g1:(j:Int)<(xs.length:Int):=(by omega);have g2:=ag4 j (by omega);have g3:=ag4 a (by omega);have hcj:cs.getD j 0=xs.getD j 0:=by have:=congrArg (λl=>l[0]?) hdr.out;simp only[ah3,aiu]at this;rw[ahz,ahz,this]
   have g4:(cs.map (AV.int .i64)).getD j .undef=.int .i64 (xs.getD j 0):=by rw[<- hcj];simp[show j<cs.length by rw[hcs.out];exact hlt]
   have g5:List.take a (cs.map (AV.int .i64))++AV.int .i64 (xs.getD j 0)::List.drop (a+1) (cs.map (AV.int .i64))=(cs.set a (xs.getD j 0)).map (AV.int .i64):=by rw[List.set_eq_take_append_cons_drop,if_pos (by rw[hcs.out];omega)];simp
   have g6:cs.length=xs.length:=hcs.out;replace hcj:=hid hcj;refine wk ?_;refine hq.out _ _ _ (hok.out _) ?_;refine sk ?_;rcases hqk:q (xs.getD j 0)with _|_
   .repeat' first
     |refine br ?_
     | (first|refine bh (by kernel_rfl) ?_|refine aH (by kernel_rfl) ?_|refine aK ?_|refine cO ?_|refine bB (fun _=>?_)|refine aB ?_|refine bm ?_)
       simp(config:={maxSteps:=2000000}) only[ais,Kon,push_cast,reduceIte,Nat.reduceEqDiff,Nat.reduceAdd,Nat.reduceMul,Nat.reduceSub,Nat.reduceLT,Nat.reduceLeDiff,Int.reduceLT,Int.reduceLE,Int.reduceAdd,Int.reduceSub,Int.reduceNeg,Int.reduceToNat,Int.reduceEq,reduceCtorEq, *]
     | (first|refine a8 (by kernel_rfl) ?_|refine bc ?_|refine aJ ?_|refine bj ?_|refine bG (aA ?_))
       refine sl ?_
     |exact bC
     |first|apply bD|apply be|apply bE|apply bf|apply bF|apply bg
     |refine aN ?_
     |refine aI ?_
     |first|refine aL rfl ?_|refine aM rfl ?_|refine aw rfl ?_ ?_|refine aQ rfl (λ_=>?_) (λ_=>?_)|refine aP rfl (λ_=>?_) (λ_=>?_)
     |((first|refine au (λ_=>?_) (λ_=>?_)|refine az (λ_=>?_) (λ_=>?_))<;>try simp(config:={maxSteps:=2000000}) only[ais,Kon,push_cast,reduceIte,Nat.reduceEqDiff,Nat.reduceAdd,Nat.reduceMul,Nat.reduceSub,Nat.reduceLT,Nat.reduceLeDiff,Int.reduceLT,Int.reduceLE,Int.reduceAdd,Int.reduceSub,Int.reduceNeg,Int.reduceToNat,Int.reduceEq,reduceCtorEq, *])
     |refine And.intro trivial ?_
     |refine And.intro (by omega) ?_
     |refine aU rfl (λ_=>?_) (λ_=>?_)
     |refine And.intro ?_ ?_
    refine ah _ _ _ ?_ (CutL (b:=by simp)) ⟨a+1,j+1,cs.set a (xs.getD j 0),rfl,by omega,hlt,by simp[g6],rfl,rfl,?_,?_⟩;omega;have hk:=hqk;rw[hfx.out j hlt,aj5,<- hta.out,List.set_eq_take_append_cons_drop,if_pos (by omega)];simp only[ajh,hk,aiX,if_true,List.filter_nil];rw[List.take_append];have:(cs.take a).length=a:=(by simp;omega);rw[aib (l:=cs.take a) (by omega)];simp[this];rw[List.drop_set_of_lt (by omega)];have:=congrArg (List.drop 1) hdr.out;simpa[ajz,Nat.add_comm]using this
   refine wk ?_;refine ah _ _ _ ?_ (CutL (b:=by simp)) ⟨a,j+1,cs,rfl,by omega,hlt,by simp[g6],rfl,rfl,?_,?_⟩;omega;have hk:=hqk;rw[hfx.out j hlt,aj5,<- hta.out];simp only[ajh,hk,aiH,ahp,if_false,List.filter_nil,ahG];have:=congrArg (List.drop 1) hdr.out;simpa[ajz,Nat.add_comm]using this
  .have g1:¬(j:Int)<(xs.length:Int):=(by omega);have g6:cs.length=xs.length:=hcs.out;have hrep:∀k,dP [AV.int .i64 0] k=(List.replicate k (0:Int)).map (AV.int .i64):=by
    intro k;induction k with
    |zero=>rfl
    |succ k ih=>simp[dP,ih,List.replicate_succ]
   have hjx:j=xs.length:=(by omega);have ht2:cs.take a=xs.filter (λx => !q x):=(by rw[hta.out,hjx,ahr]);have hla:(xs.filter λx => !q x).length=a:=(by rw[<- ht2];simp;omega);have ht3:List.take a (cs.map (AV.int .i64))=(xs.filter λx => !q x).map (AV.int .i64):=(by rw[<- List.map_take,ht2]);have hd:List.drop (a+(xs.length-a)) (cs.map (AV.int .i64))=[]:=aiN (by simp;omega);have hfin:=h.out (xs.length-a);rw[hla]at hfin;replace hfin:=hid hfin;clear hjx ht2 hla
   repeat' first
    |refine br ?_
    | (first|refine bh (by kernel_rfl) ?_|refine aH (by kernel_rfl) ?_|refine aK ?_|refine cO ?_|refine bB (fun _=>?_)|refine aB ?_|refine bm ?_)
      simp(config:={maxSteps:=2000000}) only[ais,hrep,akb,Kon,push_cast,reduceIte,Nat.reduceEqDiff,Nat.reduceAdd,Nat.reduceMul,Nat.reduceSub,Nat.reduceLT,Nat.reduceLeDiff,Int.reduceLT,Int.reduceLE,Int.reduceAdd,Int.reduceSub,Int.reduceNeg,Int.reduceToNat,Int.reduceEq,reduceCtorEq, *]
    | (first|refine a8 (by kernel_rfl) ?_|refine bc ?_|refine aJ ?_|refine bj ?_|refine bG (aA ?_))
      refine sl ?_
    |exact bC
    |first|apply bD|apply be|apply bE|apply bf|apply bF|apply bg
    |refine aN ?_
    |refine aI ?_
    |first|refine aL rfl ?_|refine aM rfl ?_|refine aw rfl ?_ ?_|refine aQ rfl (λ_=>?_) (λ_=>?_)|refine aP rfl (λ_=>?_) (λ_=>?_)
    |((first|refine au (λ_=>?_) (λ_=>?_)|refine az (λ_=>?_) (λ_=>?_))<;>try simp(config:={maxSteps:=2000000}) only[ais,hrep,akb,Kon,push_cast,reduceIte,Nat.reduceEqDiff,Nat.reduceAdd,Nat.reduceMul,Nat.reduceSub,Nat.reduceLT,Nat.reduceLeDiff,Int.reduceLT,Int.reduceLE,Int.reduceAdd,Int.reduceSub,Int.reduceNeg,Int.reduceToNat,Int.reduceEq,reduceCtorEq, *])
    |refine And.intro trivial ?_
    |refine And.intro (by omega) ?_
    |refine aU rfl (λ_=>?_) (λ_=>?_)
    |refine And.intro ?_ ?_
   exact aa hfin.out
theorem N0(h:K (.int .i64 (-1)) L):ag6 116 [.sl [] 0 cap,.func f caps] L K:=by
 refine ag5 eK ?_;refine ak (λn T' L'=>n=0/\T'=[(8,.int .i64 0),(7,.int .i64 0)]/\L'=L) (CutS (b:=ag9 _)) ⟨rfl,rfl,rfl⟩ ?_;rintro _ _ _ ⟨rfl,rfl,rfl⟩;refine wk ?_
 all_goals (first|refine ae rfl (Kto h ?_)|refine aa (Kto h ?_)|refine ae (by simp only[AV.refs,AV.refsL, *];rfl) (Kto h ?_)|refine ba (ae rfl (Kto h ?_))|(trace_state;fail))
 all_goals (first|(simp[*];done)|(simp[*];omega)|(simp[*];intros;omega)|(simp_all[Hid,Hid];done)|(simp_all[Hid,Hid];omega))
theorem acB(h:K (.sl [] 0 cap) L):ag6 67 [.sl [] 0 cap,.func f caps] L K:=by
 refine ad ek (by simp[bV]) ?_;simp only[bV,am]
 repeat' first
  |refine br ?_
  | (first|refine bh (by kernel_rfl) ?_|refine aH (by kernel_rfl) ?_|refine aK ?_|refine cO ?_|refine bB (fun _=>?_)|refine aB ?_|refine bm ?_|refine N0 ?_|refine bb (N0 ⟨rfl,rfl⟩) (N0 ⟨rfl,rfl⟩) ?_|refine aC (N0 ⟨rfl,rfl⟩) ?_)
    refine sm ?_
  | (first|refine a8 (by kernel_rfl) ?_|refine bc ?_|refine aJ ?_|refine bj ?_|refine bG (aA ?_))
    refine sl ?_
  |exact bC
  |first|apply bD|apply be|apply bE|apply bf|apply bF|apply bg
  |refine aN ?_
  |refine aI ?_
  |first|refine aL rfl ?_|refine aM rfl ?_|refine aw rfl ?_ ?_|refine aQ rfl (λ_=>?_) (λ_=>?_)|refine aP rfl (λ_=>?_) (λ_=>?_)
  |((first|refine au (λ_=>?_) (λ_=>?_)|refine az (λ_=>?_) (λ_=>?_))<;>try refine sm ?_)
  |refine And.intro trivial ?_
  |refine And.intro (by omega) ?_
  |refine aU rfl (λ_=>?_) (λ_=>?_)
  |refine And.intro ?_ ?_
 all_goals (first|refine ae rfl (Kto h ?_)|refine aa (Kto h ?_)|refine ae (by simp only[AV.refs,AV.refsL, *];rfl) (Kto h ?_)|refine ba (ae rfl (Kto h ?_))|(trace_state;fail))
 all_goals (first|(simp[*];done)|(simp[*];omega)|(simp[*];intros;omega)|(simp_all[Hid,Hid];done)|(simp_all[Hid,Hid];omega))
theorem afQ(hq:U2 f caps ok q)(hok:∀l,ok (L.set i (.cells l)))(hn:xs.length<=1000000)(hL:L[i]?=some (.cells (bZ xs++rest)))(h:∀z,K (.lsl i 0 (xs.filter λx => !q x).length none 1) (L.set i (.cells (bZ (xs.filter λx => !q x)++dG z)))):
  ag6 67 [.lsl i 0 xs.length none 1,.func f caps] L K:=by
 have hi:i<L.length:=(ag8.1 hL).1;refine XZ hL (aes hq (λl=>?_) hn (by simp[hi]) λz=>?_);rw[ais];exact hok l;rw[ais];exact h z
def b9(xs:List Int):List Int:=kY (eg xs)
theorem RU:b9 []=[]:=by have e:eg []=[]:=ahH.1 (cQ ([]:List Int)).length_eq;have:=XK [];unfold b9;rw[e];exact ahH.1 (by simpa using this)
theorem Wn(xs:List Int):(b9 xs).length<=xs.length:=by have:=XK (eg xs);have h2:=(cQ xs).length_eq;unfold b9;omega
theorem Vk(hx:xs≠[])(hn:xs.length<=1000000)(h:K (.tup []) (L++[.cells (bZ (eg xs))])):
  ag6 105 [.lsl L.length 0 xs.length none 1] (L++[.cells (bZ xs)]) K :=
 afe (rest:=[]) hx hn (by simp) (by simpa using h)
theorem RT(hl:n=xs.length)(hx:xs≠[])(hn:xs.length<=1000000)(h:∀z,K (.lsl L.length 0 (kY xs).length none 1) (L++[.cells (bZ (kY xs)++dG z)])):
  ag6 115 [.lsl L.length 0 n none 1] (L++[.cells (bZ xs)]) K:=by
 subst hl;exact aac (rest:=[]) hx hn (by simp) λz=>by simpa using h z
theorem VQ(h:xs≠[]):eg xs≠[]:=λe=>h (by have:=(cQ xs).length_eq;rw[e]at this;exact ahH.1 this.symm)
theorem acL(h0:xs≠[])(hn:xs.length<=1000000)(h:∀z,K (.lsl L.length 0 (b9 xs).length none 1) (L++[.cells (bZ (b9 xs)++dG z)])):
  ag6 66 [.sl (bZ xs) xs.length cap] L K:=by
 have hl:xs.length≠0:=λe=>h0 (ahH.1 e)
 have h1:=hid (VQ h0);have h2:=hid (cQ xs).length_eq;replace h:=hid h;replace h0:=hid h0;refine ag5 oT ?_;refine T8 hl hn ?_;refine sk ?_;refine wk ?_;refine Vk h0.out hn ?_;refine sk ?_;refine wk ?_;refine RT h2.out.symm h1.out (by rw[h2.out];exact hn) λz=>?_
 refine sk ?_;refine wk ?_;refine QG L.length (.cells (bZ (kY (eg xs))++dG z)) rfl (ag9 _) (by simp) (by simp[AV.refs]) ?_ ?_;simp only[Blk.refs,dG,<- ahE,hU];simpa[AV.ren,b9]using h.out z
theorem Wo(h:K (.sl [] 0 (some 0)) L):
  ag6 66 [.sl [] 0 cap] L K:=by
 replace h:=hid h;refine ag5 oT ?_;refine XL ?_;refine sk ?_;refine wk ?_;refine adE ?_;refine sk ?_;refine wk ?_;refine XJ ?_;refine sk ?_;refine wk ?_;exact aa h.out
theorem aeV{z:Nat}:(AV.lsl L.length 0 ys.length none 1).snap L.length (bZ ys++dG z)=.sl (bZ ys) ys.length none:=by simp[AV.snap,List.take_append,dG]
theorem acM(hn:xs.length<=1000000)(h:∀cap',K (.sl (bZ (b9 xs)) (b9 xs).length cap') L):
  ag6 66 [.sl (bZ xs) xs.length cap] L K:=by
 by_cases h0:xs=[];subst h0;have h':=h (some 0);rw[RU]at h';exact Wo h';have hl:xs.length≠0:=λe=>h0 (ahH.1 e)
 have h1:=hid (VQ h0);have h2:=hid (cQ xs).length_eq;replace h:=hid h;replace h0:=hid h0;refine ag5 oT ?_;refine T8 hl hn ?_;refine sk ?_;refine wk ?_;refine Vk h0.out hn ?_;refine sk ?_;refine wk ?_;refine RT h2.out.symm h1.out (by rw[h2.out];exact hn) λz=>?_
 refine sk ?_;refine wk ?_;refine Io (i:=L.length) (l:=bZ (kY (eg xs))++dG z) (by simp) ?_;rw[aeV,show(L++[Blk.cells (bZ (kY (eg xs))++dG z)]).set L.length .dead=L++[.dead]by simp];exact ae (by simp only[AV.refs,hU]) (h.out none)
theorem W8{ip:Nat}(hn:ys.length<=1000000)(hs:ys.Pairwise (·<=·)):U2 68 [.ptr ip 0] (λL=>L[ip]?=some (.cells [.sl (bZ ys) ys.length cap])) (λx => !(ys.contains x)):=λL x K hok h=>by replace h:=hid h;replace hs:=hid hs;refine ag5 O7 ?_;refine agW hn hs.out ?_;refine sk ?_;refine wk ?_;exact aa h.out
theorem P1(xs:List Int):(kY xs).Sublist xs:=by
 unfold kY Lib.compact Lib.compactUpTo;have h:(List.range xs.length).map (λj=>xs.toArray[j]!)=xs:=by apply List.ext_getElem (by simp);intro j h1 h2;simp[h2]
 have:=(ai9 (p:=Lib.keeps xs.toArray) (l:=List.range xs.length)).map (λj=>xs.toArray[j]!);rwa[h]at this
theorem aag(xs:List Int):(b9 xs).Pairwise (·<=·):=(vk xs).sublist (P1 _)
def Own(L:List Blk)(m:List Int)(v:AV)(L':List Blk):Prop:=(v=.sl [] 0 (some 0)/\m=[]/\L'=L)\/∃z,v=.lsl L.length 0 m.length none 1/\L'=L++[.cells (bZ m++dG z)]
def SW(L:List Blk)(m:List Int)(v:AV)(L':List Blk):Prop:=(v=.sl [] 0 (some 0)/\m=[]/\∃X,L'=L++X)\/∃z X,v=.lsl L.length 0 m.length none 1/\L'=L ++ .cells (bZ m++dG z)::X
theorem Own.x(h:Own L m v L'):SW L m v L':=by rcases h with⟨h1,h2,h3⟩|⟨z,h1,h2⟩;exact .inl ⟨h1,h2,[],by simp[h3]⟩;exact .inr ⟨z,[],h1,h2⟩
theorem SW.len(h:SW L m v L'):L.length<=L'.length:=by rcases h with⟨_,_,X,rfl⟩|⟨z,X,_,rfl⟩<;>simp
theorem YC(hn:xs.length<=1000000)(h:∀v L',Own L (b9 xs) v L'->K v L'):
  ag6 66 [.sl (bZ xs) xs.length cap] L K:=by
 by_cases h0:xs=[];subst h0;exact Wo (h _ _ (.inl ⟨rfl,RU,rfl⟩));exact acL h0 hn λz=>h _ _ (.inr ⟨z,rfl,rfl⟩)
abbrev dX(l:List Int):AV:=.sl (bZ l) l.length none
theorem Yc{ls:List (List Int)}{k:Nat}(h:k<ls.length):(ls.map dX).getD k .undef=dX (ls.getD k []):=by simp[h]
theorem Z0{ls:List (List Int)}{k:Nat}(h:k<ls.length):(ls.take (k+1)).flatten=(ls.take k).flatten++ls.getD k []:=by rw[ahw h,List.flatten_append];simp[h]
theorem aen(ls:List (List Int))(k:Nat):(ls.take k).flatten.length<=ls.flatten.length:=by
 have h:ls.flatten=(ls.take k).flatten++(ls.drop k).flatten:=by rw[<- List.flatten_append,aiQ]
 rw[h];simp
theorem acG(hn:ls.length<=1000000)(ht:ls.flatten.length<=1000000)(h:∀cap',K (.sl (bZ ls.flatten) ls.flatten.length cap') L):
  ag6 153 [.sl (ls.map dX) ls.length cap] L K:=by
 replace h:=hid h;have htk:=hid (λk=>@Z0 ls k);have hle:=hid (aen ls);have hat:=hid (λk=>@Yc ls k);refine ag5 qm ?_;refine ak (λn T' L'=>∃k:Nat,n=ls.length-k/\k<=ls.length/\T'=[(11,.int .i64 (k:Int)),(10,.int .i64 ls.length),(9,.sl (ls.map dX) ls.length cap),(3,.int .i64 ((ls.take k).flatten.length:Int)),(2,.sl [] 0 (some 0)),(0,.sl (ls.map dX) ls.length cap)]/\L=L') (CutS (b:=ag9 _)) ⟨0,rfl,ahf _,rfl,rfl⟩ ?_;rintro _ _ _ ⟨k,rfl,hk,rfl,rfl⟩;by_cases hlt:k<ls.length;have g1:(k:Int)<(ls.length:Int):=by omega
 have g2:=ag4 k (by omega);have e1:=htk.out k hlt;have e2:=hat.out k hlt;have e3:=hle.out (k+1);obtain⟨l,hl⟩:=ag2 (ls.getD k []);rw[hl]at e1 e2;have e4:(ls.take (k+1)).flatten.length=(ls.take k).flatten.length+l.length:=by rw[e1,ahq]
 rw[e4]at e3;obtain⟨m,hm⟩:=ag2 ((ls.take k).flatten.length);rw[hm]at e3 e4⊢;replace e1:=hid e1;replace hm:=hid hm;replace hl:=hid hl;have g3:IntKind.i64.wrap ((m:Int)+(l.length:Int))=(m:Int)+(l.length:Int):=ac (by omega) (by omega);have g4:¬((m:Int)+(l.length:Int)<0):=by omega
 refine wk ?_;exact ah _ _ _ (by omega) (CutL (b:=ag9 _)) ⟨k+1,rfl,hlt,rfl,rfl⟩;have hke:k=ls.length:=by omega
 subst hke;clear hlt hk;have g1:¬(ls.length:Int)<(ls.length:Int):=by omega
 obtain⟨m,hm⟩:=ag2 (ls.flatten.length);rw[ahr,hm];rw[hm]at h ht;rcases ait m with h0|hpos;subst h0;have hnil:=hid (ahH.1 hm);refine wk ?_;refine aej ?_;refine sk ?_;refine wk ?_;refine bX (l:=[]) (n:=0) 6 1 rfl (ahD 1).symm ?_;refine ak (λn T' L'=>∃k:Nat,n=ls.length-k/\k<=ls.length/\T'=[(27,.int .i64 (k:Int)),(26,.int .i64 ls.length),(25,.sl (ls.map dX) ls.length cap),(6,.gsl [] 0 L.length 1)]/\L'=L++[.spare 0 1]) (CutS (b:=by simp)) ⟨0,rfl,ahf _,rfl,rfl⟩ ?_;rintro _ _ _ ⟨k,rfl,hk,rfl,rfl⟩;by_cases hlt:k<ls.length;have g1:(k:Int)<(ls.length:Int):=by omega
 have g2:=ag4 k (by omega);have e2:=hat.out k hlt;have e3:ls.getD k []=[]:=List.flatten_eq_nil_iff.1 hnil.out _ (by rw[ahz,ahn hlt];exact ah9 _);rw[e3]at e2;replace e2:(ls.map dX).getD k .undef=.sl [] 0 none:=e2;clear e3;refine wk ?_;exact ah _ _ _ (by omega) (CutL (b:=by simp)) ⟨k+1,rfl,hlt,rfl,rfl⟩;have hke:k=ls.length:=by omega
 subst hke;have g1:¬(ls.length:Int)<(ls.length:Int):=by omega
 refine wk ?_;refine ba (ae (by rfl) ?_);have:=h.out none;rw[hnil.out]at this;exact this;refine wk ?_;refine afM hpos (by omega) ?_;refine sk ?_;refine wk ?_;refine ak (λn T' L'=>∃(k i:Nat) (X:List Blk) (c:List Int),n=ls.length-k/\k<=ls.length/\Hid (c=(ls.take k).flatten)/\c.length<=m/\i=L.length+X.length/\T'=[(27,.int .i64 (k:Int)),(26,.int .i64 ls.length),(25,.sl (ls.map dX) ls.length cap),(6,.lsl i 0 c.length none 1)]/\L'=L++(X++[.cells (bZ c)])) (CutS (b:=by simp)) ⟨0,L.length,[],[],rfl,ahf _,hid rfl,ahf _,rfl,rfl,rfl⟩ ?_;rintro _ _ _ ⟨k,i,X,c,rfl,hk,hc,hcm,hi,rfl,rfl⟩;have hget:(L++(X++[Blk.cells (bZ c)]))[i]?=some (.cells (bZ c)):=by subst hi;simp
 replace hi:=hid hi;by_cases hlt:k<ls.length;have g1:(k:Int)<(ls.length:Int):=by omega
 have g2:=ag4 k (by omega);have e1:=htk.out k hlt;have e2:=hat.out k hlt;have e3:=hle.out (k+1);obtain⟨l,hl⟩:=ag2 (ls.getD k []);rw[hl]at e1 e2;rw[<- hc.out]at e1;have e4:c.length+l.length<=m:=by rw[e1,ahq,hm]at e3;exact e3
 have hones:(l.map (AV.int .i64)).all AV.one=true:=by simp[AV.one]
 have e5:(c.length+l.length)*8<=140737488355328:=by omega
 have e6:c.length+l.length<=140737488355328:=by omega
 replace e1:=hid e1;replace hl:=hid hl;clear e3;have hdead:(L++(X++[Blk.cells (bZ c)])).set i .dead=L++(X++[.dead]):=by rw[hi.out];simp
 have hlen:(L++(X++[Blk.dead])).length=i+1:=by rw[hi.out];simp;omega
 refine wk ?_;refine ah _ _ _ ?_ (CutL (b:=by simp)) ⟨k+1,i+1,X++[.dead],c++l,rfl,hlt,hid e1.out.symm,by simpa using e4,by rw[hi.out];simp;omega,rfl,?_⟩;omega;simp[aib];have hke:k=ls.length:=by omega
 subst hke;have g1:¬(ls.length:Int)<(ls.length:Int):=by omega
 refine wk ?_;refine Io (i:=i) (l:=bZ c) hget ?_;rw[show(L++(X++[Blk.cells (bZ c)])).set i .dead=L++(X++[.dead])by rw[hi.out];simp];have e:=hc.out;rw[ahr]at e;have hs:(AV.lsl i 0 c.length none 1).snap i (bZ c)=.sl (bZ c) c.length none:=by simp[AV.snap,aib]
 rw[hs];refine ae (by simp only[AV.refs,hU]) ?_;have:=h.out none;rw[<- e]at this;rw[<- e]at hm;rw[hm];exact this
theorem SW.fin(ho:SW L m v L')(h:∀v L',Own L m v L'->K v L'):Fin L v L' K:=by rcases ho with⟨rfl,h2,X,rfl⟩|⟨z,X,rfl,rfl⟩;exact ae rfl (h _ _ (.inl ⟨rfl,h2,rfl⟩));refine QG L.length (.cells (bZ m++dG z)) rfl (ag9 _) (by simp) (by simp[AV.refs]) ?_ ?_;simp only[Blk.refs,dG,<- ahE,hU];simpa[AV.ren]using h _ _ (.inr ⟨z,rfl,rfl⟩)
theorem ada{L0:List Blk}{l:List AV}{Q:AV->List Blk->Prop}(h:Fin L0 (.sl l n none) L Q):Fin L0 (.sl l n cp) L Q:=λw0 S0 E0 E w v h0 hn hw hR hv=>by refine h w0 S0 E0 E w v h0 hn hw hR ?_;simp only[VR]at hv⊢;obtain⟨p,c,h1,h2,_,h4⟩:=hv;exact⟨p,c,h1,h2,by simp,h4⟩
theorem SW.finF(ho:SW L m v L')(h:K (dX m) L):Fin L v L' K:=by rcases ho with⟨rfl,rfl,X,rfl⟩|⟨z,X,rfl,rfl⟩;exact ada (ae rfl h);refine Io (i:=L.length) (l:=bZ m++dG z) (by simp) ?_;rw[aeV,show(L++Blk.cells (bZ m++dG z)::X).set L.length .dead=L++Blk.dead::X by simp];exact ae (by simp only[AV.refs,hU]) h
theorem afG(hn:ls.length<=1000000)(ht:ls.flatten.length<=1000000)(h:∀v L',SW L (b9 ls.flatten) v L'->Fin L v L' K):
  ag6 108 [.sl (ls.map dX) ls.length cap] L K:=by
 replace h:=hid h;refine ag5 R9 ?_;refine acG hn ht λcap'=>?_
 refine sk ?_;refine wk ?_;refine YC ht λv L' ho=>?_
 refine sk ?_;refine wk ?_;exact h.out v L' ho.x
theorem aeb(hn:ls.length<=1000000)(ht:ls.flatten.length<=1000000)(h:K (dX (b9 ls.flatten)) L):
 ag6 108 [.sl (ls.map dX) ls.length cap] L K:=afG hn ht λ_ _ ho=>ho.finF h
def i7(o l:List Int):List Int:=o.filter λx => !(!((b9 l).contains x))
def ve:List (List Int)->List Int
 |[]=>[]
 |l::ls=>ls.foldl i7 (b9 l)
theorem W7{l:List Int}{ls:List (List Int)}{k:Nat}(h:k<ls.length):(ls.take (k+1)).foldl i7 (b9 l)=i7 ((ls.take k).foldl i7 (b9 l)) (ls.getD k []):=by rw[ahw h,ai7];simp[h]
theorem adB(o l:List Int):(i7 o l).length<=o.length:=ai0 ..
theorem aem(ls:List (List Int)):∀o:List Int,(ls.foldl i7 o).length<=o.length:=by
 induction ls with
 |nil=>exact λo=>ag9 _
 |cons l ls ih=>exact λo=>ahy (ih _) (adB _ _)
theorem afv(hn:ls.length<=1000000)(hl:∀l∈ls,l.length<=1000000)(h:∀v L',SW L (ve ls) v L'->Fin L v L' K):
  ag6 29 [.sl (ls.map dX) ls.length cap] L K:=by
 replace h:=hid h;refine ad R8 (by simp[Ie]) ?_;simp only[Ie,am]
 match ls with
 | [] =>
   refine wk ?_;exact h.out _ _ (.inl ⟨rfl,rfl,[],by simp⟩)
 | l0::ls =>
   have hl0:l0.length<=1000000:=hl _ (by simp);replace hl:=hid λl hm=>hl l (aii _ hm)
   have hn':ls.length+1<=1000000:=hn;have g0:((l0::ls).map dX).getD 0 .undef=dX l0:=rfl;have g1:0<((l0::ls).map dX).length:=(by simp);refine wk ?_;refine YC hl0 λv L1 ho=>?_
   refine sk ?_;have ho:=hid ho.x;have hLe:=hid ho.out.len;have g2:((l0::ls).map dX).drop 1=ls.map dX:=rfl;have g3:((ls.length:Int)+1).toNat-1=ls.length:=(by omega);have g4:(1:Int)<=(ls.length:Int)+1:=(by omega);have g5:(ls.map dX).take ls.length=ls.map dX:=aib (by simp);refine wk ?_;have hat:=hid (λk=>@Yc ls k);have hstep:=hid (λk=>@W7 l0 ls k);have hfl:=hid (λk=>ahy (aem (ls.take k) (b9 l0)) (ahy (Wn l0) hl0));obtain⟨cp,hcp⟩:=ag2 (Option.map (λx=>x-1) cap);clear g0 g1 g2 g3 g4;simp only[hcp];refine ak (λn T' L'=>∃(k:Nat) (v:AV),n=ls.length-k/\k<=ls.length/\L1.length<=L'.length/\Hid (SW L ((ls.take k).foldl i7 (b9 l0)) v L')/\T'=[(17,.int .i64 (k:Int)),(16,.int .i64 ls.length),(15,.sl (ls.map dX) ls.length cp),(3,v)]) (CutS (b:=ag9 _)) ⟨0,v,rfl,ahf _,ag9 _,ho,rfl⟩ ?_;clear ho;clear ho;clear v;rintro _ _ L2 ⟨k,v,rfl,hk,hL1,ho,rfl⟩;by_cases hlt:k<ls.length
   .have g1:(k:Int)<(ls.length:Int):=(by omega);have g2:=ag4 k (by omega);have e1:=hstep.out k hlt;have e2:=hat.out k hlt;have e3:=hfl.out k;have e4:(ls.getD k []).length<=1000000:=hl.out _ (by rw[ahz,ahn hlt];exact ah9 _);obtain⟨l,hlk⟩:=ag2 (ls.getD k []);obtain⟨m,hm⟩:=ag2 ((ls.take k).foldl i7 (b9 l0));rw[hlk]at e1 e2 e4;rw[hm]at e1 e3;have ho:=ho.out;rw[hm]at ho;replace ho:=hid ho;replace e1:=hid e1;have e5:=hid (ahy (Wn l) e4);clear hlk;replace hm:=hid hm;clear hm;refine wk ?_;refine acM e4 λcap'=>?_
    refine sk ?_;refine wk ?_;have hxs:L1.length<=L2.length:=hL1;rcases ho.out with⟨rfl,h2,X,rfl⟩|⟨z,X,rfl,rfl⟩
    .have e6:(ls.take (k+1)).foldl i7 (b9 l0)=[]:=(by rw[e1.out,h2];rfl);replace e6:=hid e6;refine acB ?_;refine sk ?_;refine wk ?_;refine ah _ _ _ ?_ (CutL (b:=?_)) ⟨k+1,.sl [] 0 (some 0),rfl,hlt,?_,hid (.inl ⟨rfl,e6.out,X++[.cells [.sl (bZ (b9 l)) (b9 l).length cap']],?_⟩),rfl⟩
     .omega
     .simp at hxs⊢;omega
     .simp at hxs⊢;omega
     .simp
    .refine afQ (rest:=dG z) (W8 (cap:=cap') e5.out (aag l)) (λc=>?_) e3 ?_ λz'=>?_
     .simp
     .simp
     rw[show((L++Blk.cells (bZ m++dG z)::X)++[Blk.cells [.sl (bZ (b9 l)) (b9 l).length cap']]).set L.length (.cells (bZ (m.filter λx => !(!((b9 l).contains x)))++dG z'))=L++Blk.cells (bZ (i7 m l)++dG z')::(X++[Blk.cells [.sl (bZ (b9 l)) (b9 l).length cap']])by simp[i7],show m.filter (λx => !(!((b9 l).contains x)))=i7 m l from rfl];refine sk ?_;refine wk ?_;refine ah _ _ _ ?_ (CutL (b:=?_)) ⟨k+1,.lsl L.length 0 (i7 m l).length none 1,rfl,hlt,?_,hid (.inr ⟨z',X++[.cells [.sl (bZ (b9 l)) (b9 l).length cap']],?_,?_⟩),rfl⟩
     .omega
     .simp at hxs⊢;omega
     .simp at hxs⊢;omega
     .rw[e1.out]
     .rw[e1.out]
   .have hke:k=ls.length:=(by omega);subst hke;have g1:¬(ls.length:Int)<(ls.length:Int):=(by omega);have ho:=ho.out;rw[ahr]at ho;replace ho:=hid ho;refine wk ?_;exact h.out _ _ ho.out
theorem Ym(hn:ls.length<=1000000)(hl:∀l∈ls,l.length<=1000000)(h:K (dX (ve ls)) L):
 ag6 29 [.sl (ls.map dX) ls.length cap] L K:=afv hn hl λ_ _ ho=>ho.finF h
theorem Vj{X:Type}{l m:List X}{d:X}(h1:i<l.length)(h2:i<m.length):l.take (i+1)=m.take (i+1)↔l.take i=m.take i/\l.getD i d=m.getD i d:=by
 rw[ahw h1,ahw h2];have e1:l.getD i d=l[i]:=by simp[h1]
 have e2:m.getD i d=m[i]:=by simp[h2]
 rw[e1,e2];refine⟨λh=>?_,λh=>by rw[h.1,h.2]⟩;have:=List.append_inj' h (by simp);exact⟨this.1,by simpa using this.2⟩
theorem aaZ{cap':Option Nat}(hn:xs.length<=1000000)(h:K (.bool (decide (xs=ys))) L):
  ag6 22 [.sl (bZ xs) xs.length cap,.sl (bZ ys) ys.length cap'] L K:=by
 replace h:=hid h;have no:¬xs=ys->K (.bool false) L:=λe=>by simpa[e]using h.out
 replace no:=hid no;refine ad Qq (by simp[wi]) ?_;simp only[wi,am];by_cases hlen:xs.length=ys.length;rotate_left;have hl1:¬(xs.length:Int)=(ys.length:Int):=by omega
 refine wk ?_;exact aa (no.out λe=>hlen (by rw[e]));have hlen':(ys.length:Int)=(xs.length:Int):=by omega
 replace hlen:=hid hlen;refine wk ?_;clear hlen';refine ak (λn T' L'=>∃(i:Nat),n=xs.length-i/\i<=xs.length/\xs.take i=ys.take i/\T'=[(13,.int .i64 (i:Int)),(12,.int .i64 xs.length),(4,.bool false),(1,.sl (bZ ys) ys.length cap'),(0,.sl (bZ xs) xs.length cap)]/\L=L') (CutS (b:=ag9 _)) ⟨0,rfl,ahf _,rfl,rfl,rfl⟩ ?_;rintro _ _ _ ⟨i,rfl,hi,hti,rfl,rfl⟩;replace hti:=hid hti;by_cases hlt:i<xs.length;have hly:i<ys.length:=by have:=hlen.out;omega
 have h1:(i:Int)<(xs.length:Int):=by omega
 have h1':(i:Int)<(ys.length:Int):=by have:=hlen.out;omega
 have h2:=ag4 i (by omega);have g5:(bZ xs).getD i .undef=.int .i64 (xs.getD i 0):=by simp[hlt]
 have g6:(bZ ys).getD i .undef=.int .i64 (ys.getD i 0):=by simp[hly]
 have hsucc:=hid (Vj (l:=xs) (m:=ys) (d:=0) hlt hly);obtain⟨p,hp⟩:=ag2 (xs.getD i 0);obtain⟨q,hq⟩:=ag2 (ys.getD i 0);rw[hp,hq]at hsucc;rw[hp]at g5;rw[hq]at g6;clear hp hq;by_cases hpq:p=q;subst hpq;refine wk ?_;exact ah _ _ _ (by omega) (CutS (b:=ag9 _)) ⟨i+1,rfl,hlt,hsucc.out.2 ⟨hti.out,rfl⟩,rfl,rfl⟩;refine wk ?_;exact aa (no.out λe=>hpq (hsucc.out.1 (by rw[e])).2);have hke:i=xs.length:=by omega
 subst hke;have h1:¬(xs.length:Int)<(xs.length:Int):=by omega
 have e:=hti.out;rw[ahr,hlen.out,ahr]at e;have h':=h.out;rw[decide_eq_true e]at h';clear e;replace h':=hid h';refine wk ?_;exact aa h'.out
def Oi(b:Nat)(X:List Blk)(v:AV):Prop:=v=.sl [] 0 (some 0)\/∃j n c,v=.lsl (b+j) 0 n none 1/\X[j]?=some (.cells c)/\n<=c.length/\n<=1000000
theorem Oi.app(h:Oi b X v)(Y:List Blk):Oi b (X++Y) v:=by rcases h with rfl|⟨j,n,c,h1,h2,h3⟩;exact .inl rfl;exact .inr ⟨j,n,c,h1,ag3 h2,h3⟩
theorem Oi.set{c d:List AV}(h:Oi b X v)(hi:X[i]?=some (.cells c))(hd:d.length=c.length):Oi b (X.set i (.cells d)) v:=by rcases h with rfl|⟨j,n,e,h1,h2,h3⟩;exact .inl rfl;by_cases hij:i=j;subst hij;rw[hi]at h2;cases h2;exact .inr ⟨i,n,d,h1,by simp[(ag8.1 hi).1],by omega,h3.2⟩;exact .inr ⟨j,n,e,h1,by simp[hij,h2],h3⟩
theorem Oi.cell(h:Oi b X v):AV.cells? v=some [v]:=by rcases h with rfl|⟨j,n,c,rfl,_⟩<;>rfl
theorem Own.row(h:Own (L++X) m v L')(hm:m.length<=1000000):∃Y,L'=L++(X++Y)/\Oi L.length (X++Y) v:=by rcases h with⟨rfl,_,rfl⟩|⟨z,rfl,rfl⟩;exact⟨[],by simp,.inl rfl⟩;exact⟨[.cells (bZ m++dG z)],by simp,.inr ⟨X.length,m.length,bZ m++dG z,by simp,by simp,by simp,hm⟩⟩
def PV(id:Int):List Int->List Int
 |[]=>[id]
 |x::t=>if id<x then id::x::t else x::PV id t
def Vr(l:List Int)(id:Int):List Int:=if l.contains id then l else PV id l
def VO(ls:List (List Int)):List Int:=ls.flatten.foldl Vr []
def ab3(ls:List (List Int))(id:Int):Bool:=ls.all λl=>l.contains id
def abI(ls:List (List Int)):List Int:=(VO ls).filter (ab3 ls)
theorem QV{a b:List Int}(ha:a.Pairwise (· < ·))(hb:b.Pairwise (· < ·))(h:∀x,x∈a↔x∈b):a=b:=by
 have na:a.Nodup:=ha.imp λh=>by omega
 have nb:b.Nodup:=hb.imp λh=>by omega
 have hp:a.Perm b:=(List.perm_ext_iff_of_nodup na nb).2 h;exact aj3 (le:=λx y=>x<y) (λx y _ _ h1 h2=>by omega) ha hb hp
theorem OH(id:Int):∀(l:List Int) (x:Int),x∈PV id l↔x=id\/x∈l
 |[],x=>by simp[PV]
 | y::t,x=>by
   simp only[PV];split
   .simp
   .simp only[ahc,OH id t x];constructor
    .rintro(h|h|h)
     .exact .inr (.inl h)
     .exact .inl h
     .exact .inr (.inr h)
    .rintro(h|h|h)
     .exact .inr (.inl h)
     .exact .inl h
     .exact .inr (.inr h)
theorem VY(id:Int):∀l:List Int,l.Pairwise (· < ·)->id∉l->(PV id l).Pairwise (· < ·)
 |[],_,_=>by simp[PV]
 | y::t,h,hn=>by
   rw[ahR]at h;simp only[ahc,not_or]at hn;simp only[PV];split
   .rename_i hlt;refine ahR.2 ⟨λx hx=>?_,ahR.2 h⟩;rcases ahc.1 hx with rfl|hx
    .exact hlt
    .have:=h.1 x hx;omega
   .rename_i hlt;refine ahR.2 ⟨λx hx=>?_,VY id t h.2 hn.2⟩;rcases(OH id t x).1 hx with rfl|hx
    .omega
    .exact h.1 x hx
theorem abj(l:List Int)(id x:Int):x∈Vr l id↔x=id\/x∈l:=by unfold Vr;split;rename_i h;rw[ah1]at h;constructor;exact .inr;rintro(rfl|h');exact h;exact h';exact OH id l x
theorem adX(l:List Int)(id:Int)(h:l.Pairwise (· < ·)):(Vr l id).Pairwise (· < ·):=by unfold Vr;split;exact h;rename_i hc;rw[ah1]at hc;exact VY id l h hc
theorem Wb(l:List Int):∀r:List Int,r.Pairwise (· < ·)->(l.foldl Vr r).Pairwise (· < ·)/\∀x,x∈l.foldl Vr r↔x∈r\/x∈l:=by
 induction l with
 |nil=>exact λr h=>⟨h,by simp⟩
 | cons y l ih =>
   intro r h;obtain⟨h1,h2⟩:=ih (Vr r y) (adX r y h);refine⟨h1,λx=>?_⟩;rw[ahZ,h2,abj,ahc];constructor
   .rintro((h|h)|h)
    .exact .inr (.inl h)
    .exact .inl h
    .exact .inr (.inr h)
   .rintro(h|h|h)
    .exact .inl (.inr h)
    .exact .inl (.inl h)
    .exact .inr h
theorem VN(ls:List (List Int)):(VO ls).Pairwise (· < ·):=(Wb ls.flatten [] .nil).1
theorem TH(ls:List (List Int))(x:Int):x∈VO ls↔x∈ls.flatten:=by simpa[VO]using(Wb ls.flatten [] .nil).2 x
theorem XI{l:List Int}(h:l.Pairwise (·<=·)):(kY l).Pairwise (· < ·):=by
 unfold kY Lib.compact Lib.compactUpTo;rw[ajF];have h0:(List.range l.length).Pairwise (· < ·):=List.pairwise_lt_range;refine List.Pairwise.imp_of_mem (R:=λi j=>i<j) (λ{i j} hi hj hij=>?_) (h0.filter _);rw[ahI,ajQ]at hi hj;have hk:=hj.2;simp only[Lib.keeps,decide_eq_true_eq]at hk;rcases hk with hk|hk;omega;have hle:=aj0.1 h;have hj1:j-1<l.length:=by omega
 have e1:(l.toArray[j]!)=l[j]:=by simp[hj.1]
 have e2:(l.toArray[j-1]!)=l[j-1]:=by simp[hj1]
 have e3:(l.toArray[i]!)=l[i]:=by simp[hi.1]
 rw[e1,e2]at hk;rw[e1,e3];have a1:l[i]<=l[j-1]:=by rcases aht i (j-1)with h1|h1;exact hle i (j-1) hi.1 hj1 h1;have:i=j-1:=(by omega);subst this;exact Int.le_refl _
 have a2:l[j-1]<=l[j]:=hle (j-1) j hj1 hj.1 (by omega);omega
theorem Wm(l:List Int)(x:Int):x∈kY l↔x∈l:=by
 refine⟨λh=>(P1 l).subset h,λh=>?_⟩;obtain⟨j,hj,rfl⟩:=aiq.1 h;have key:∀(n j:Nat) (hj:j<l.length),j<=n->∃(i:Nat) (hi:i<l.length),l[i]=l[j]/\Lib.keeps l.toArray i=true:=by
  intro n;induction n with
  | zero =>
    intro j hj hn;exact⟨j,hj,rfl,by simp[Lib.keeps,show j=0 by omega]⟩
  | succ n ih =>
    intro j hj hn;by_cases h0:j=0
    .exact⟨j,hj,rfl,by simp[Lib.keeps,h0]⟩
    by_cases he:l[j]'hj=l[j-1]
    .obtain⟨i,hi,e1,e2⟩:=ih (j-1) (by omega) (by omega);exact⟨i,hi,by rw[e1,he],e2⟩
    .refine⟨j,hj,rfl,?_⟩;have hj1:j-1<l.length:=(by omega);simp only[Lib.keeps,decide_eq_true_eq];refine .inr ?_;simpa[hj,hj1]using he
 obtain⟨i,hi,e1,e2⟩:=key j j hj (ag9 _);rw[<- e1];unfold kY Lib.compact Lib.compactUpTo;refine ahd.2 ⟨i,ahI.2 ⟨ajQ.2 hi,e2⟩,by simp[hi]⟩
theorem T9(xs:List Int):(b9 xs).Pairwise (· < ·):=XI (vk xs)
theorem LV(xs:List Int)(x:Int):x∈b9 xs↔x∈xs:=(Wm _ x).trans (cQ xs).mem_iff
theorem aaR(o l:List Int)(x:Int):x∈i7 o l↔x∈o/\x∈l:=by simp[i7,ahI,LV]
theorem ZY(ls:List (List Int)):∀o:List Int,o.Pairwise (· < ·)->(ls.foldl i7 o).Pairwise (· < ·)/\∀x,x∈ls.foldl i7 o↔x∈o/\∀l∈ls,x∈l:=by
 induction ls with
 |nil=>exact λo h=>⟨h,by simp⟩
 | cons l ls ih =>
   intro o h;obtain⟨h1,h2⟩:=ih (i7 o l) (h.filter _);refine⟨h1,λx=>?_⟩;rw[ahZ,h2,aaR];constructor
   .rintro⟨⟨a,b⟩,c⟩;refine⟨a,λm hm=>?_⟩;rcases ahc.1 hm with rfl|hm
    .exact b
    .exact c m hm
   .rintro⟨a,b⟩;exact⟨⟨a,b l (by simp)⟩,λm hm=>b m (aii _ hm)⟩
theorem TK(ls:List (List Int))(x:Int):ab3 ls x=true↔∀l∈ls,x∈l:=by simp[ab3,ahk]
theorem Yl:∀ls:List (List Int),abI ls=ve ls
 |[]=>rfl
 | l::ls=>by
   obtain⟨h1,h2⟩:=ZY ls (b9 l) (T9 l);refine QV ((VN _).filter _) h1 λx=>?_
   show x∈(VO (l::ls)).filter _↔x∈ls.foldl i7 (b9 l);rw[ahI,TH,TK,h2,LV];constructor
   .rintro⟨_,h⟩;exact⟨h l (by simp),λm hm=>h m (aii _ hm)⟩
   .rintro⟨a,b⟩;refine⟨by simp[a],λm hm=>?_⟩;rcases ahc.1 hm with rfl|hm
    .exact a
    .exact b m hm
theorem adO{cap':Option Nat}(hn:xs.length<=1000000)(h:K (.bool true) L):ag6 22 [.sl (bZ xs) xs.length cap,.sl (bZ xs) xs.length cap'] L K:=aaZ hn (by simpa using h)
theorem RH{b:Nat}:∀ls:List (List Int),(∀l∈ls,l.length<=b)->ls.flatten.length<=ls.length*b
 |[],_=>by simp
 | l::ls,h=>by
   have h1:=RH ls λm hm=>h m (aii _ hm)
   have h2:=h l (by simp);simp only[List.flatten_cons,ahq,ahj,aje];omega
abbrev NY(ls:List (List Int)):List Int:=b9 ls.flatten
theorem Ow:WA ve NY:=by
 have hm:∀ls x,x∈ve ls↔x∈ls.flatten/\∀l∈ls,x∈l:=λls x=>by rw[<- Yl,abI,ahI,TH,TK]
 refine⟨λls x=>?_,λls x=>?_,λls=>?_,λls=>T9 _⟩;rw[hm];constructor;rintro⟨h1,h2⟩;refine⟨λe=>?_,h2⟩;subst e;cases h1;rintro⟨h1,h2⟩;cases ls with
 |nil=>exact absurd rfl h1
 |cons l r=>exact⟨List.mem_flatten.2 ⟨l,by simp,h2 l (by simp)⟩,h2⟩
 rw[NY,LV,List.mem_flatten];rw[<- Yl,abI];exact List.Pairwise.sublist ai9 (VN ls)
abbrev tyO(tm:TMp)(f:List UInt8):Option Int:=(cy tm f).map (·.2.1)
abbrev lfO(tm:TMp)(l:List bd):=abQ (iV tm) (tyO tm) l
abbrev qx(tm:TMp)(l:List bd)(w:Int):Flt->Option (List Int):=Sl ve NY (lfO tm l) w
theorem IL{mt jn:List (List Int)->List Int}{leaf:Int->List UInt8->List UInt8->List Pc->Option (List Int)}{w:Int}:∀ks:List Flt,vy mt jn leaf w ks=ks.map (Sl mt jn leaf w)
 |[]=>by rw[vy];rfl
 |f::r=>by rw[vy,IL r];rfl
theorem sb:∀a b:List (Option (List Int)),aV (a++b)=aV a++aV b
 |[],b=>rfl
 |none::a,b=>by simp only[ahL,aV,sb a b]
 |some x::a,b=>by simp only[ahL,aV,sb a b]
theorem rZ:∀{a:List (Option (List Int))}{l:List Int},l∈aV a↔some l∈a
 |[],l=>by simp[aV]
 |none::a,l=>by simp[aV,rZ (a:=a)]
 |some x::a,l=>by simp[aV,rZ (a:=a)]
theorem sa:∀a:List (Option (List Int)),(aV a).length<=a.length
 |[]=>by simp[aV]
 |none::a=>by simp only[aV,ahj];have:=sa a;omega
 |some x::a=>by simp only[aV,ahj];have:=sa a;omega
def InE(l:List bd)(m:List Int):Prop:=m.Pairwise (· < ·)/\∀x∈m,x∈l.map (·.1)
theorem InE.len(h:InE l m):m.length<=l.length:=by have:=QW h.1 h.2;simpa using this
theorem Ye(hr:gU l)(f:List UInt8):InE l (lr l f):=⟨IC hr,λx hx=>by obtain⟨a,h1,_⟩:=u7.1 hx;exact ahd.2 ⟨_,h1,rfl⟩⟩
theorem Xg{tm:TMp}(hr:gU l){k:Int}{a v:List UInt8}{ps:List Pc}(h:lfO tm l k a v ps=some m):InE l m:=by
 unfold lfO abQ at h;rcases hq:tyO tm (af a)with _|syn;rw[hq]at h;cases h;rw[hq]at h;simp only at h;split at h;cases h;unfold aeq;split;exact⟨.nil,λx hx=>by cases hx⟩;exact⟨TM hr,λx hx=>by obtain⟨a,h1,_⟩:=qg.1 hx;exact ahd.2 ⟨_,h1,rfl⟩⟩
 split at h;cases h;exact Ye hr _;split at h;cases h;unfold Qa;refine⟨List.Pairwise.sublist ai9 (IC hr),λx hx=>(Ye hr _).2 x (ahI.1 hx).1⟩;cases h
theorem Wv{k:Int}{os:List (Option (List Int))}(h:∀m∈aV os,InE l m)(e:Pi ve NY k os=some m):InE l m:=by
 refine⟨TG Ow e,λx hx=>?_⟩;unfold Pi at e;split at e;split at e;cases e;rename_i hne;cases e;obtain⟨_,h2⟩:=(Ow.mtM _ _).1 hx;cases hs:aV os with
 |nil=>exact absurd hs hne
 |cons y r=>exact(h y (by rw[hs];simp)).2 x (h2 y (by rw[hs];simp))
 split at e;cases e;obtain⟨y,h1,h2⟩:=(Ow.jnM _ _).1 hx;exact(h y h1).2 x h2;cases e
theorem YO{o:Option (List Int)}(h:wn w o=some m):o=some m/\(m.length:Int)<=w:=by
 cases o with
 |none=>cases h
 | some x =>
   rw[wn]at h;split at h
   .cases h
   .cases h;exact⟨rfl,by omega⟩
theorem QE{tm:TMp}(hr:gU l):∀f:Flt,∀m,qx tm l w f=some m->InE l m:=by
 refine QA λk a v ps ks ih m h=>?_
 rw[qx,Sl]at h;have h1:=(YO h).1;split at h1;refine Wv (λy hy=>?_) h1;rw[rZ,IL,ahd]at hy;obtain⟨x,hx,e⟩:=hy;exact ih x hx y e;exact Xg hr h1
def DU:Option (List Int)->AV
 |none=>.tup [.sl [] 0 (some 0),.bool false]
 |some m=>.tup [pW m,.bool true]
theorem ZD{tm:TMp}{B:Nat->Prop}(ho:IxO L it tm l B){n:List UInt8}(hn:a7 n)(h:K (.bool ((tyO tm (af n)).elim false λs=>decide (s<=3))) L):ag6 109 [.ptr it 0,.str n] L K:=by have kk1:Hid (∀{K:ag7},K (.bool (cy tm (af n)).isSome) L->ag6 11 [.ptr it 0,.str n] L K):=@hid _ (λ{K} q=>NZ ho hn q);obtain⟨im,ie,ip,ii,em,ec,pm,pc,dm,dc,h1,h2,h3,h4⟩:=ho;obtain⟨f,hf⟩:=ag2 (af n);have kk2:Hid (Ctr Tryz.prog 38 [.str n] (.str f)):=@hid _ (by intro L K q;exact fC hn (by rw[hf];exact q));unfold tyO at h;rw[hf]at h kk1;have hst:=h1.st;have hty:=h1.ty;have hks:bw .str (.str f)=true:=rfl;rcases cU (va:=tyV) pH h1.tok f oM with⟨j,⟨w1,w2,w3,w4⟩,q1,q2,_⟩|⟨q1,q2,_⟩;rw[q1]at h kk1;simp only[aiM,ahu,Option.elim]at kk1 h;replace h:=hid h;clear h1 h2 h3 h4 q1;refine ag5 ll ?_;exact aa h.out;rw[q1]at h kk1;simp only[aiG,ahF,Option.elim]at kk1 h;replace h:=hid h;clear h1 h2 h3 h4 q1;refine ag5 ll ?_;exact aa h.out
def agX(o:Option (List Int))(v:AV)(b:Bool):Prop:=match o with
 |some m=>v=pW m/\b=true
 |none=>b=false/\∃m c,v=.sl (bZ m) m.length c
theorem aa4(l:List Int):AV.frz (dX l)=dX l:=by simp only[AV.frz,TT]
theorem Ot:∀ls:List (List Int),AV.frzL (ls.map dX)=ls.map dX
 |[]=>rfl
 |l::r=>by simp only[ahl,AV.frzL,aa4,Ot r]
theorem hZ(p:Nat->Bool):∀l:List Int,AV.refsL p (l.map (AV.int .i64))=true
 |[]=>rfl
 |x::l=>by simp only[ahl,AV.refsL,AV.refs,hZ p l,ah7]
theorem aeG{L:List Blk}{it:Nat}{tm:TMp}{l:List bd}{w:Int}{f:Flt}{o:Option (List Int)}(hr:∀m,o=some m->m.length<=1000000)(hb:∀{X:List Blk}{K:ag7},(∀v b,agX o v b->K (.tup [v,.bool b]) (L++X))->ag6 59 [.ptr it 0,.agg (fA f),.int .i64 w] (L++X) K){K:ag7}(h:K (DU (wn w o)) L):ag6 27 [.ptr it 0,.agg (fA f),.int .i64 w] L K:=by
 obtain⟨k,a,v,ps,ks⟩:=f;replace hb:=@hid _ @hb;rw[Ly]at hb⊢;obtain⟨PS,hPS⟩:∃P,P=qA ps:=⟨_,rfl⟩;obtain⟨KS,hKS⟩:∃P,P=fsA ks:=⟨_,rfl⟩;rw[<- hPS,<- hKS]at hb⊢;clear hPS hKS;cases o with
 | none =>
   simp only[wn,DU]at h;replace h:=hid h;refine ag5 oU ?_;refine hb.out λv b hv=>?_
   obtain⟨rfl,m,c,rfl⟩:=hv;refine sk ?_;refine wk ?_;exact ae rfl h.out
 | some m =>
   by_cases hw:w<(m.length:Int)
   .rw[wn,if_pos hw]at h;simp only[DU]at h;replace h:=hid h;replace hr:=hid hr;refine ag5 oU ?_;refine hb.out λv b hv=>?_
    obtain⟨rfl,rfl⟩:=hv;refine sk ?_;refine wk ?_;exact ae rfl h.out
   .rw[wn,if_neg hw]at h;simp only[DU]at h;replace h:=hid h;replace hr:=hid hr;refine ag5 oU ?_;refine hb.out λv b hv=>?_
    obtain⟨rfl,rfl⟩:=hv;refine sk ?_;refine wk ?_;exact ae (by simp only[AV.refs,AV.refsL,hZ,ah7]) h.out
theorem Ug{tm:TMp}{B:Nat->Prop}(ho:IxO L it tm l B)(hi:Ok l):∀(f:Flt),U8 f->∀{X:List Blk}{K:ag7},K (DU (qx tm l w f)) (L++X) ->
  ag6 27 [.ptr it 0,.agg (fA f),.int .i64 w] (L++X) K:=by
 have hrs:=ho.rise;have hlen:∀{m:List Int},InE l m->m.length<=1000:=λh=>ahy h.len hi.len
 refine QA λk a v ps ks ih hrd X K h=>?_
 have hin:=QE (tm:=tm) (w:=w) hrs;simp only[FlB]at hrd;obtain⟨r1,r2,r3,r4,r5,r6⟩:=hrd;have hn:a7 a:=by unfold a7;omega
 have ih2:∀x∈ks,∀{X:List Blk}{K:ag7},K (DU (qx tm l w x)) (L++X)->ag6 27 [.ptr it 0,.agg (fA x),.int .i64 w] (L++X) K:=λx hx {X K} q=>ih x hx (Sw r6 x hx) q
 replace ih2:=@hid _ @ih2;clear ih r6;obtain⟨o,ho'⟩:=ag2 ((if k=0\/k=1 then Pi ve NY k (vy ve NY (lfO tm l) w ks)else lfO tm l k a v ps));rw[qx,Sl,ho']at h;refine aeG (l:=l) (tm:=tm) (o:=o) (λm e=>?_) (λ{Y K} h=>?_) h;subst e;split at ho';refine ahy (hlen (Wv (λy hy=>?_) ho')) (by omega);rw[rZ,IL,ahd]at hy;obtain⟨x,hx,e⟩:=hy;exact hin x y e;exact ahy (hlen (Xg hrs ho')) (by omega);clear hin;obtain⟨M,hM⟩:=ag2 (L++X++Y);rw[hM]at h⊢;have hMW:∀W,M++W=L++(X++Y++W):=λW=>by rw[<- hM];simp
 have hoW:Hid (∀W,IxO (M++W) it tm l B):=hid λW=>by rw[hMW];exact ho.app _
 have ih3:∀x∈ks,∀{W:List Blk}{K:ag7},K (DU (qx tm l w x)) (M++W)->ag6 27 [.ptr it 0,.agg (fA x),.int .i64 w] (M++W) K:=λx hx {W K} q=>by rw[hMW]at q⊢;exact ih2.out x hx q
 replace ih3:=@hid _ @ih3;clear ih2 hMW hM;rw[Ly];obtain⟨PS,hPS⟩:∃P,P=qA ps:=⟨_,rfl⟩;obtain⟨KS,hKS⟩:∃P,P=fsA ks:=⟨_,rfl⟩;rw[<- hPS,<- hKS];replace hPS:=hid hPS;replace hKS:=hid hKS;by_cases hk:k=0\/k=1;rw[if_pos hk,IL]at ho';obtain⟨V,hV⟩:=ag2 (ks.map (qx tm l w));rw[hV]at ho';replace hV:=hid hV;have hnl:V.length=ks.length:=by rw[<- hV.out];simp
 have hVin:∀m∈aV V,m.length<=1000:=λm hm=>by rw[rZ,<- hV.out,ahd]at hm;obtain⟨x,_,e⟩:=hm;exact hlen (QE hrs x m e)
 have hSl:(aV V).length<=60:=by have:=sa V;omega
 have hFl:(aV V).flatten.length<=1000000:=by have:=RH (b:=1000) (aV V) hVin;have:(aV V).length*1000<=60*1000:=aic _ hSl;omega
 have stp:∀i:Nat,i<ks.length->∃q:Flt,Hid ((KS.drop (i*5)).take 5=fA q/\i*5+5<=KS.length/\(∀{W:List Blk}{K:ag7},K (DU (qx tm l w q)) (M++W)->ag6 27 [.ptr it 0,.agg (fA q),.int .i64 w] (M++W) K)/\(i:Int)<(ks.length:Int)/\IntKind.i64.wrap ((i:Int)+1)=(i:Int)+1/\V.take (i+1)=V.take i++[qx tm l w q]):=λi hlt=>by
  refine⟨ks.getD i Yk,hid ⟨?_,?_,?_,by omega,ac (by omega) (by omega),?_⟩⟩;rw[hKS.out];exact XF hlt;rw[hKS.out,UP];omega;exact λq=>ih3.out _ (by simp[hlt]) q
  rw[ahw (by omega)];congr 1;simp[<- hV.out,hlt]
 have e1:∀A:Blk,(M++[A]).length=M.length+1:=λA=>by simp
 clear hrs hlen ih3;replace h:=hid h;replace ho':=hid ho';refine ad cR (by simp[bq]) ?_;simp only[bq,am];rcases hk with rfl|rfl;refine wk ?_;refine bX (l:=[]) (n:=0) 8 1 rfl (ahD 1).symm ?_;rw[e1];refine ak (λm T' L'=>∃(i n:Nat) (C:List AV) (Y:List Blk),m=ks.length-i/\i<=ks.length/\Hid (C=(aV (V.take i)).map dX/\n=(aV (V.take i)).length)/\T'=[(21,.int .i64 (i:Int)),(20,.int .i64 ks.length),(19,.sl KS ks.length none),(8,.gsl C n (M.length+1) 1),(4,.ptr M.length 0),(0,.ptr it 0),(2,.int .i64 w)]/\L'=M++(.cells [.int .i64 0,.str a,.str v,.sl PS ps.length none,.sl KS ks.length none] :: .spare n 1::Y)) (CutS (b:=by simp)) ⟨0,0,[],[],rfl,ahf _,hid ⟨rfl,rfl⟩,rfl,by simp⟩ ?_;rintro _ _ _ ⟨i,n,C,Y,rfl,hi,hC,rfl,rfl⟩;by_cases hlt:i<ks.length;obtain⟨q,hq⟩:=stp i hlt;obtain⟨e3,e4,e5,g1,g2,e6⟩:=hq.out;cases ha:qx tm l w q with
 | none =>
   rw[ha]at e5 e6;simp only[DU]at e5;have kk1:=@hid _ @e5;have hC2:=hid (show C=(aV (V.take (i+1))).map dX/\n=(aV (V.take (i+1))).length by rw[e6,sb];simpa[aV]using hC.out)
   clear e5 hq e6 ha;simp only[RI]at e3 kk1;refine wk ?_;exact ah _ _ _ (by omega) (CutS (b:=by simp)) ⟨i+1,n,C,_,rfl,hlt,hC2,rfl,rfl⟩
 | some m =>
   have hn60:n<=60:=by have h1:=hC.out.2;have h2:=sa (V.take i);rw[ajb]at h2;omega
   rw[ha]at e5 e6;simp only[DU]at e5;have kk1:=@hid _ @e5;have hC2:=hid (show C++[dX m]=(aV (V.take (i+1))).map dX/\n+1=(aV (V.take (i+1))).length by
    rw[e6,sb];refine⟨?_,?_⟩
    .rw[hC.out.1];simp[aV]
    .rw[hC.out.2];simp[aV])
   clear e5 hq e6 ha;simp only[RI]at e3 kk1;refine wk ?_;exact ah _ _ _ (by omega) (CutS (b:=by simp)) ⟨i+1,n+1,_,_,rfl,hlt,hC2,rfl,rfl⟩
 have hke:i=ks.length:=by omega
 subst hke;have g1:¬(ks.length:Int)<(ks.length:Int):=by omega
 have hE:C=(aV (V.take ks.length)).map dX/\n=(aV (V.take ks.length)).length:=⟨hC.out.1,hC.out.2⟩;clear stp;rw[<- hnl,ahr]at hE;obtain⟨rfl,rfl⟩:=hE;have hnl':=hnl;replace hnl:=hid hnl;replace hSl:=hid hSl;replace hFl:=hid hFl;have kk1:Hid (∀{i:Nat}{W:List Blk}{K:ag7},K (dX (ve (aV V))) W->ag6 29 [.gsl ((aV V).map dX) (aV V).length i 1] W K):=@hid _ (λ{i W K} q=>iU (by simpa only[AV.frzL,AV.frz,Ot]using Ym (cap:=none) (by have:=hSl.out;omega) (λm hm=>by have:=hVin m hm;omega) q));obtain⟨b,hb⟩:=ag2 (decide (0<((aV V).length:Int)));have h':=hid (h.out (dX (ve (aV V))) b (by
  rw[<- ho'.out,Pi,if_pos rfl,<- hb];cases hs:aV V with
  |nil=>rw[if_pos rfl];exact⟨rfl,_,none,rfl⟩
  |cons x r=>rw[if_neg (by simp)];exact⟨rfl,by simp⟩))
 obtain⟨ls,hls⟩:=ag2 (aV V);obtain⟨R,hR⟩:=ag2 (ve ls);rw[hls]at kk1 h' hb⊢;rw[hR]at kk1 h';clear ho' hVin hls hR;cases b with
 | true =>
   have g3:(0:Int)<(ls.length:Int):=of_decide_eq_true hb;have g4:(ls.length:Int)>0:=g3;replace hb:=hid hb;refine wk ?_;exact ae (by simp only[AV.refs,AV.refsL,hZ,ah7]) h'.out
 | false =>
   have g3:¬(0:Int)<(ls.length:Int):=of_decide_eq_false hb;have g4:¬(ls.length:Int)>0:=g3;replace hb:=hid hb;refine wk ?_;exact ae (by simp only[AV.refs,AV.refsL,hZ,ah7]) h'.out
 refine wk ?_;refine bX (l:=[]) (n:=0) 8 1 rfl (ahD 1).symm ?_;rw[e1];refine ak (λm T' L'=>∃(i n:Nat) (C:List AV) (Y:List Blk),m=ks.length-i/\i<=ks.length/\Hid (C=(aV (V.take i)).map dX/\n=(aV (V.take i)).length/\(V.take i).all Option.isSome=true)/\T'=[(21,.int .i64 (i:Int)),(20,.int .i64 ks.length),(19,.sl KS ks.length none),(8,.gsl C n (M.length+1) 1),(4,.ptr M.length 0),(0,.ptr it 0),(2,.int .i64 w)]/\L'=M++(.cells [.int .i64 1,.str a,.str v,.sl PS ps.length none,.sl KS ks.length none] :: .spare n 1::Y)) (CutS (b:=by simp)) ⟨0,0,[],[],rfl,ahf _,hid ⟨rfl,rfl,rfl⟩,rfl,by simp⟩ ?_;rintro _ _ _ ⟨i,n,C,Y,rfl,hi,hC,rfl,rfl⟩;by_cases hlt:i<ks.length;obtain⟨q,hq⟩:=stp i hlt;obtain⟨e3,e4,e5,g1,g2,e6⟩:=hq.out;cases ha:qx tm l w q with
 | none =>
   rw[ha]at e5 e6;simp only[DU]at e5;have kk1:=@hid _ @e5;have hV':none∈V:=List.mem_of_mem_take (i:=i+1) (by rw[e6];simp);have h':=hid (h.out (.sl [] 0 (some 0)) false (by
    rw[<- ho'.out,Pi,if_neg (by omega),if_neg (λe=>by have:=ahk.1 e _ hV';cases this)]
    exact⟨rfl,[],_,rfl⟩))
   clear e5 hq e6 ha hV';simp only[RI]at e3 kk1;refine wk ?_;exact ae rfl h'.out
 | some m =>
   have hn60:n<=60:=by have h1:=hC.out.2.1;have h2:=sa (V.take i);rw[ajb]at h2;omega
   rw[ha]at e5 e6;simp only[DU]at e5;have kk1:=@hid _ @e5;have hC2:=hid (show C++[dX m]=(aV (V.take (i+1))).map dX/\n+1=(aV (V.take (i+1))).length/\(V.take (i+1)).all Option.isSome=true by
    rw[e6,sb];refine⟨?_,?_,?_⟩
    .rw[hC.out.1];simp[aV]
    .rw[hC.out.2.1];simp[aV]
    .rw[ajE,hC.out.2.2];rfl)
   clear e5 hq e6 ha;simp only[RI]at e3 kk1;refine wk ?_;exact ah _ _ _ (by omega) (CutS (b:=by simp)) ⟨i+1,n+1,_,_,rfl,hlt,hC2,rfl,rfl⟩
 have hke:i=ks.length:=by omega
 subst hke;have g1:¬(ks.length:Int)<(ks.length:Int):=by omega
 have hE:C=(aV (V.take ks.length)).map dX/\n=(aV (V.take ks.length)).length:=⟨hC.out.1,hC.out.2.1⟩;clear stp;rw[<- hnl,ahr]at hE;obtain⟨rfl,rfl⟩:=hE;have hall:=hC.out.2.2;rw[<- hnl,ahr]at hall;replace hnl:=hid hnl;replace hSl:=hid hSl;replace hFl:=hid hFl;have kk1:Hid (∀{i:Nat}{W:List Blk}{K:ag7},K (dX (NY (aV V))) W->ag6 108 [.gsl ((aV V).map dX) (aV V).length i 1] W K):=@hid _ (λ{i W K} q=>iU (by simpa only[AV.frzL,AV.frz,Ot]using aeb (cap:=none) (by have:=hSl.out;omega) hFl.out q));have h':=hid (h.out (dX (NY (aV V))) true (by rw[<- ho'.out,Pi,if_neg (by omega),if_pos hall];exact⟨rfl,rfl⟩))
 obtain⟨R,hR⟩:=ag2 (NY (aV V));obtain⟨ls,hls⟩:=ag2 (aV V);rw[hR]at kk1 h';rw[hls]at kk1⊢;clear ho' hVin hls hR hall hC;refine wk ?_;exact ae (by simp only[AV.refs,AV.refsL,hZ,ah7]) h'.out;rw[if_neg hk]at ho';have k0:¬k=0:=λe=>hk (.inl e)
 have k1:¬k=1:=λe=>hk (.inr e)
 clear hk ih3 hKS;have kkH:Hid (∀{W:List Blk}{K:ag7},K (.bool (cy tm (af a)).isSome) (M++W)->ag6 11 [.ptr it 0,.str a] (M++W) K):=@hid _ (λ{W K} q=>NZ (hoW.out W) hn q);unfold lfO abQ at ho';by_cases k38:k=3\/k=8
 .have kkE:Hid (∀{W:List Blk}{K:ag7},K (pW (acv tm l a v)) (M++W)->ag6 18 [.ptr it 0,.str a,.str v] (M++W) K):=@hid _ (λ{W K} q=>aec (hoW.out W) hi hn q);obtain⟨b,hb⟩:=ag2 ((cy tm (af a)).isSome);obtain⟨R,hR⟩:=ag2 (acv tm l a v);have h':=h (pW R) b (by
   rw[<- ho',<- hb,<- hR];unfold acv tyO;cases hg:cy tm (af a)with
   |none=>exact⟨rfl,[],none,rfl⟩
   |some ty=>simp only[ahu,if_pos k38];exact⟨rfl,rfl⟩)
  rw[hb]at kkH;rw[hR]at kkE;have kk1:=@kkE;have kk2:=@kkH;replace h':=hid h';clear h ho' hR hb kkE kkH hoW;refine ad cR (by simp[bq]) ?_;simp only[bq,am];rcases k38 with rfl|rfl
  all_goals
   refine wk ?_;exact ae (by simp only[AV.refs,AV.refsL,hZ,ah7]) h'.out
 by_cases k7:k=7;have kkE:Hid (∀{W:List Blk}{K:ag7},K (pW (Vt tm l a)) (M++W)->ag6 14 [.ptr it 0,.str a] (M++W) K):=@hid _ (λ{W K} q=>abS (hoW.out W) hi hn q);obtain⟨b,hb⟩:=ag2 ((cy tm (af a)).isSome);obtain⟨R,hR⟩:=ag2 (Vt tm l a);have h':=h (pW R) b (by
  rw[<- ho',<- hb,<- hR];unfold Vt tyO;cases hg:cy tm (af a)with
  |none=>exact⟨rfl,[],none,rfl⟩
  |some ty=>simp only[ahu,if_neg k38,if_pos k7];exact⟨rfl,rfl⟩)
 rw[hb]at kkH;rw[hR]at kkE;have kk1:=@kkE;have kk2:=@kkH;replace h':=hid h';clear h ho' hR hb kkE kkH hoW;subst k7;refine ag5 cR ?_;exact ae (by simp only[AV.refs,AV.refsL,hZ,ah7]) h'.out;have k3:¬k=3:=λe=>k38 (.inl e)
 have k8:¬k=8:=λe=>k38 (.inr e)
 by_cases k4:k=4;rotate_left;have h':=h (.sl [] 0 (some 0)) false (by
  rw[<- ho'];unfold tyO;cases hg:cy tm (af a)with
  |none=>exact⟨rfl,[],_,rfl⟩
  |some ty=>simp only[ahu,if_neg k38,if_neg k7,if_neg (λe:k=4/\_=>k4 e.1)];exact⟨rfl,[],_,rfl⟩)
 replace h':=hid h';clear h ho' kkH hoW k38;refine ag5 cR ?_;exact ae rfl h'.out;subst k4;have kkT:Hid (∀{W:List Blk}{K:ag7},K (.bool ((tyO tm (af a)).elim false λs=>decide (s<=3))) (M++W)->ag6 109 [.ptr it 0,.str a] (M++W) K):=@hid _ (λ{W K} q=>ZD (hoW.out W) hn q);have kkC:Hid (∀{W:List Blk}{K:ag7},K (.int .i64 (if NO ps=true then 0 else 4)) W->ag6 76 [.agg [.int .i64 4,.str [97],.str [],.sl PS ps.length none,.sl [] 0 (some 0)]] W K):=@hid _ (λ{W K} q=>by rw[hPS.out];exact adb (by omega) q)
 have kkL:Hid (∀{W:List Blk}{K:ag7},K (pW (ad7 tm l a ps)) (M++W)->ag6 13 [.ptr it 0,.str a,.sl PS ps.length none] (M++W) K):=@hid _ (λ{W K} q=>by rw[hPS.out];exact abT (hoW.out W) hi hn ⟨by omega,λp hp=>by have:=r4 p hp;omega⟩ q)
 unfold tyO at ho' kkT;unfold ad7 at kkL;cases hg:cy tm (af a)with
 | none =>
   rw[hg]at ho' kkH kkT;simp only[ahF,aiG]at ho' kkH;have h':=h (.sl [] 0 (some 0)) false (by rw[<- ho'];exact⟨rfl,[],_,rfl⟩);have kk1:=@kkH;replace h':=hid h';clear h ho' kkH kkT kkC kkL hoW hPS hg k38;refine ag5 cR ?_;exact ae rfl h'.out
 | some ty =>
   rw[hg]at ho' kkH kkT kkL;simp only[ahu,aiM,Option.elim]at ho' kkH kkT kkL;rw[if_neg k38,if_neg k7]at ho';by_cases hs:ty.2.1<=3;rotate_left
   .rw[if_neg (by simp[hs])]at ho';simp only[hs,decide_false]at kkT;have h':=h (.sl [] 0 (some 0)) false (by rw[<- ho'];exact⟨rfl,[],_,rfl⟩);have kk1:=@kkH;have kk2:=@kkT;replace h':=hid h';clear h ho' kkH kkT kkC kkL hoW hPS hg k38 hs;refine ag5 cR ?_;exact ae rfl h'.out
   .simp only[hs,decide_true]at kkT;cases hp:NO ps with
    | false =>
      rw[hp]at ho' kkC;rw[if_neg (by simp)]at ho';simp only[ahp,if_false]at kkC;have h':=h (.sl [] 0 (some 0)) false (by rw[<- ho'];exact⟨rfl,[],_,rfl⟩);have kk1:=@kkH;have kk2:=@kkT;have kk3:=@kkC;replace h':=hid h';clear h ho' kkH kkT kkC kkL hoW hPS hg k38 hs hp;refine ag5 cR ?_;exact ae rfl h'.out
    | true =>
      rw[hp]at ho' kkC;rw[if_pos (by simp[hs])]at ho';simp only[if_true]at kkC;obtain⟨R,hR⟩:=ag2 (Qa (iV tm) l (af a) ty.2.1 ps);rw[hR]at kkL ho';have h':=h (pW R) true (by rw[<- ho'];exact⟨rfl,rfl⟩);have kk1:=@kkH;have kk2:=@kkT;have kk3:=@kkC;have kk4:=@kkL;replace h':=hid h';clear h ho' kkH kkT kkC kkL hoW hPS hg k38 hs hp hR;refine ag5 cR ?_;exact ae (by simp only[AV.refs,AV.refsL,hZ,ah7]) h'.out
end Go.Proofs.YtcmfcpjnhephaaaGreatDoor.Av
set_option maxRecDepth 100000
namespace Go.Proofs.YtcmfcpjnhephaaaGreatDoor.Av
open Go
def Hg:LSO:=[AP 4,AP 5]
def Hf:LSO:=[o1 15 (.call 20 []),Cm 6,Ai 2 6 15]
def He:LSO:=[Ap 17 2 6,Aa 18 0,Ax 19 19 17 18,Aa 16 19,Ar 20 16,Aw 21 16,Aa 7 20,Aa 8 21]
def Hd:LSO:=[Ap 23 2 6,Aa 24 0,Ax 25 32 23 24,Aa 22 25,Ar 26 22,Aw 27 22,Aa 9 26,Aa 10 27]
def Hc:LSO:=[Aa 28 8,AF 29 28 0,Aa 30 29,.grp none 30 false
 [Ah 31 30 7,Co 32 30 31]
 33 (tm 32),Aa 34 33,.grp none 34 false
 [Ah 35 34 9,Co 36 34 35]
 37 (tm 36),Aa 38 37,.grp none 38 false
 [Ah 39 38 1,Bf 40 38 39,A9 41 38 40 30]
 42 (tm 41)]
def Hb:LSO:=[AP 4,AP 5]
def Ha:LSO:=[Aa 43 1,Am 44 43,Ac 45 0]
def G9:LSO:=[Al 46 45 44]
def G8:LSO:=[An 47 2 43 45,Ap 48 2 47,Cl 12,Ai 2 12 48]
def G7:LSO:=[Ad 49 1 12,Ab 50 1 49,Ak 51 33 50,Ay 52 51]
def Dh:LSO:=[AP 4,AP 5]
def Dg:LSO:=[Ap 54 2 6,Ad 55 1 12,Ab 56 1 55,Ax 57 34 54 56,Aa 53 57,Ar 58 53,Aw 59 53,Aa 13 58,Aa 14 59]
def Df:LSO:=[Aa 60 14,Aq 61 60 0,Aa 62 61,.grp none 62 true
 [A8 63 62 1 12,A7 64 62 1 63,AT 65 62 64,Cj 66 62 65 0]
 67 (tm 66)]
def De:LSO:=[Aa 68 7,Ad 69 0 12,Ab 70 1 69,Aa 71 13,AB 72 21 68 70 71]
def Dd:LSO:=[Aa 73 9,Ad 74 0 12,Ab 75 1 74,Aa 76 13,AB 77 37 73 75 76]
def Dc:LSO:=[Ag 78 45 1,Aa 45 78]
def Db:LSO:=[Aa 79 7,Aa 80 9,Aa 4 79,Aa 5 80]
def lk:aO:=⟨81,(akg Hg [] (akg Hf Cq (akg He C4 (akg Hd CU (.seq (akg Hc Cx (aki 42 (.sreg Hb []))) (.seq (akg Ha [] (akj 0 (akg G9 [] (.seq (akk 46 0) (.seq (.block 1 (akg G8 Cr (.seq (akg G7 Cs (aki 52 (.sreg Dh []))) (akg Dg CF (akg Df Cs (akh 67 (akg De C0 (.sreg Dd C0)) .skip)))))) (.sreg Dc Cq)))))) (akg Db C7 .ret))))))),[(.tmp 4),(.tmp 5)]⟩
attribute [push_cast] Hg Hf He Hd Hc Hb Ha G9 G8 G7 Dh Dg Df De Dd Dc Db
theorem DJ:akl 24=akm lk:=by kernel_rfl
def CX:LSO:=[Af 0]
def CW:LSO:=[o1 16 (.call 20 []),o1 17 (.bslice false 1 1 [(.str [])] [(0,(1,(.av (.str [99,110]))))]),Ax 18 19 16 17,Aa 15 18,Ar 19 15,Aw 20 15,Aa 1 19,Aa 2 20]
def At:LSO:=[Aa 21 2,AF 22 21 0,Aa 23 22,.grp none 23 false
 [Ah 24 23 1,Co 25 23 24]
 26 (tm 25)]
def z8:LSO:=[Af 0]
def z7:LSO:=[Aa 27 1,o1 28 (.bslice false 1 1 [(.str [])] [(0,(1,(.av (.str [97]))))]),
 o1 29 (.build [(.str []),(.sl [] 0 (some 0))] [(0,(1,(.av (.str [99,110])))),(1,(1,(tm 28)))]),BM 30 29,Bm 31 21 27 4 30]
def z6:LSO:=[o1 33 (.call 58 [(.av (.str [40,38,40,99,110,61,97,41,40,115,110,62,61,98,41,41]))]),Aa 32 33,Ar 34 32,Aw 35 32,AU 3,Ai 5 3 34,Aa 4 35]
def zZ:LSO:=[o1 37 (.call 58 [(.av (.str [40,124,40,99,110,61,97,41,40,115,110,61,98,41,41]))]),Aa 36 37,Ar 38 36,Aw 39 36,AU 5,Ai 5 5 38,Aa 6 39]
def zY:LSO:=[o1 41 (.call 58 [(.av (.str [40,124,41]))]),Aa 40 41,Ar 42 40,Aw 43 40,AU 7,Ai 5 7 42,Aa 8 43]
def zX:LSO:=[Aa 45 1,Ap 46 5 3,BA 47 27 45 46 9,Aa 44 47,Ar 48 44,Aw 49 44,Aa 9 48,Aa 10 49]
def zW:LSO:=[Aa 51 1,Ap 52 5 5,BA 53 27 51 52 9,Aa 50 53,Ar 54 50,Aw 55 50,Aa 11 54,Aa 12 55]
def u6:LSO:=[Aa 57 1,Ap 58 5 7,BA 59 27 57 58 9,Aa 56 59,Ar 60 56,Aw 61 56,Aa 13 60,Aa 14 61]
def u0:LSO:=[Aa 62 10,Aa 63 62,.grp none 63 true
 [Ae 64 63 9,AT 65 63 64,Bb 66 63 65 1]
 67 (tm 66),Aa 68 67,.grp none 68 true
 [Ae 69 68 9,og 70 68 true (.iaddr 1 (tm 69) (iv 0)),A7 71 68 1 70,Bb 72 68 71 4]
 73 (tm 72),Aa 74 73,.grp none 74 true
 [Ae 75 74 12,B9 76 74 75]
 77 (tm 76),Aa 78 77,.grp none 78 true
 [Ae 79 78 14]
 80 (tm 79),Aa 81 80,.grp none 81 true
 [Ae 82 81 13,AT 83 81 82,Bb 84 81 83 0]
 85 (tm 84),Aa 0 85]
def rO:aO:=⟨86,(akg CX [] (akg CW C4 (.seq (akg At Cs (aki 26 (.sreg z8 []))) (akg z7 C0 (akg z6 CQ (akg zZ CQ (akg zY CQ (akg zX C4 (akg zW Cx (akg u6 C4 (akg u0 C6 .ret))))))))))),[(.tmp 0)]⟩
attribute [push_cast] CX CW At z8 z7 z6 zZ zY zX zW u6 u0
theorem Pa:akl 26=akm rO:=by kernel_rfl
def nG:LSO:=[A4 2 0,Af 4]
def nF:LSO:=[Ad 12 0 2,Ab 13 1 12,Ad 14 1 2,Ab 15 1 14,Ax 16 24 13 15,Aa 11 16,Ar 17 11,Aw 18 11,Aa 5 17,Aa 6 18]
def nE:LSO:=[Aa 19 5,BK 20 19,Aa 21 20,AO 22 21 2 2,og 23 21 false (.load true 5 (tm 22)),AZ 24 21 25 23,Bk 25 21 24,
 o1 26 (.pick (tm 21) (.av (.bool true)) (tm 25)),Aa 27 26,Ah 28 27 1,AO 29 27 7 2,AI 30 27 1 29,og 31 27 false (.bin .lss (tm 28) (tm 30)),
 o1 32 (.pick (tm 27) (.av (.bool true)) (tm 31))]
def nD:LSO:=[o1 33 (.call 26 []),Aa 4 33]
def nC:LSO:=[Aa 35 5,Ad 36 2 2,Ap 37 5 36,Ad 38 7 2,Ab 39 1 38,AB 40 27 35 37 39,Aa 34 40,Ar 41 34,Aw 42 34,Aa 7 41,Aa 8 42]
def nB:LSO:=[Aa 44 5,Ad 45 2 2,Ap 46 5 45,Aa 47 1,AB 48 27 44 46 47,Aa 43 48,Ar 49 43,Aw 50 43,Aa 9 49,Aa 10 50]
def nA:LSO:=[Aa 51 8,Ay 52 51]
def nz:LSO:=[o1 53 (.call 26 []),Aa 54 53,.grp none 54 true
 [Ae 55 54 7,AT 56 54 55,Bb 57 54 56 0]
 58 (tm 57),Aa 4 58]
def ny:LSO:=[o1 59 (.call 26 []),Aa 60 59,.grp none 60 true
 [Ae 61 60 10]
 62 (tm 61),Aa 63 62,.grp none 63 true
 [Ae 64 63 7,Ae 65 63 9,og 66 63 true (.bslice false 1 2 [(.sl [] 0 (some 0)),(.sl [] 0 (some 0))] [(0,(1,(tm 64))),(1,(1,(tm 65)))]),AJ 67 63 29 66,Ae 68 63 9,
 og 69 63 true (.call 22 [(tm 67),(tm 68)])]
 70 (tm 69),Aa 71 70,.grp none 71 true
 [Ae 72 71 7,AT 73 71 72,A8 74 71 7 2,A7 75 71 1 74,BY 76 71 73 75]
 77 (tm 76),Aa 4 77]
def gY:aO:=⟨78,(akg nG [] (akg nF [false,true,false,false,false,false,false,false,false,false] (.seq (akg nE CR (aki 32 (.sreg nD Cq))) (akg nC CO (akg nB CN (.seq (akg nA Cq (aki 52 (.sreg nz Cs))) (akg ny Cx .ret))))))),[(.tmp 4)]⟩
attribute [push_cast] nG nF nE nD nC nB nA nz ny
theorem DS:akl 6=akm gY:=by kernel_rfl
attribute [push_cast] lk rO gY
end Go.Proofs.YtcmfcpjnhephaaaGreatDoor.Av
