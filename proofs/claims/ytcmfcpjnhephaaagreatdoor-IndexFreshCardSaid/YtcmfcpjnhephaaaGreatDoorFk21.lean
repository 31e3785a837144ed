/- Joined texts of the walk, made small by a program. -/
import Derived.Test.YtcmfcpjnhephaaaGreatDoorFk20
import Derived.Test.YtcmfcpjnhephaaaGreatDoorFk18
import Derived.Test.YtcmfcpjnhephaaaGreatDoorFk16
import Derived.Test.YtcmfcpjnhephaaaGreatDoorFk4
import Derived.Test.YtcmfcpjnhephaaaGreatDoorRows
import Derived.KernelRfl
set_option linter.unusedSimpArgs false
set_option linter.unusedVariables false
namespace Go.Proofs.YtcmfcpjnhephaaaGreatDoor.Av
open Go
set_option maxHeartbeats 8000000
set_option maxRecDepth 100000
theorem S7 {xs:List (a8 Int Bool)} {ck:Nat} (h:cF xs ck) (ht:∀ e∈xs,e.2.1=true) (x:Int):PC (aY (AV.int .i64) AV.bool xs) x=some (!(xs.map (·.1)).contains x):=by
 unfold PC;rcases da (va:=AV.bool) nD h x true with ⟨j,w,q1,q2,_,q4⟩|⟨q1,q2,_,q4⟩
 ·have hw:w=true:=by
   obtain ⟨c,hc⟩:=fh q1;exact ht _ hc
  simp only [q2,hw];rw [aax.2 q4]
 ·simp only [q2];have:(xs.map (·.1)).contains x=false:=by
   cases hc:(xs.map (·.1)).contains x with
   | false=>rfl
   | true=>exact absurd (aax.1 hc) q4
  rw [this];rfl
structure LkS (l:List bf) (f:List UInt8) (ys:List (a8 Int Bool)) (ck:Nat) (M:Int->Prop):Prop where
 ok:cF ys ck
 tr:∀ e∈ys,e.2.1=true
 mem:∀ x,x∈ys.map (·.1)↔x∈kx l f/\M x
theorem LkS.iff {l:List bf} {f:List UInt8} {ys:List (a8 Int Bool)} {ck:Nat} {M M':Int->Prop} (h:LkS l f ys ck M) (e:∀ x,M x↔M' x):LkS l f ys ck M':=⟨h.ok,h.tr,fun x=>by rw [h.mem,e]⟩
theorem LkS.del {l:List bf} {f:List UInt8} {ys:List (a8 Int Bool)} {ck:Nat} {M:Int->Prop} (h:LkS l f ys ck M) (q:Int->Bool):LkS l f (ys.filter fun p => !q p.1) ck (fun x=>M x/\q x=false):=by
 refine ⟨h.ok.filter _,fun e he=>h.tr e (aak.1 he).1,fun x=>?_⟩;rw [ZC];constructor
 ·rintro ⟨e,he,rfl⟩;obtain ⟨h1,h2⟩:=aak.1 he;obtain ⟨h3,h4⟩:=(h.mem e.1).1 (ZC.2 ⟨e,h1,rfl⟩);exact ⟨h3,h4,by simpa using h2⟩
 ·rintro ⟨h1,h2,h3⟩;obtain ⟨e,he,rfl⟩:=ZC.1 ((h.mem x).2 ⟨h1,h2⟩);exact ⟨e,aak.2 ⟨he,by simpa using h3⟩,rfl⟩
theorem Jg (t:List UInt8):(ab t).length=t.length:=by unfold ab;simp
theorem LJ {L:List Blk} {it:Nat} {tm:TMp} {l:List bf} {B:Nat->Prop} (ho:IxO L it tm l B) (hi:MG l) {n:List UInt8} (hn:bd n) {ps:List Pc} (hps:ps.length<=1000/\∀ p∈ps,p.2.length<=100000) {cap:Option Nat} {K:Zy} (h:K (Gm (On tm l n ps)) L):Zx 13 [.ptr it 0,.str n,.sl (Ky ps) ps.length cap] L K:=by
 have kk1:Hid (∀ {K:Zy},K (.bool (cH tm (ab n)).isSome) L->Zx 11 [.ptr it 0,.str n] L K):=@hid _ (fun {K} q=>Ox ho hn q);have hr:=ho.rise;obtain ⟨im,ie,ip,ii,em,ec,pm,pc,dm,dc,h1,h2,h3,h4⟩:=ho;unfold On at h;obtain ⟨f,hf⟩:=Zt (ab n);have kk2:Hid (Ctr Tryz.prog 38 [.str n] (.str f)):=@hid _ (by intro L K q;exact eR hn (by rw [hf];exact q));rw [hf] at h kk1;have hst:=h1.st;have hpr:=h1.pr;have hks:bC .str (.str f)=true:=rfl;rcases da (va:=tyV) nC h1.tok f lW with ⟨j,⟨w1,w2,w3,w4⟩,q1,q2,_⟩|⟨q1,_⟩
 rotate_left
 ·rw [q1] at h kk1;simp only [abg] at kk1;replace h:=hid h;clear h1 h2 h3 h4 hr q1;refine Zw iI ?_;exact bv (aa h.out)
 ·rw [q1] at h kk1;simp only [abm] at kk1;simp only at h;have hfm:f∈pm.map (·.1):=(h1.pk f).2 (by
   obtain ⟨c,hc⟩:=fh q1;exact ZC.2 ⟨_,hc,rfl⟩)
  obtain ⟨jb,b,y1,y2,_⟩:=mA (va:=AV.lmap) nC 0 h1.pok.keys hfm;rw [aaN] at y2;obtain ⟨xs,ck,s1,s2,s3,s4⟩:=h1.ps f b y1;have kk3:Hid (∀ {K:Zy},K (.lmap L.length) (L++[gv xs ck])->Zx 40 [.lmap b] L K):=@hid _ (fun {K} q=>QB s1 q);replace h:=hid h;replace hps:=hid hps;replace h1:=hid h1;replace s4:=hid s4;replace s3:=hid s3;replace s2:=hid s2;replace hr:=hid hr;replace hi:=hid hi;clear h2 h3 h4 q1 hfm y1 s1;have hpl:=Pg ps;obtain ⟨PS,hPS⟩:=Zt (Ky ps);have hat:=hid (fun k (q:k<ps.length)=>Od q);rw [hPS] at hat hpl ⊢;clear hPS;refine Zw iI ?_;obtain ⟨tys,htys⟩:=Zt (gu tm);rw [htys] at h h1;obtain ⟨ex,hex⟩:=Zt (decide (w2=2));refine ak (fun m T' L'=>∃ (i:Nat) (ys:List (a8 Int Bool)) (X:List Blk),m=ps.length - i/\i<=ps.length/\Hid (LkS l f ys ck fun x=>∀ p∈ps.take i,∀ g∈dv (pcT ex p),x∈eE tys l (f,true,g))/\T'=[(30,.int .i64 (i:Int)),(29,.int .i64 ps.length),(28,.sl PS ps.length cap),(8,.lmap L.length),(7,.str f),(0,.ptr it 0)]/\L'=L++(gv ys ck::X)) (CutS (b:=by simp)) ⟨0,xs,[],rfl,ZI _,hid ⟨s2.out,s3.out,fun x=>by rw [s4.out];simp⟩,rfl,rfl⟩ ?_;clear kk1 kk2 kk3 hn s2 s3 s4;rintro _ _ _ ⟨i,ys,X0,rfl,hi2,hS,rfl,rfl⟩;have aX:∀ (X:List Blk) {i:Nat} {b:Blk},L[i]?=some b->(L++X)[i]?=some b:=fun X {i b} e=>Zu e
  have a1:∀ X,(L++X)[it]?=some (.cells [.lmap im,.lmap ie,.lmap ip,.lmap ii]):=fun X=>aX X hst
  have a2:∀ X,(L++X)[im]?=some (.map (aY AV.str tyV tm) tm.length):=fun X=>aX X h1.out.ty
  have a3:∀ X,(L++X)[ii]?=some (.map (aY kV AV.lmap dm) dc):=fun X=>aX X h1.out.ids
  by_cases hlt:i<ps.length
  ·have hpb:=hps.out.1;have j1:(i:Int)<(ps.length:Int):=by omega
   have j2:=Zv i (by omega);have e3:=hat.out i hlt;have e4:i * 2+2<=PS.length:=by rw [hpl];omega
   obtain ⟨⟨k,t⟩,hp⟩:∃ p,ps.getD i (0,[])=p:=⟨_,rfl⟩;have htb:=hps.out.2 (k,t) (by rw [<- hp];simp [hlt]);simp only at htb;rw [hp] at e3;simp only [pcA] at e3;have htk:ps.take (i+1)=ps.take i++[(k,t)]:=by rw [ZY hlt,<- hp];simp [hlt]
   obtain ⟨t',ht'⟩:=Zt (pcT ex (k,t));have hpt:t'.length<=100000:=by
    rw [<- ht'];unfold pcT;split
    ·exact htb
    ·rw [Jg];exact htb
   have kk1:Hid (Ctr Tryz.prog 41 [.str t'] (G9 (dv t'))):=@hid _ (fun {L K} q=>RL hpt q);have hgb:(dv t').length<=100000:=by rw [mz];omega
   have hrt:bd t:=by unfold bd;omega
   have kk2:Hid (ex=false->∀ {L:List Blk} {K:Zy},K (.str t') L->Zx 38 [.str t] L K):=@hid _ (fun he {L K} q=>eR hrt (by rw [<- ht',he] at q;exact q));have htt:ex=true->t'=t:=fun he=>by rw [<- ht',he];rfl
   replace htk:=hid htk;replace ht':=hid ht';obtain ⟨gs,hgs⟩:=Zt (dv t');rw [hgs] at kk1 hgb;replace hgs:=hid hgs;replace hgb:=hid hgb;clear hp htb hpt hrt hpb;have hcase:(∃ e:w2=2,t'=t)\/(¬ w2=2/\Hid (Ctr Tryz.prog 38 [.str t] (.str t'))):=by
    cases hx:ex with
    | true=>exact .inl ⟨of_decide_eq_true (hex.trans hx),htt hx⟩
    | false=>exact .inr ⟨of_decide_eq_false (hex.trans hx),@hid _ (fun {L K} q=>kk2.out hx q)⟩
   clear kk2 htt;replace hex:=hid hex;rcases hcase with ⟨hw,rfl⟩|⟨hw,kk2⟩
   all_goals
    refine wk ?_;refine ak (fun m T' L'=>∃ (j:Nat) (ys:List (a8 Int Bool)) (X:List Blk),m=gs.length - j/\j<=gs.length/\Hid (X0.length+1<=X.length)/\Hid (LkS l f ys ck fun x=>(∀ p∈ps.take i,∀ g∈dv (pcT ex p),x∈eE tys l (f,true,g))/\∀ g∈gs.take j,x∈eE tys l (f,true,g))/\T'=[(49,.int .i64 (j:Int)),(48,.int .i64 gs.length),(47,.sl (gs.map AV.str) gs.length none),(30,.int .i64 (i:Int)),(29,.int .i64 ps.length),(28,.sl PS ps.length cap),(8,.lmap L.length),(7,.str f),(0,.ptr it 0)]/\L'=L++(gv ys ck::X)) (CutS (b:=by simp)) ⟨0,ys,_,rfl,ZI _,hid (by simp),hid (hS.out.iff fun x=>by simp),rfl,rfl⟩ ?_;clear hS kk1;rintro _ _ _ ⟨j,ys,X,rfl,hj,hXl,hS,rfl,rfl⟩;by_cases hjg:j<gs.length
    ·have hgb2:=hgb.out;have g1:(j:Int)<(gs.length:Int):=by omega
     have g2:=Zv j (by omega);have g3:(gs.map AV.str).getD j .undef=.str (gs.getD j []):=by simp [hjg]
     have g4:j<(gs.map AV.str).length:=by simpa using hjg
     obtain ⟨g,hg⟩:=Zt (gs.getD j []);have htj:gs.take (j+1)=gs.take j++[g]:=by rw [ZY hjg,<- hg];simp [hjg]
     rw [hg] at g3;replace htj:=hid htj;obtain ⟨GS,hGS⟩:=Zt (gs.map AV.str);rw [hGS] at g3 g4 ⊢;clear hg hgb2;have hk3:bC (.st [.str,.bool,.str]) (.agg [.str f,.bool true,.str g])=true:=rfl;rcases da (va:=AV.lmap) qN h1.out.dok (f,true,g) 0 with ⟨j',b2,p1,p2,_⟩|⟨p1,p2,_⟩
     ·obtain ⟨zs,ck2,z1,z2,z3,z4⟩:=h1.out.ds _ b2 p1;have hqx:∀ x,(!(zs.map (·.1)).contains x)=false↔x∈eE tys l (f,true,g):=fun x=>by
       have e:=z4 x;simp only at e;simp [e]
      have hes:=S7 z2 z3;obtain ⟨q,hq⟩:∃ q:Int->Bool,(fun x => !(zs.map (·.1)).contains x)=q:=⟨_,rfl⟩;have hqx2:∀ x,q x=false↔x∈eE tys l (f,true,g):=fun x=>by rw [<- hq];exact hqx x
      have hes2:∀ x,PC (aY (AV.int .i64) AV.bool zs) x=some (q x):=fun x=>by rw [<- hq];exact hes x
      clear hq hqx hes;have hS2:=hid ((hS.out.del q).iff (M':=fun x=>(∀ p∈ps.take i,∀ g∈dv (pcT ex p),x∈eE tys l (f,true,g))/\∀ g∈gs.take (j+1),x∈eE tys l (f,true,g)) fun x=>by
       rw [htj.out,and_assoc];refine and_congr_right fun _=>?_
       rw [hqx2 x];simp only [ZD,ZS];constructor
       ·rintro ⟨q1,q2⟩ y (hy|rfl)
        ·exact q1 y hy
        ·exact q2
       ·intro u;exact ⟨fun y hy=>u y (.inl hy),u g (.inr rfl)⟩)
      have kk1:Hid (∀ {K:Zy},K (.tup []) (L++(gv (ys.filter fun p => !q p.1) ck::(X++[.cells [.lmap b2]])))->Zx 42 [.lmap L.length,.func 43 [.ptr (L.length+(X.length+1)) 0]] (L++(gv ys ck::(X++[.cells [.lmap b2]]))) K):=@hid _ (fun {K} u=>by
       refine RB (xs:=ys) (ck:=ck) (q:=q) (QH (j:=b2) (ck:=ck2) _ hes2) (fun l c y=>⟨?_,?_⟩) hS.out.ok.keys hS.out.ok.born hS.out.ok.lt (by rw [lY];rfl) ?_
       ·rw [re,ZO,Z5 (by omega),show L.length+(X.length+1) - L.length=X.length+1 by omega,aaf,aa8,ZO];exact lY _ _ _
       ·rw [re,ZO,ZM (Zz.1 z1).1];exact z1
       ·rw [re];exact u)
      simp only [kV] at p2;clear z1 z2 z3 z4 p1 hS hqx2 hes2;refine wk ?_;rw [<- hGS];exact aj _ _ _ (by omega) (CutL (b:=by simp;have:=hXl.out;omega)) ⟨j+1,_,X++[.cells [.lmap b2]],rfl,hjg,hid (by simp;have:=hXl.out;omega),hS2,rfl,rfl⟩
     ·obtain ⟨q,hq⟩:∃ q:Int->Bool,(fun _=>true)=q:=⟨_,rfl⟩;have hS2:=hid ((hS.out.del q).iff (M':=fun x=>(∀ p∈ps.take i,∀ g∈dv (pcT ex p),x∈eE tys l (f,true,g))/\∀ g∈gs.take (j+1),x∈eE tys l (f,true,g)) fun x=>by
       constructor
       ·rintro ⟨_,u⟩;rw [<- hq] at u;cases u
       ·rintro ⟨_,u⟩;exact absurd (u g (by rw [htj.out];simp)) (h1.out.dn _ p1 x))
      have kk1:Hid (∀ {K:Zy},K (.tup []) (L++(gv (ys.filter fun p => !q p.1) ck::(X++[.cells [.nilmap]])))->Zx 42 [.lmap L.length,.func 43 [.ptr (L.length+(X.length+1)) 0]] (L++(gv ys ck::(X++[.cells [.nilmap]]))) K):=@hid _ (fun {K} u=>by
       refine RB (xs:=ys) (ck:=ck) (q:=q) (by rw [<- hq];exact SU) (fun l c y=>?_) hS.out.ok.keys hS.out.ok.born hS.out.ok.lt (by rw [lY];rfl) ?_
       ·rw [re,ZO,Z5 (by omega),show L.length+(X.length+1) - L.length=X.length+1 by omega,aaf,aa8,ZO];exact lY _ _ _
       ·rw [re];exact u)
      simp only [kV] at p2;clear p1 hS hq;refine wk ?_;rw [<- hGS];exact aj _ _ _ (by omega) (CutL (b:=by simp;have:=hXl.out;omega)) ⟨j+1,_,X++[.cells [.nilmap]],rfl,hjg,hid (by simp;have:=hXl.out;omega),hS2,rfl,rfl⟩
    ·have hje:j=gs.length:=by omega
     subst hje;have g1:¬ (gs.length:Int)<(gs.length:Int):=by omega
     have hS2:=hid (hS.out.iff (M':=fun x=>∀ p∈ps.take (i+1),∀ g∈dv (pcT ex p),x∈eE tys l (f,true,g)) fun x=>by
      rw [htk.out,ZW];simp only [ZD,ZS];constructor
      ·rintro ⟨q1,q2⟩ p (hp|rfl)
       ·exact q1 p hp
       ·rw [ht'.out,hgs.out];exact q2
      ·intro q;refine ⟨fun p hp=>q p (.inl hp),?_⟩;have:=q _ (.inr rfl);rw [ht'.out,hgs.out] at this;exact this)
     clear hS;refine wk ?_;exact aj _ _ _ (by omega) (CutL (b:=by simp)) ⟨i+1,_,_,rfl,hlt,hS2,rfl,rfl⟩
  ·have hie:i=ps.length:=by omega
   subst hie;have j1:¬ (ps.length:Int)<(ps.length:Int):=by omega
   have hlr:(MQ tys l f w2 ps).Pairwise (· < ·):=by
    unfold MQ;exact List.Pairwise.sublist acn (Nn hr.out)
   have hlm:∀ x,x∈ys.map (·.1)↔x∈MQ tys l f w2 ps:=fun x=>by
    rw [hS.out.mem,ZW];unfold MQ;rw [aak,hex];simp only [ZJ,aax]
   have hln:(∀ x∈MQ tys l f w2 ps,-9223372036854775808<=x/\x<=9223372036854775807)/\(MQ tys l f w2 ps).length<=1000:=by
    obtain ⟨g1,g2⟩:=Oa hi.out (f:=f);unfold MQ;exact ⟨fun x hx=>g1 x (aak.1 hx).1,Z0 (abt _ _) g2⟩
   obtain ⟨R,hR⟩:=Zt (MQ tys l f w2 ps);rw [hR] at hlr hlm hln h;have kk1:Hid (∀ {K:Zy},K (Gm R) (L++(gv ys ck::X0))->Zx 44 [.lmap L.length] (L++(gv ys ck::X0)) K):=@hid _ (fun {K} q=>Ou (P:=fun x=>x∈ys.map (·.1)) ⟨ys,ck,by simp,hS.out.ok,hS.out.tr,fun x=>Iff.rfl⟩ hlr hlm hln q);clear hlr hlm hln hR hS aX hst a1 a2 a3;refine wk ?_;exact ae (by simp only [AV.refs,IY]) h.out
variable {L:List Blk} {K:Zy}
theorem Zm {l:List (List UInt8)} {k:Nat} (h:k<l.length):(l.map AV.str).getD k .undef=.str (l.getD k []):=by
 rw [Z2,Z2];simp [h]
theorem W9 {xs:List (List UInt8)} {cap:Option Nat} {s:List UInt8} (hn:xs.length<=1000000000000) (h:K (.bool (xs.contains s)) L) :
  Zx 82 [.sl (xs.map AV.str) xs.length cap,.str s] L K:=by
 replace h:=hid h;have hg:=hid (fun k (q:k<xs.length)=>Zm q);have hl:(xs.map AV.str).length=xs.length:=by simp
 obtain ⟨X,hX⟩:=Zt (xs.map AV.str);rw [hX] at hg hl ⊢;clear hX;refine Zw Mi ?_;refine ak (fun n T' L'=>∃ k:Nat,n=xs.length - k/\k<=xs.length/\T'=[(9,.int .i64 (k:Int)),(8,.int .i64 xs.length),(7,.sl X xs.length cap),(1,.str s)]/\L=L'/\Hid (∀ j,j<k->xs.getD j []≠s)) (CutS (b:=ZA _)) ⟨0,rfl,ZI _,rfl,rfl,hid (by simp)⟩ ?_;rintro _ _ L' ⟨k,rfl,hk,rfl,e,hr⟩;subst e;by_cases hlt:k<xs.length
 ·have g1:(k:Int)<(xs.length:Int):=by omega
  have g2:=Zv k (by omega);have e3:=hg.out k hlt;have e4:k<X.length:=by omega
  obtain ⟨x,hx⟩:=Zt (xs.getD k []);rw [hx] at e3;by_cases hq:x=s
  ·have e:xs.contains s=true:=by
    rw [aax,<- hq,<- hx];simp [hlt]
   rw [e] at h;replace hx:=hid hx;subst hq;clear e;refine wk ?_;exact aa h.out
  ·have hr2:Hid (∀ j,j<k+1->xs.getD j []≠s):=hid (fun j hj=>by
    rcases ZT j k with h|h
    ·exact hr.out j h
    ·have:j=k:=by omega
     subst this;rw [hx];exact hq)
   clear hx hr;refine wk ?_;exact aj _ _ _ (by omega) (CutL (b:=by simp)) ⟨k+1,rfl,hlt,rfl,rfl,hr2⟩
 ·have g1:¬ (k:Int)<(xs.length:Int):=by omega
  have e:xs.contains s=false:=by
   simp only [aam,decide_eq_false_iff_not];intro hs;obtain ⟨j,hj,e⟩:=aa1.1 hs;exact hr.out j (by omega) (by simp [hj,e])
  rw [e] at h;clear hr e;refine wk ?_;exact aa h.out
end Go.Proofs.YtcmfcpjnhephaaaGreatDoor.Av
set_option maxRecDepth 100000
namespace Go.Proofs.YtcmfcpjnhephaaaGreatDoor.Av
open Go
def DT:LSO:=[A5 2 0,AD 4,Ab 5 0]
def DS:LSO:=[Aw 9 2 2,o1 10 (.build [(.sl [] 0 (some 0)),(.sl [] 0 (some 0)),(.sl [] 0 (some 0)),(.sl [] 0 (some 0))] [(0,(2,(tm 9)))]),A5 11 10,Aa 6 11]
def DR:LSO:=[Aa 12 1,Al 13 12,Ab 14 0]
def DQ:LSO:=[Ak 15 14 13]
def DP:LSO:=[An 16 1 12 14,Ac 17 1 16,Aa 8 17]
def DO:LSO:=[Ad 18 0 2,Ac 19 1 18,Aa 20 8,Aq 21 12 19 20,AL 22 21 0]
def DN:LSO:=[AD 4,Ab 5 20]
def DM:LSO:=[Aa 23 6,A7 24 23,Ad 25 2 24,Ac 26 1 25,Aa 27 8,Ai 28 39 27,Aq 29 82 26 28]
def DL:LSO:=[AD 4,Ab 5 21]
def DK:List (ai×Kd) :=
 [A4 30 6,A4 31 6,A9 32 31 0 0,A0 33 2 32,Ax 34 1 33 0 0,A4 35 8,AK 36 39 35 0 0,od 37 (.bslice false 1 1 [(.str [])] [(0,(1,(tm 36)))]) (.read 0 0),
 od 38 (.app 1 1 16 [(.str [])] (tm 34) (tm 37)) .eff]
def wm:List ai :=
 [⟨(some 39),(.nilchk (tm 30)),none⟩,⟨(some 40),(.faddr 2 (tm 39)),none⟩,⟨none,(.store 1 (tm 40) (tm 38)),none⟩]
def wo:LSO:=[Ah 41 14 1,Aa 14 41]
def wn:LSO:=[Aa 42 6,Aa 4 42,Ab 5 0]
def CO:br:=⟨43,(.seq (.sreg DT [])
 (.seq (.sreg DS Cf)
 (.seq (.seq (.sreg DR [])
 (.block 0 (.loop (.seq (.sreg DQ [])
 (.seq (.cond (tm 15) .skip
 (.exit 0))
 (.seq (.block 1 (.seq (.sreg DP Ce)
 (.seq (.seq (.sreg DO Cg)
 (.cond (tm 22) (.seq (.sreg DN [])
 .ret)
 .skip))
 (.seq (.seq (.sdreg DM [.pure,(.read 0 0),.pure,(.read 0 0),.pure,(.read 0 0)] Ci)
 (.cond (tm 29) (.seq (.sreg DL [])
 .ret)
 .skip))
 (.dregM DK wm [false,false,false,false,false,false,false,false,false,false,false])))))
 (.sreg wo Cd)))))))
 (.seq (.sreg wn Cj)
 .ret)))),[(.tmp 4),(.tmp 5)]⟩
attribute [push_cast] DT DS DR DQ DP DO DN DM DL DK wm wo wn
theorem Mf:bt Tryz.prog (fun _ _=>1) 32=some CO.raw:=by kernel_rfl
def jw:LSO:=[Aj 4]
def jv:LSO:=[Aa 7 0,A7 8 7,Ad 9 3 8,Ac 10 1 9,Al 11 10,Ab 12 0]
def ju:LSO:=[Ak 13 12 11]
def jt:LSO:=[An 14 2 10 12,Aw 15 2 14,Cb 6,Ao 2 6 15]
def jr:LSO:=[Ad 16 0 6,Ac 17 1 16,Aa 18 1,Bv 19 17 18]
def jo:LSO:=[Aa 20 4,Aw 21 2 6,BJ 22 21,BK 23 20 22,Aa 4 23]
def jn:LSO:=[Ah 24 12 1,Aa 12 24]
def jm:LSO:=[Aa 25 0,Aa 26 4,A7 27 25,Ad 28 3 27,Ao 1 28 26]
def fw:br:=⟨29,(.seq (.sreg jw [])
 (.seq (.seq (.sreg jv CA)
 (.block 0 (.loop (.seq (.sreg ju [])
 (.seq (.cond (tm 13) .skip
 (.exit 0))
 (.seq (.block 1 (.seq (.sreg jt Ce)
 (.seq (.sreg jr Cf)
 (.cond (tm 19) (.sreg jo Cg)
 .skip))))
 (.sreg jn Cd)))))))
 (.sreg jm Cv))),[]⟩
attribute [push_cast] jw jv ju jt jr jo jn jm
theorem vZ:bt Tryz.prog (fun _ _=>1) 36=some fw.raw:=by kernel_rfl
def lw:LSO:=[Aa 10 0,Aa 11 1,Aq 12 36 10 11]
def lv:LSO:=[Aj 6]
def lu:LSO:=[Af 7]
def lr:LSO:=[Aa 13 0,A7 14 13,Ad 15 3 14,Ac 16 1 15,Al 17 16,Ab 18 0]
def lq:LSO:=[Ak 19 18 17]
def lp:LSO:=[An 20 2 16 18,Aw 21 2 20,Cb 9,Ao 2 9 21]
def ln:LSO:=[Aa 22 7,Az 23 22,Aa 24 23,.grp none 24 true
 [Ag 25 24 1,Bl 26 24 0 9,Bd 27 24 1 26,og 28 24 true (.bin .lss (tm 25) (tm 27))]
 29 (tm 28)]
def lm:LSO:=[Aa 30 6,Aa 31 1,Aa 32 2,Ai 33 86 32,o1 34 (.build [(.int .i64 0),(.sl [] 0 (some 0))] [(0,(1,(tm 31))),(1,(1,(tm 33)))]),BJ 35 34,BK 36 30 35,
 Aa 6 36]
def ll:LSO:=[Ay 7]
def lk:LSO:=[Aa 37 6,Aw 38 2 9,BJ 39 38,BK 40 37 39,Aa 6 40]
def jl:LSO:=[Ah 41 18 1,Aa 18 41]
def jk:LSO:=[Aa 42 7,Az 43 42]
def ji:LSO:=[Aa 44 6,Aa 45 1,Aa 46 2,Ai 47 86 46,o1 48 (.build [(.int .i64 0),(.sl [] 0 (some 0))] [(0,(1,(tm 45))),(1,(1,(tm 47)))]),BJ 49 48,BK 50 44 49,
 Aa 6 50]
def jh:LSO:=[Aa 51 0,Aa 52 6,A7 53 51,Ad 54 3 53,Ao 1 54 52]
def gk:br:=⟨55,(.seq (.sreg lw C7)
 (.seq (.sreg lv [])
 (.seq (.sreg lu [])
 (.seq (.seq (.sreg lr CA)
 (.block 0 (.loop (.seq (.sreg lq [])
 (.seq (.cond (tm 19) .skip
 (.exit 0))
 (.seq (.block 1 (.seq (.sreg lp Ce)
 (.seq (.seq (.sreg ln Cf)
 (.cond (tm 29) (.seq (.sreg lm Cm)
 (.sreg ll []))
 .skip))
 (.sreg lk Cg))))
 (.sreg jl Cd)))))))
 (.seq (.seq (.sreg jk Cd)
 (.cond (tm 43) (.sreg ji Cm)
 .skip))
 (.sreg jh Cv)))))),[]⟩
attribute [push_cast] lw lv lu lr lq lp ln lm ll lk jl jk ji jh
theorem CP:bt Tryz.prog (fun _ _=>1) 37=some gk.raw:=by kernel_rfl
def vB:LSO:=[Af 0]
def vA:LSO:=[Bm 4 20,o1 5 (.bslice false 1 1 [(.str [])] [(0,(1,(.av (.str [99,110]))))]),Aq 6 19 4 5,Aa 3 6,Ar 7 3,Au 8 3,Aa 1 7,Aa 2 8]
def vz:LSO:=[Aa 9 2,AC 10 9 0,Aa 11 10,.grp none 11 false
 [Ae 12 11 1,Bw 13 11 12]
 14 (tm 13)]
def vy:LSO:=[Af 0]
def vx:LSO:=[Aa 15 1,o1 16 (.bslice false 1 1 [(.str [])] [(0,(1,(.av (.str [120,97,98,99]))))]),
 o1 17 (.build [(.str []),(.sl [] 0 (some 0))] [(0,(1,(.av (.str [99,110])))),(1,(1,(tm 16)))]),Bu 18 17,Bb 19 21 15 2 18]
def vw:LSO:=[Aa 20 1,o1 21 (.bslice false 1 1 [(.str [])] [(0,(1,(.av (.str [97,98,99,100]))))]),
 o1 22 (.build [(.str []),(.sl [] 0 (some 0))] [(0,(1,(.av (.str [99,110])))),(1,(1,(tm 21)))]),Bu 23 22,Bb 24 21 20 1 23]
def vv:LSO:=[Aa 25 1,o1 26 (.build [(.int .i64 0),(.str [])] [(0,(1,(iv 1))),(1,(1,(.av (.str [65,66,67]))))]),
 o1 27 (.bslice false 2 1 [(.int .i64 0),(.str [])] [(0,(2,(tm 26)))]),o1 28 (.call 13 [(tm 25),(.av (.str [67,78])),(tm 27)]),
 o1 29 (.bslice false 1 2 [(.int .i64 0),(.int .i64 0)] [(0,(1,(iv 1))),(1,(1,(iv 2)))]),Aq 30 22 28 29,Aa 31 30,.grp none 31 true
 [Ag 32 31 1,og 33 31 true (.build [(.int .i64 0),(.str [])] [(0,(1,(iv 1))),(1,(1,(.av (.str [98,99,100]))))]),
 og 34 31 true (.bslice false 2 1 [(.int .i64 0),(.str [])] [(0,(2,(tm 33)))]),og 35 31 true (.call 13 [(tm 32),(.av (.str [99,110])),(tm 34)]),
 og 36 31 true (.bslice false 1 1 [(.int .i64 0)] [(0,(1,(iv 1)))]),BI 37 31 22 35 36]
 38 (tm 37),Aa 0 38]
def nV:br:=⟨39,(.seq (.sreg vB [])
 (.seq (.sreg vA Co)
 (.seq (.seq (.sreg vz Cf)
 (.cond (tm 14) (.seq (.sreg vy [])
 .ret)
 .skip))
 (.seq (.sreg vx Ck)
 (.seq (.sreg vw Ck)
 (.seq (.sreg vv Cr)
 .ret)))))),[(.tmp 0)]⟩
attribute [push_cast] vB vA vz vy vx vw vv
theorem JC:bt Tryz.prog (fun _ _=>1) 9=some nV.raw:=by kernel_rfl
def zo:LSO:=[AD 4,AD 5,Af 6]
def zn:LSO:=[Bm 16 20,Cc 7,Ao 2 7 16]
def zm:LSO:=[Aw 18 2 7,Aa 19 0,Aq 20 19 18 19,Aa 17 20,Ar 21 17,Au 22 17,Aa 8 21,Aa 9 22]
def zl:LSO:=[Aw 24 2 7,Aa 25 0,Aq 26 32 24 25,Aa 23 26,Ar 27 23,Au 28 23,Aa 10 27,Aa 11 28]
def zk:LSO:=[Aa 29 9,Aa 30 11,Bv 31 29 30,Aa 32 31,.grp none 32 false
 [Ae 33 32 8,Bw 34 32 33,Ae 35 32 10,Bw 36 32 35,og 37 32 false (.eqk true .bool (tm 34) (tm 36))]
 38 (tm 37)]
def zj:LSO:=[AD 4,AD 5,Af 6]
def zi:LSO:=[Aa 39 1,Al 40 39,Ab 41 0]
def zh:LSO:=[Ak 42 41 40]
def zg:LSO:=[An 43 2 39 41,Aw 44 2 43,Cb 13,Ao 2 13 44]
def zf:LSO:=[Aa 45 1,Al 46 45,A3 47 46 40,Aa 48 47,.grp none 48 false
 [Be 49 48 1 13,AN 50 48 1 49,AI 51 48 33 50,AP 52 48 51]
 53 (tm 52)]
def vu:LSO:=[AD 4,AD 5,Ay 6]
def vt:LSO:=[Aw 55 2 7,Ad 56 1 13,Ac 57 1 56,Aq 58 34 55 57,Aa 54 58,Ar 59 54,Au 60 54,Aa 14 59,Aa 15 60]
def vr:LSO:=[Aa 61 15,AC 62 61 0,Aa 63 62,.grp none 63 false
 [Ae 64 63 10,Bw 65 63 64]
 66 (tm 65)]
def vq:LSO:=[Ad 67 1 13,Ac 68 1 67,Al 69 68,As 70 69 0]
def vp:LSO:=[Aa 71 8,Ad 72 0 13,Ac 73 1 72,Aq 74 35 71 73]
def vo:LSO:=[Aa 75 10,Ad 76 0 13,Ac 77 1 76,Aq 78 36 75 77]
def vn:LSO:=[Aa 79 8,Ad 80 0 13,Ac 81 1 80,Aa 82 14,Ba 83 21 79 81 82]
def vm:LSO:=[Aa 84 10,Ad 85 0 13,Ac 86 1 85,Aa 87 14,Ba 88 37 84 86 87]
def vl:LSO:=[Ah 89 41 1,Aa 41 89]
def vk:LSO:=[Aa 90 8,Aa 91 10,Aa 4 90,Aa 5 91,Ay 6]
def gm:br:=⟨92,(.seq (.sreg zo [])
 (.seq (.sreg zn Cd)
 (.seq (.sreg zm Co)
 (.seq (.sreg zl Co)
 (.seq (.seq (.sreg zk Cg)
 (.cond (tm 38) (.seq (.sreg zj [])
 .ret)
 .skip))
 (.seq (.seq (.sreg zi [])
 (.block 0 (.loop (.seq (.sreg zh [])
 (.seq (.cond (tm 42) .skip
 (.exit 0))
 (.seq (.block 1 (.seq (.sreg zg Ce)
 (.seq (.seq (.sreg zf Cg)
 (.cond (tm 53) (.seq (.sreg vu [])
 .ret)
 .skip))
 (.seq (.sreg vt C0)
 (.seq (.seq (.sreg vr Cf)
 (.cond (tm 66) (.exit 1)
 .skip))
 (.seq (.sreg vq Cf)
 (.cond (tm 70) (.seq (.sreg vp Cv)
 (.sreg vo Cv))
 (.seq (.sreg vn Ck)
 (.sreg vm Ck)))))))))
 (.sreg vl Cd)))))))
 (.seq (.sreg vk Cy)
 .ret))))))),[(.tmp 4),(.tmp 5),(.tmp 6)]⟩
attribute [push_cast] zo zn zm zl zk zj zi zh zg zf vu vt vr vq vp vo vn vm vl vk
theorem vT:bt Tryz.prog (fun _ _=>1) 10=some gm.raw:=by kernel_rfl
def lG:LSO:=[A5 1 0,Af 2]
def lF:LSO:=[Ad 5 2 1,Ac 6 1 5,Al 7 6,Ab 8 0]
def lE:LSO:=[Ak 9 8 7]
def lD:LSO:=[An 10 2 6 8,Aw 11 2 10,o1 4 (.alloc [(.int .i64 0),(.str [])]),Ao 2 4 11]
def lC:LSO:=[Ad 12 2 1,Ac 13 1 12,Al 14 13,A3 15 14 20,Aa 16 15,.grp none 16 false
 [Be 17 16 1 4,AN 18 16 1 17,Bh 19 16 18,A8 20 16 19 300]
 21 (tm 20)]
def lB:LSO:=[Af 2]
def lA:LSO:=[Ah 22 8 1,Aa 8 22]
def lz:LSO:=[Ad 23 1 1,Ac 24 1 23,Ap 25 24,o1 26 (.bin .leq (tm 25) (iv 5000)),Aa 2 26]
def gn:br:=⟨27,(.seq (.sreg lG [])
 (.seq (.seq (.sreg lF Cu)
 (.block 0 (.loop (.seq (.sreg lE [])
 (.seq (.cond (tm 9) .skip
 (.exit 0))
 (.seq (.block 1 (.seq (.sreg lD Ce)
 (.seq (.sreg lC Ch)
 (.cond (tm 21) (.seq (.sreg lB [])
 .ret)
 .skip))))
 (.sreg lA Cd)))))))
 (.seq (.sreg lz Cg)
 .ret))),[(.tmp 2)]⟩
attribute [push_cast] lG lF lE lD lC lB lA lz
theorem CX:bt Tryz.prog (fun _ _=>1) 8=some gn.raw:=by kernel_rfl
def jH:LSO:=[A5 5 2,Af 6]
def jG:LSO:=[Aa 15 0,Al 16 15,A3 17 16 30,Aa 18 17,.grp none 18 false
 [og 19 18 false (.load true 3 (tm 5)),AI 20 18 8 19,AP 21 18 20]
 22 (tm 21)]
def jF:LSO:=[Bm 23 9,Aa 6 23]
def jE:LSO:=[Aa 25 0,Aa 26 1,Aq 27 10 25 26,Aa 24 27,Ar 28 24,Au 29 24,Bc 30 24,Aa 7 28,Aa 8 29,Aa 9 30]
def jD:LSO:=[Aa 31 7,BG 32 31]
def jC:LSO:=[Bm 33 9,Aa 6 33]
def jB:LSO:=[Bm 35 20,Aa 36 0,Aq 37 19 35 36,Aa 34 37,Ar 38 34,Au 39 34,Aa 10 38,Aa 11 39]
def jA:LSO:=[Aa 40 11,AC 41 40 0,Aa 42 41,.grp none 42 false
 [Ae 43 42 10,Bw 44 42 43]
 45 (tm 44)]
def jz:LSO:=[Af 6]
def jy:LSO:=[Aa 46 8,A7 47 46,Ad 48 3 47,Ac 49 1 48,Al 50 49,AO 51 50 1,Aa 12 51]
def gV:LSO:=[Aa 52 12,AY 53 52 0]
def gU:List (ai×Kd) :=
 [A4 56 10,A4 57 8,A9 58 57 0 0,A0 59 3 58,Ax 60 1 59 0 0,A4 61 12,od 62 (.iaddr 2 (tm 60) (tm 61)) (.read 0 0),A0 63 0 62,Ax 64 1 63 0 0,A4 65 8,A9 66 65 0 0,A0 67 3 66,
 Ax 68 1 67 0 0,A4 69 12,od 70 (.iaddr 2 (tm 68) (tm 69)) (.read 0 0),A0 71 1 70,Ax 72 1 71 0 0]
def fU:List ai :=
 [⟨(some 73),(.call 21 [(tm 56),(tm 64),(tm 72)]),none⟩]
def gT:LSO:=[Aa 54 12,AO 55 54 1,Aa 12 55]
def gS:LSO:=[Aa 74 0,Al 75 74,Ab 76 0]
def gR:LSO:=[Ak 77 76 75]
def gQ:LSO:=[An 78 1 74 76,Ac 79 1 78,Aa 14 79]
def gP:LSO:=[Aa 80 7,Aa 81 14,Aq 82 14 80 81,Aa 83 10,Aa 84 14,Aq 85 14 83 84,Aq 86 22 82 85,Az 87 86,Aa 88 87,.grp none 88 false
 [Ae 89 88 7,Ae 90 88 14,Be 91 88 1 5,AN 92 88 1 91,BL 93 88 18 89 90 92,Ae 94 88 10,Ae 95 88 14,Be 96 88 1 5,AN 97 88 1 96,BL 98 88 18 94 95 97,
 og 99 88 false (.call 22 [(tm 93),(tm 98)]),AP 100 88 99]
 101 (tm 100),Aa 102 101,.grp none 102 false
 [Ae 103 102 7,Ae 104 102 14,Be 105 102 2 5,AN 106 102 1 105,BL 107 102 13 103 104 106,Ae 108 102 10,Ae 109 102 14,Be 110 102 2 5,AN 111 102 1 110,BL 112 102 13 108 109 111,
 og 113 102 false (.call 22 [(tm 107),(tm 112)]),AP 114 102 113]
 115 (tm 114)]
def gO:LSO:=[Af 6]
def gN:LSO:=[Ah 116 76 1,Aa 76 116]
def gM:LSO:=[Bm 117 9,Aa 118 117,.grp none 118 true
 [Ag 119 118 7,AF 120 118 23 119,Ag 121 118 10,AF 122 118 23 121,BI 123 118 22 120 122]
 124 (tm 123),Aa 6 124]
def cr:br:=⟨125,(.seq (.sreg jH [])
 (.seq (.seq (.sreg jG Cg)
 (.cond (tm 22) (.seq (.sreg jF Cd)
 .ret)
 .skip))
 (.seq (.sreg jE [false,true,true,false,false,false,false,false,false,false])
 (.seq (.seq (.sreg jD Cd)
 (.cond (tm 32) (.seq (.sreg jC Cd)
 .ret)
 .skip))
 (.seq (.sreg jB Co)
 (.seq (.seq (.sreg jA Cf)
 (.cond (tm 45) (.seq (.sreg jz [])
 .ret)
 .skip))
 (.seq (.seq (.sreg jy Ci)
 (.block 0 (.loop (.seq (.seq (.sreg gV Cd)
 (.cond (tm 53) .skip
 (.exit 0)))
 (.seq (.block 1 (.dregM gU fU [false,false,false,false,false,false,false,false,false,false,false,false,false,false,false,false,false,false]))
 (.sreg gT Ce))))))
 (.seq (.seq (.sreg gS [])
 (.block 2 (.loop (.seq (.sreg gR [])
 (.seq (.cond (tm 77) .skip
 (.exit 2))
 (.seq (.block 3 (.seq (.sreg gQ Ce)
 (.seq (.sdreg gP [.pure,.pure,(.read 0 0),.pure,.pure,(.read 0 0),(.read 0 0),.pure,.pure,.pure,.pure,.pure,(.read 0 0),(.read 0 0),.pure,.pure,.pure,(.read 0 0),(.read 0 0),(.read 0 0),.pure,.pure,.pure,.pure,.pure,.pure,(.read 0 0),(.read 0 0),.pure,.pure,.pure,(.read 0 0)] Ct)
 (.cond (tm 115) (.seq (.sreg gO [])
 .ret)
 .skip))))
 (.sreg gN Cd)))))))
 (.seq (.sreg gM Cf)
 .ret))))))))),[(.tmp 6)]⟩
attribute [push_cast] jH jG jF jE jD jC jB jA jz jy gV gU fU gT gS gR gQ gP gO gN gM
theorem eC:bt Tryz.prog (fun _ _=>1) 4=some cr.raw:=by kernel_rfl
attribute [push_cast] CO fw gk nV gm gn cr
end Go.Proofs.YtcmfcpjnhephaaaGreatDoor.Av
set_option maxRecDepth 100000
namespace Go.Proofs.YtcmfcpjnhephaaaGreatDoor.Av
open Go
def sM:LSO:=[Aj 6]
def sL:LSO:=[Aa 9 2,Al 10 9,Ab 11 0]
def sK:LSO:=[Ak 12 11 10]
def sJ:LSO:=[An 13 1 9 11,Ac 14 1 13,Aa 8 14]
def sI:LSO:=[Aa 15 0,Aa 16 8,Aa 17 1,o1 18 (.build [(.str []),(.int .i64 0),(.bool false),(.bool false)] [(0,(1,(tm 16))),(1,(1,(tm 17)))]),BM 19 18,BN 20 15 19,
 Aa 0 20]
def sH:LSO:=[Ah 21 11 1,Aa 11 21]
def sG:LSO:=[Aa 22 0,Aa 6 22]
def nN:br:=⟨23,(.seq (.sreg sM [])
 (.seq (.seq (.sreg sL [])
 (.block 0 (.loop (.seq (.sreg sK [])
 (.seq (.cond (tm 12) .skip
 (.exit 0))
 (.seq (.block 1 (.seq (.sreg sJ Ce)
 (.sreg sI Ci)))
 (.sreg sH Cd)))))))
 (.seq (.sreg sG Cd)
 .ret))),[(.tmp 6)]⟩
attribute [push_cast] sM sL sK sJ sI sH sG
theorem Ju:bt Tryz.prog (fun _ _=>1) 50=some nN.raw:=by kernel_rfl
def xq:LSO:=[Cc 0]
def xp:LSO:=[Cc 1]
def xm:LSO:=[Ad 5 0 1,Ac 6 1 5,o1 7 (.bslice false 1 1 [(.str [])] [(0,(1,(.av (.str [111,98,106,101,99,116,67,108,97,115,115]))))]),Bb 8 50 6 3 7,Ad 9 0 1,Ao 1 9 8]
def xl:LSO:=[Ad 10 0 1,Ac 11 1 10,
 o1 12 (.bslice false 1 4 [(.str []),(.str []),(.str []),(.str [])] [(0,(1,(.av (.str [99,110])))),(1,(1,(.av (.str [115,110])))),(2,(1,(.av (.str [111,117])))),(3,(1,(.av (.str [111]))))]),
 Bb 13 50 11 1 12,Ad 14 0 1,Ao 1 14 13]
def xk:LSO:=[Ad 15 0 1,Ac 16 1 15,
 o1 17 (.bslice false 1 3 [(.str []),(.str []),(.str [])] [(0,(1,(.av (.str [100,99])))),(1,(1,(.av (.str [117,105,100])))),(2,(1,(.av (.str [109,97,105,108]))))]),
 Bb 18 50 16 3 17,Ad 19 0 1,Ao 1 19 18]
def xj:LSO:=[Ad 20 0 1,Ac 21 1 20,Bx 22,Bb 23 50 21 1 22,Ad 24 0 1,Ao 1 24 23]
def xi:LSO:=[Ad 25 0 1,Ac 26 1 25,o1 27 (.bslice false 1 1 [(.str [])] [(0,(1,(.av (.str [109,101,109,98,101,114]))))]),Bb 28 50 26 6 27,Ad 29 0 1,Ao 1 29 28]
def xh:LSO:=[Ad 30 0 1,Ac 31 1 30,o1 32 (.bslice false 1 1 [(.str [])] [(0,(1,(.av (.str [117,115,101,114,80,97,115,115,119,111,114,100]))))]),Bb 33 50 31 7 32,
 Ad 34 0 1,Ao 1 34 33]
def xg:LSO:=[Ad 35 0 1,Ac 36 1 35,
 o1 37 (.build [(.str []),(.int .i64 0),(.bool false),(.bool false)] [(0,(1,(.av (.str [101,109,112,108,111,121,101,101,78,117,109,98,101,114])))),(1,(1,(iv 4))),(2,(1,(.av (.bool true))))]),
 BM 38 37,BN 39 36 38,Ad 40 0 1,Ao 1 40 39]
def xf:LSO:=[Ad 41 0 1,Ac 42 1 41,
 o1 43 (.build [(.str []),(.int .i64 0),(.bool false),(.bool false)] [(0,(1,(.av (.str [97,99,116,105,118,101])))),(1,(1,(iv 5))),(2,(1,(.av (.bool true))))]),BM 44 43,
 BN 45 42 44,Ad 46 0 1,Ao 1 46 45]
def tj:LSO:=[o1 47 (.bslice false 1 5 [(.str []),(.str []),(.str []),(.str []),(.str [])] [(0,(1,(.av (.str [99,114,101,97,116,101,100,65,116])))),(1,(1,(.av (.str [99,104,97,110,103,101,100,65,116])))),(2,(1,(.av (.str [112,119,100,70,97,105,108,117,114,101])))),(3,(1,(.av (.str [112,119,100,76,111,99,107,101,100])))),(4,(1,(.av (.str [112,119,100,67,104,97,110,103,101,100]))))]),
 Al 48 47,Ab 49 0]
def ti:LSO:=[Ak 50 49 48]
def th:LSO:=[An 51 1 47 49,Ac 52 1 51,Aa 3 52]
def tf:LSO:=[Aa 53 3,
 o1 54 (.build [(.str []),(.int .i64 0),(.bool false),(.bool false)] [(0,(1,(tm 53))),(1,(1,(iv 4))),(2,(1,(.av (.bool true)))),(3,(1,(.av (.bool true))))]),Bn 4,Ao 4 4 54]
def td:LSO:=[Aa 55 3,o1 56 (.bin .eql (tm 55) (.av (.str [112,119,100,70,97,105,108,117,114,101])))]
def ta:LSO:=[Ad 57 1 4,o0 (.store 1 (tm 57) (iv 3))]
def sZ:LSO:=[Ad 58 2 4,o0 (.store 1 (tm 58) (.av (.bool false)))]
def sY:LSO:=[Ad 59 0 1,Ac 60 1 59,Aw 61 4 4,BM 62 61,BN 63 60 62,Ad 64 0 1,Ao 1 64 63]
def sX:LSO:=[Ah 65 49 1,Aa 49 65]
def sW:LSO:=[Ad 66 1 1,Ac 67 1 66,o1 68 (.bslice false 1 1 [(.str [])] [(0,(1,(.av (.str [111,98,106,101,99,116,67,108,97,115,115]))))]),
 o1 69 (.bslice false 1 5 [(.str []),(.str []),(.str []),(.str []),(.str [])] [(0,(1,(.av (.str [99,114,101,97,116,101,100,65,116])))),(1,(1,(.av (.str [99,104,97,110,103,101,100,65,116])))),(2,(1,(.av (.str [112,119,100,70,97,105,108,117,114,101])))),(3,(1,(.av (.str [112,119,100,76,111,99,107,101,100])))),(4,(1,(.av (.str [112,119,100,67,104,97,110,103,101,100]))))]),
 o1 70 (.build [(.str []),(.str []),(.int .i64 0),(.sl [] 0 (some 0)),(.sl [] 0 (some 0))] [(0,(1,(.av (.str [116,111,112])))),(3,(1,(tm 68))),(4,(1,(tm 69)))]),AU 71 70,
 AX 72 67 71,Ad 73 1 1,Ao 1 73 72]
def sV:LSO:=[Ad 74 1 1,Ac 75 1 74,o1 76 (.bslice false 1 1 [(.str [])] [(0,(1,(.av (.str [100,99]))))]),Bx 77,
 o1 78 (.build [(.str []),(.str []),(.int .i64 0),(.sl [] 0 (some 0)),(.sl [] 0 (some 0))] [(0,(1,(.av (.str [100,111,109,97,105,110])))),(1,(1,(.av (.str [116,111,112])))),(2,(1,(iv 1))),(3,(1,(tm 76))),(4,(1,(tm 77)))]),
 AU 79 78,AX 80 75 79,Ad 81 1 1,Ao 1 81 80]
def sU:LSO:=[Ad 82 1 1,Ac 83 1 82,o1 84 (.bslice false 1 1 [(.str [])] [(0,(1,(.av (.str [111]))))]),Bx 85,
 o1 86 (.build [(.str []),(.str []),(.int .i64 0),(.sl [] 0 (some 0)),(.sl [] 0 (some 0))] [(0,(1,(.av (.str [111,114,103,97,110,105,122,97,116,105,111,110])))),(1,(1,(.av (.str [116,111,112])))),(2,(1,(iv 1))),(3,(1,(tm 84))),(4,(1,(tm 85)))]),
 AU 87 86,AX 88 83 87,Ad 89 1 1,Ao 1 89 88]
def sT:LSO:=[Ad 90 1 1,Ac 91 1 90,o1 92 (.bslice false 1 1 [(.str [])] [(0,(1,(.av (.str [111,117]))))]),Bx 93,
 o1 94 (.build [(.str []),(.str []),(.int .i64 0),(.sl [] 0 (some 0)),(.sl [] 0 (some 0))] [(0,(1,(.av (.str [111,114,103,97,110,105,122,97,116,105,111,110,97,108,85,110,105,116])))),(1,(1,(.av (.str [116,111,112])))),(2,(1,(iv 1))),(3,(1,(tm 92))),(4,(1,(tm 93)))]),
 AU 95 94,AX 96 91 95,Ad 97 1 1,Ao 1 97 96]
def sS:LSO:=[Ad 98 1 1,Ac 99 1 98,o1 100 (.bslice false 1 2 [(.str []),(.str [])] [(0,(1,(.av (.str [99,110])))),(1,(1,(.av (.str [115,110]))))]),
 o1 101 (.bslice false 1 2 [(.str []),(.str [])] [(0,(1,(.av (.str [100,101,115,99,114,105,112,116,105,111,110])))),(1,(1,(.av (.str [117,115,101,114,80,97,115,115,119,111,114,100]))))]),
 o1 102 (.build [(.str []),(.str []),(.int .i64 0),(.sl [] 0 (some 0)),(.sl [] 0 (some 0))] [(0,(1,(.av (.str [112,101,114,115,111,110])))),(1,(1,(.av (.str [116,111,112])))),(2,(1,(iv 1))),(3,(1,(tm 100))),(4,(1,(tm 101)))]),
 AU 103 102,AX 104 99 103,Ad 105 1 1,Ao 1 105 104]
def sR:LSO:=[Ad 106 1 1,Ac 107 1 106,
 o1 108 (.bslice false 1 4 [(.str []),(.str []),(.str []),(.str [])] [(0,(1,(.av (.str [117,105,100])))),(1,(1,(.av (.str [109,97,105,108])))),(2,(1,(.av (.str [101,109,112,108,111,121,101,101,78,117,109,98,101,114])))),(3,(1,(.av (.str [97,99,116,105,118,101]))))]),
 o1 109 (.build [(.str []),(.str []),(.int .i64 0),(.sl [] 0 (some 0)),(.sl [] 0 (some 0))] [(0,(1,(.av (.str [105,110,101,116,80,101,114,115,111,110])))),(1,(1,(.av (.str [112,101,114,115,111,110])))),(2,(1,(iv 1))),(4,(1,(tm 108)))]),
 AU 110 109,AX 111 107 110,Ad 112 1 1,Ao 1 112 111]
def sQ:LSO:=[Ad 113 1 1,Ac 114 1 113,o1 115 (.bslice false 1 2 [(.str []),(.str [])] [(0,(1,(.av (.str [99,110])))),(1,(1,(.av (.str [109,101,109,98,101,114]))))]),
 Bx 116,
 o1 117 (.build [(.str []),(.str []),(.int .i64 0),(.sl [] 0 (some 0)),(.sl [] 0 (some 0))] [(0,(1,(.av (.str [103,114,111,117,112])))),(1,(1,(.av (.str [116,111,112])))),(2,(1,(iv 1))),(3,(1,(tm 115))),(4,(1,(tm 116)))]),
 AU 118 117,AX 119 114 118,Ad 120 1 1,Ao 1 120 119]
def sP:LSO:=[Ad 121 1 1,Ac 122 1 121,o1 123 (.bslice false 1 1 [(.str [])] [(0,(1,(.av (.str [117,115,101,114,80,97,115,115,119,111,114,100]))))]),
 o1 124 (.build [(.str []),(.str []),(.int .i64 0),(.sl [] 0 (some 0)),(.sl [] 0 (some 0))] [(0,(1,(.av (.str [115,101,99,117,114,101,100])))),(1,(1,(.av (.str [116,111,112])))),(2,(1,(iv 2))),(3,(1,(tm 123)))]),
 AU 125 124,AX 126 122 125,Ad 127 1 1,Ao 1 127 126]
def sO:LSO:=[Ad 128 1 1,Ac 129 1 128,o1 130 (.bslice false 1 2 [(.str []),(.str [])] [(0,(1,(.av (.str [117,105,100])))),(1,(1,(.av (.str [109,97,105,108]))))]),
 o1 131 (.build [(.str []),(.str []),(.int .i64 0),(.sl [] 0 (some 0)),(.sl [] 0 (some 0))] [(0,(1,(.av (.str [108,97,98,101,108,108,101,100])))),(1,(1,(.av (.str [116,111,112])))),(2,(1,(iv 2))),(4,(1,(tm 130)))]),
 AU 132 131,AX 133 129 132,Ad 134 1 1,Ao 1 134 133]
def sN:LSO:=[Aw 135 2 1,Ao 2 0 135]
def rH:br:=⟨136,(.seq (.sreg xq [])
 (.seq (.sreg xp [])
 (.seq (.sreg xm Ck)
 (.seq (.sreg xl Ck)
 (.seq (.sreg xk Ck)
 (.seq (.sreg xj Ck)
 (.seq (.sreg xi Ck)
 (.seq (.sreg xh Ck)
 (.seq (.sreg xg Cx)
 (.seq (.sreg xf Cx)
 (.seq (.seq (.sreg tj [])
 (.block 0 (.loop (.seq (.sreg ti [])
 (.seq (.cond (tm 50) .skip
 (.exit 0))
 (.seq (.block 1 (.seq (.sreg th Ce)
 (.seq (.sreg tf Ce)
 (.seq (.seq (.sreg td Cd)
 (.cond (tm 56) (.seq (.sreg ta [false])
 (.sreg sZ [false]))
 .skip))
 (.sreg sY Cx)))))
 (.sreg sX Cd)))))))
 (.seq (.sreg sW Cw)
 (.seq (.sreg sV Cw)
 (.seq (.sreg sU Cw)
 (.seq (.sreg sT Cw)
 (.seq (.sreg sS Cw)
 (.seq (.sreg sR Cp)
 (.seq (.sreg sQ Cw)
 (.seq (.sreg sP Cp)
 (.seq (.sreg sO Cp)
 (.seq (.sreg sN [false])
 .ret))))))))))))))))))))),[(.cell true 2 0)]⟩
attribute [push_cast] xq xp xm xl xk xj xi xh xg xf tj ti th tf td ta sZ sY sX sW sV sU sT sS sR sQ sP sO sN
theorem KG:bt Tryz.prog (fun _ _=>1) 20=some rH.raw:=by kernel_rfl
attribute [push_cast] nN
variable {L:List Blk} {K:Zy}
set_option maxHeartbeats 8000000
set_option maxRecDepth 1000000
abbrev tnC (syn:Int) (nm:List UInt8):List AV:=[.str nm,.int .i64 syn,.bool false,.bool false]
theorem So {α:Type} {L:List α} {p:Nat} {b:α} (h:L[p]?=some b):L.set p b=L:=by
 apply aaZ;intro i;rw [ZX];split
 ·rename_i e;subst e
  rw [h,if_pos (Zz.1 h).1]
 ·rfl
theorem Wz {C:List AV} {n p:Nat} {syn:Int} {names:List (List UInt8)} {cap:Option Nat} (hn:n+names.length<=1100000) (hp:L[p]?=some (.spare n 4))
  (h:K (.gsl (C++names.flatMap (tnC syn)) (n+names.length) p 4) (L.set p (.spare (n+names.length) 4))) :
  Zx 50 [.gsl C n p 4,.int .i64 syn,.sl (names.map AV.str) names.length cap] L K:=by
 have hpl:p<L.length:=(Zz.1 hp).1;have hset:∀ b,(L.set p b)[p]?=some b:=fun b=>by simp [hpl]
 replace h:=hid h;refine Zw Ju ?_;refine ak (fun m T' L'=>∃ (j z:Nat) (D:List AV) (M:List Blk),m=names.length - j/\j<=names.length/\z=n+j/\Hid (D=C++(names.take j).flatMap (tnC syn))/\Hid (M=L.set p (.spare z 4))/\T'=[(11,.int .i64 (j:Int)),(10,.int .i64 names.length),(9,.sl (names.map AV.str) names.length cap),(0,.gsl D z p 4),(1,.int .i64 syn)]/\M=L') (CutS (b:=ZA _)) ⟨0,n,C,L,rfl,ZI _,rfl,hid (by simp),hid (So hp).symm,rfl,rfl⟩ ?_;rintro _ _ _ ⟨j,z,D,M,rfl,hj,hz,hD,hM,rfl,rfl⟩;by_cases hlt:j<names.length
 ·have g1:(j:Int)<(names.length:Int):=by omega
  have g2:=Zv j (by omega);obtain ⟨x,hx⟩:=Zt (names.getD j []);have j3:(names.map AV.str).getD j .undef=.str x:=by rw [<- hx];simp [hlt]
  have htk:names.take (j+1)=names.take j++[x]:=by rw [ZY hlt,<- hx];simp [hlt]
  have hMp:M[p]?=some (.spare z 4):=by rw [hM.out];exact hset _
  have hD2:D++[.str x,.int .i64 syn,.bool false,.bool false]=C++(names.take (j+1)).flatMap (tnC syn):=by rw [hD.out,htk];simp
  have hM2:M.set p (.spare (z+1) 4)=L.set p (.spare (z+1) 4):=by rw [hM.out,ab4]
  have hMl:M.length=L.length:=by rw [hM.out];simp
  replace hD2:=hid hD2;replace hM2:=hid hM2;have hz1:z+1<=1100000:=by omega
  have hz2:z+1=n+(j+1):=by omega
  replace hz2:=hid hz2;clear hx htk hD hM hset hz;refine wk ?_;exact aj _ _ _ (by omega) (CutL (b:=by simp;omega)) ⟨j+1,z+1,_,_,rfl,hlt,hz2.out,hD2,hM2,rfl,rfl⟩
 ·have hke:j=names.length:=by omega
  subst hke;have g1:¬ (names.length:Int)<(names.length:Int):=by omega
  have hD2:=hD.out;have hM2:=hM.out;rw [ZW] at hD2;subst hD2 hz;rw [hM2] at *;clear hD hM hM2;refine wk ?_;exact aa h.out
def aN:List Typ:=[([111,98,106,101,99,116,67,108,97,115,115],3,false,false),([99,110],1,false,false),([115,110],1,false,false),([111,117],1,false,false),([111],1,false,false),([100,99],3,false,false),([117,105,100],3,false,false),([109,97,105,108],3,false,false),([100,101,115,99,114,105,112,116,105,111,110],1,false,false),([109,101,109,98,101,114],6,false,false),([117,115,101,114,80,97,115,115,119,111,114,100],7,false,false),([101,109,112,108,111,121,101,101,78,117,109,98,101,114],4,true,false),([97,99,116,105,118,101],5,true,false),([99,114,101,97,116,101,100,65,116],4,true,true),([99,104,97,110,103,101,100,65,116],4,true,true),([112,119,100,70,97,105,108,117,114,101],3,false,true),([112,119,100,76,111,99,107,101,100],4,true,true),([112,119,100,67,104,97,110,103,101,100],4,true,true)]
def Ma:List AV:=[.str [116,111,112],.str [],.int .i64 0,.sl [.str [111,98,106,101,99,116,67,108,97,115,115]] 1 none,.sl [.str [99,114,101,97,116,101,100,65,116],.str [99,104,97,110,103,101,100,65,116],.str [112,119,100,70,97,105,108,117,114,101],.str [112,119,100,76,111,99,107,101,100],.str [112,119,100,67,104,97,110,103,101,100]] 5 none,.str [100,111,109,97,105,110],.str [116,111,112],.int .i64 1,.sl [.str [100,99]] 1 none,.sl [.str [100,101,115,99,114,105,112,116,105,111,110]] 1 none,.str [111,114,103,97,110,105,122,97,116,105,111,110],.str [116,111,112],.int .i64 1,.sl [.str [111]] 1 none,.sl [.str [100,101,115,99,114,105,112,116,105,111,110]] 1 none,.str [111,114,103,97,110,105,122,97,116,105,111,110,97,108,85,110,105,116],.str [116,111,112],.int .i64 1,.sl [.str [111,117]] 1 none,.sl [.str [100,101,115,99,114,105,112,116,105,111,110]] 1 none,.str [112,101,114,115,111,110],.str [116,111,112],.int .i64 1,.sl [.str [99,110],.str [115,110]] 2 none,.sl [.str [100,101,115,99,114,105,112,116,105,111,110],.str [117,115,101,114,80,97,115,115,119,111,114,100]] 2 none,.str [105,110,101,116,80,101,114,115,111,110],.str [112,101,114,115,111,110],.int .i64 1,.sl [] 0 none,.sl [.str [117,105,100],.str [109,97,105,108],.str [101,109,112,108,111,121,101,101,78,117,109,98,101,114],.str [97,99,116,105,118,101]] 4 none,.str [103,114,111,117,112],.str [116,111,112],.int .i64 1,.sl [.str [99,110],.str [109,101,109,98,101,114]] 2 none,.sl [.str [100,101,115,99,114,105,112,116,105,111,110]] 1 none,.str [115,101,99,117,114,101,100],.str [116,111,112],.int .i64 2,.sl [.str [117,115,101,114,80,97,115,115,119,111,114,100]] 1 none,.sl [] 0 none,.str [108,97,98,101,108,108,101,100],.str [116,111,112],.int .i64 2,.sl [] 0 none,.sl [.str [117,105,100],.str [109,97,105,108]] 2 none]
theorem n8:∀ ts:List Typ,AV.frzL (cy ts)=cy ts
 | []=>rfl
 | ty::ts=>by
   rw [show cy (ty::ts)=tyC ty++cy ts from rfl];simp only [tyC,aaf,aab,AV.frzL,AV.frz,n8 ts]
theorem M7 (p:Nat->Bool):∀ ts:List Typ,AV.refsL p (cy ts)=true
 | []=>rfl
 | ty::ts=>by
   rw [show cy (ty::ts)=tyC ty++cy ts from rfl];simp only [tyC,aaf,aab,AV.refsL,AV.refs,M7 p ts,abl]
theorem Wl {P:Program} {N:Nat} {own:Nat->Nat->Nat} {Q:Exit->Tm->List Blk->Prop} {T:Tm} {lc:bV} {L L':List Blk} (e:L=L') (h:AW P N own lc Q T L'):AW P N own lc Q T L:=e ▸ h
theorem Q7 (h:K (.agg [.sl (cy aN) aN.length none,.sl Ma 9 none]) L):Zx 20 [] L K:=by
 have st:∀ (a:Nat) (syn:Int) (ns:List (List UInt8)) (b:Nat),cy (aN.take a)++ns.flatMap (tnC syn)=cy (aN.take b)->a+ns.length=b->b<=100->∀ K:AV->List Blk->Prop,K (.gsl (cy (aN.take b)) b (L.length+2) 4) (L++[.cells [.sl [] 0 (some 0),.sl [] 0 (some 0)],.cells [.gsl (cy (aN.take a)) a (L.length+2) 4,.gsl [] 0 (L.length+3) 5],.spare b 4,.spare 0 5])->Zx 50 [.gsl (cy (aN.take a)) a (L.length+2) 4,.int .i64 syn,.sl (ns.map AV.str) ns.length (some ns.length)] (L++[.cells [.sl [] 0 (some 0),.sl [] 0 (some 0)],.cells [.gsl (cy (aN.take a)) a (L.length+2) 4,.gsl [] 0 (L.length+3) 5],.spare a 4,.spare 0 5]) K:=fun a syn ns b h1 h2 h3 K q=>by
  refine Wz (by omega) (by simp) ?_;rw [h1,h2,aaz _ _ (by omega),show L.length+2 - L.length=2 by omega];exact q
 have s1:=st 0 3 [[111,98,106,101,99,116,67,108,97,115,115]] 1 rfl rfl (by omega);have s2:=st 1 1 [[99,110],[115,110],[111,117],[111]] 5 rfl rfl (by omega);have s3:=st 5 3 [[100,99],[117,105,100],[109,97,105,108]] 8 rfl rfl (by omega);have s4:=st 8 1 [[100,101,115,99,114,105,112,116,105,111,110]] 9 rfl rfl (by omega);have s5:=st 9 6 [[109,101,109,98,101,114]] 10 rfl rfl (by omega);have s6:=st 10 7 [[117,115,101,114,80,97,115,115,119,111,114,100]] 11 rfl rfl (by omega);clear st;obtain ⟨C1,h1⟩:=Zt (cy (aN.take 1));obtain ⟨C5,h5⟩:=Zt (cy (aN.take 5));obtain ⟨C8,h8⟩:=Zt (cy (aN.take 8));obtain ⟨C9,h9⟩:=Zt (cy (aN.take 9));obtain ⟨C10,h10⟩:=Zt (cy (aN.take 10));obtain ⟨C11,h11⟩:=Zt (cy (aN.take 11));rw [show cy (aN.take 0)=[] from rfl] at s1;rw [h1] at s1 s2;rw [h5] at s2 s3;rw [h8] at s3 s4;rw [h9] at s4 s5;rw [h10] at s5 s6;rw [h11] at s6;simp only [ZK,abr,ZN,aav,aaN,Nat.reduceAdd] at s1 s2 s3 s4 s5 s6;have kk1:=@hid _ (fun {K:Zy}=>s1 K);have kk2:=@hid _ (fun {K:Zy}=>s2 K);have kk3:=@hid _ (fun {K:Zy}=>s3 K);have kk4:=@hid _ (fun {K:Zy}=>s4 K);have kk5:=@hid _ (fun {K:Zy}=>s5 K);have kk6:=@hid _ (fun {K:Zy}=>s6 K);clear s1 s2 s3 s4 s5 s6;clear h1 h5 h8 h9 h10;replace h11:=hid h11;replace h:=hid h;refine ad KG (by simp [rH]) ?_;simp only [rH,aq]
 iterate 6 first
  | refine bb ?_
  | (first|refine aU (by kernel_rfl) ?_|refine aA (by kernel_rfl) ?_|refine aD ?_|refine bS ?_|refine bh (fun _=>?_)|refine ay ?_|refine aW ?_)
    simp (config:={ maxSteps:=2000000 }) only [Kon,push_cast,reduceIte,Nat.reduceEqDiff,Nat.reduceAdd,Nat.reduceMul,Nat.reduceSub,Nat.reduceLT,Nat.reduceLeDiff,Int.reduceLT,Int.reduceLE,Int.reduceAdd,Int.reduceSub,Int.reduceNeg,Int.reduceToNat,Int.reduceEq,reduceCtorEq, *]
  | (first|refine aP (by kernel_rfl) ?_|refine aQ ?_|refine aC ?_|refine aV ?_|refine bq (ax ?_))
    simp only [push_cast,reduceIte,Nat.reduceEqDiff,Nat.reduceAdd,Nat.reduceMul,Nat.reduceSub,Nat.reduceLT,Nat.reduceLeDiff,Int.reduceLT,Int.reduceLE,Int.reduceAdd,Int.reduceSub,Int.reduceNeg,Int.reduceToNat,Int.reduceEq,reduceCtorEq, *]
  | exact bj
  | first|apply bm|apply aR|apply bo|apply aS|apply bp|apply aT
  | refine aG ?_
  | refine aB ?_
  | first|refine aE rfl ?_|refine aF rfl ?_|refine an rfl ?_ ?_|refine aI rfl (fun _=>?_) (fun _=>?_)|refine aH rfl (fun _=>?_) (fun _=>?_)
  | ((first|refine am (fun _=>?_) (fun _=>?_)|refine aw (fun _=>?_) (fun _=>?_))<;>try simp (config:={ maxSteps:=2000000 }) only [Kon,push_cast,reduceIte,Nat.reduceEqDiff,Nat.reduceAdd,Nat.reduceMul,Nat.reduceSub,Nat.reduceLT,Nat.reduceLeDiff,Int.reduceLT,Int.reduceLE,Int.reduceAdd,Int.reduceSub,Int.reduceNeg,Int.reduceToNat,Int.reduceEq,reduceCtorEq, *])
  | refine And.intro trivial ?_
  | refine And.intro (by omega) ?_
  | refine aM rfl (fun _=>?_) (fun _=>?_)
  | refine And.intro ?_ ?_
 refine MI (L.length+1) 0 4 (c:=[.sl [] 0 (some 0),.sl [] 0 (some 0)]) (l:=[]) (n:=0) (by simp) rfl rfl ?_;refine MI (L.length+1) 1 5 (c:=[.gsl [] 0 (L.length+2) 4,.sl [] 0 (some 0)]) (l:=[]) (n:=0) (by simp) rfl rfl ?_;refine Wl (L':=L++[.cells [.sl [] 0 (some 0),.sl [] 0 (some 0)],.cells [.gsl [] 0 (L.length+2) 4,.gsl [] 0 (L.length+3) 5],.spare 0 4,.spare 0 5]) (by simp) ?_;refine wk ?_;refine ak (fun m T' L'=>∃ (j z:Nat) (D:List AV) (X:List Blk),m=5 - j/\j<=5/\Hid (z=13+j)/\Hid (D=cy (aN.take (13+j)))/\T'=[(49,.int .i64 (j:Int)),(48,.int .i64 5),(47,.sl [.str [99,114,101,97,116,101,100,65,116],.str [99,104,97,110,103,101,100,65,116],.str [112,119,100,70,97,105,108,117,114,101],.str [112,119,100,76,111,99,107,101,100],.str [112,119,100,67,104,97,110,103,101,100]] 5 (some 5)),(1,.ptr (L.length+1) 0),(0,.ptr L.length 0)]/\L'=L++(.cells [.sl [] 0 (some 0),.sl [] 0 (some 0)] :: .cells [.gsl D z (L.length+2) 4,.gsl [] 0 (L.length+3) 5] :: .spare z 4 :: .spare 0 5::X)) (CutS (b:=by simp)) ⟨0,13,_,[],rfl,by omega,hid rfl,hid (by rw [<- h11.out];rfl),rfl,rfl⟩ ?_;clear kk1 kk2 kk3 kk4 kk5 kk6 h11;rintro _ _ _ ⟨j,z,D,X,rfl,hj,hz,hD,rfl,rfl⟩;by_cases hlt:j<5
 ·have g1:(j:Int)<5:=by omega
  have g2:=Zv j (by omega);have hz1:z<=20:=by have:=hz.out;omega
  have hz2:z+1=13+(j+1):=by have:=hz.out;omega
  replace hz2:=hid hz2;have hj5:j=0\/j=1\/j=2\/j=3\/j=4:=by omega
  clear hz;rcases hj5 with e|e|e|e|e
  ·have e3:([.str [99,114,101,97,116,101,100,65,116],.str [99,104,97,110,103,101,100,65,116],.str [112,119,100,70,97,105,108,117,114,101],.str [112,119,100,76,111,99,107,101,100],.str [112,119,100,67,104,97,110,103,101,100]]:List AV).getD j .undef=.str [99,114,101,97,116,101,100,65,116]:=by rw [e];rfl
   have hD2:D++[.str [99,114,101,97,116,101,100,65,116],.int .i64 4,.bool true,.bool true]=cy (aN.take (13+(j+1))):=by rw [hD.out,e];rfl
   replace hD2:=hid hD2;replace e:=hid e;clear hD;refine wk ?_;exact aj _ _ _ (by omega) (CutL (b:=by simp)) ⟨j+1,z+1,_,_,rfl,hlt,hz2,hD2,rfl,rfl⟩
  ·have e3:([.str [99,114,101,97,116,101,100,65,116],.str [99,104,97,110,103,101,100,65,116],.str [112,119,100,70,97,105,108,117,114,101],.str [112,119,100,76,111,99,107,101,100],.str [112,119,100,67,104,97,110,103,101,100]]:List AV).getD j .undef=.str [99,104,97,110,103,101,100,65,116]:=by rw [e];rfl
   have hD2:D++[.str [99,104,97,110,103,101,100,65,116],.int .i64 4,.bool true,.bool true]=cy (aN.take (13+(j+1))):=by rw [hD.out,e];rfl
   replace hD2:=hid hD2;replace e:=hid e;clear hD;refine wk ?_;exact aj _ _ _ (by omega) (CutL (b:=by simp)) ⟨j+1,z+1,_,_,rfl,hlt,hz2,hD2,rfl,rfl⟩
  ·have e3:([.str [99,114,101,97,116,101,100,65,116],.str [99,104,97,110,103,101,100,65,116],.str [112,119,100,70,97,105,108,117,114,101],.str [112,119,100,76,111,99,107,101,100],.str [112,119,100,67,104,97,110,103,101,100]]:List AV).getD j .undef=.str [112,119,100,70,97,105,108,117,114,101]:=by rw [e];rfl
   have hD2:D++[.str [112,119,100,70,97,105,108,117,114,101],.int .i64 3,.bool false,.bool true]=cy (aN.take (13+(j+1))):=by rw [hD.out,e];rfl
   replace hD2:=hid hD2;replace e:=hid e;clear hD;refine wk ?_;exact aj _ _ _ (by omega) (CutL (b:=by simp)) ⟨j+1,z+1,_,_,rfl,hlt,hz2,hD2,rfl,rfl⟩
  ·have e3:([.str [99,114,101,97,116,101,100,65,116],.str [99,104,97,110,103,101,100,65,116],.str [112,119,100,70,97,105,108,117,114,101],.str [112,119,100,76,111,99,107,101,100],.str [112,119,100,67,104,97,110,103,101,100]]:List AV).getD j .undef=.str [112,119,100,76,111,99,107,101,100]:=by rw [e];rfl
   have hD2:D++[.str [112,119,100,76,111,99,107,101,100],.int .i64 4,.bool true,.bool true]=cy (aN.take (13+(j+1))):=by rw [hD.out,e];rfl
   replace hD2:=hid hD2;replace e:=hid e;clear hD;refine wk ?_;exact aj _ _ _ (by omega) (CutL (b:=by simp)) ⟨j+1,z+1,_,_,rfl,hlt,hz2,hD2,rfl,rfl⟩
  ·have e3:([.str [99,114,101,97,116,101,100,65,116],.str [99,104,97,110,103,101,100,65,116],.str [112,119,100,70,97,105,108,117,114,101],.str [112,119,100,76,111,99,107,101,100],.str [112,119,100,67,104,97,110,103,101,100]]:List AV).getD j .undef=.str [112,119,100,67,104,97,110,103,101,100]:=by rw [e];rfl
   have hD2:D++[.str [112,119,100,67,104,97,110,103,101,100],.int .i64 4,.bool true,.bool true]=cy (aN.take (13+(j+1))):=by rw [hD.out,e];rfl
   replace hD2:=hid hD2;replace e:=hid e;clear hD;refine wk ?_;exact aj _ _ _ (by omega) (CutL (b:=by simp)) ⟨j+1,z+1,_,_,rfl,hlt,hz2,hD2,rfl,rfl⟩
 ·have g1:¬ (j:Int)<5:=by omega
  have hj5:j=5:=by omega
  have hD2:D=cy aN:=by rw [hD.out,hj5];rfl
  have hz2:z=aN.length:=by rw [hz.out,hj5];rfl
  replace hD2:=hid hD2;replace hz2:=hid hz2;clear hz hD hj5;refine wk ?_;rw [hD2.out,hz2.out];refine bv ?_;simp only [AV.frz,AV.frzL,n8];refine ae ?_ h.out;simp only [AV.refs,AV.refsL,M7,abl]
theorem i6:Y9 aN:=by
 refine ⟨by decide,fun ty h=>?_,fun ty h=>?_⟩
 ·have:aN.all (fun t=>decide (t.1.length<=1000))=true:=by kernel_rfl
  have:=ZJ.1 this ty h;simp only [decide_eq_true_eq] at this;unfold bd;omega
 ·have:aN.all (fun t=>decide (eD aN t.1=some t))=true:=by kernel_rfl
  simpa using ZJ.1 this ty h
end Go.Proofs.YtcmfcpjnhephaaaGreatDoor.Av
