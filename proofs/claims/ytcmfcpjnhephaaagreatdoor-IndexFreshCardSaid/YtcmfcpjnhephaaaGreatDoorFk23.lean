/- Joined texts of the walk, made small by a program. -/
import Derived.Test.YtcmfcpjnhephaaaGreatDoorFk22
import Derived.Test.YtcmfcpjnhephaaaGreatDoorFk20
import Derived.Test.YtcmfcpjnhephaaaGreatDoorFk6
set_option linter.unusedSimpArgs false
set_option linter.unusedVariables false
namespace Go.Proofs.YtcmfcpjnhephaaaGreatDoor.Av
open Go
variable {L:List Blk} {K:Zy}
set_option maxHeartbeats 8000000
set_option maxRecDepth 1000000
def Gg (l:List bf) (j:Nat):List bf:=(l.drop j).reverse.foldl (fun m e=>kU e.1 e.2 m) []
theorem NW (l:List bf):Gg l l.length=[]:=by unfold Gg;rw [aai];rfl
theorem Mv {l:List bf} {j:Nat} (h:j<l.length):Gg l j=kU (l.getD j (0,[])).1 (l.getD j (0,[])).2 (Gg l (j+1)):=by
 unfold Gg;rw [aal h,List.reverse_cons,abo];simp [h]
theorem TC {l:List bf} (h:fp l):Gg l 0=l:=by unfold Gg;rw [abk];exact Pb h
theorem NV {l:List bf} {e:bf}:∀ {j:Nat},j<=l.length->e∈Gg l (l.length - j)->e∈l
 | 0,_,he=>by rw [abV,NW] at he;cases he
 | j+1,h,he=>by
   rw [Mv (by omega),show l.length - (j+1)+1=l.length - j by omega] at he;rcases eH.1 he with rfl|⟨q,_⟩
   ·have hlt:l.length - (j+1)<l.length:=by omega
    have:l.getD (l.length - (j+1)) (0,[])∈l:=by simp [hlt]
    exact this
   ·exact NV (by omega) q
theorem W5 {ns:List (List UInt8)} {acts:List bf} {n v:List UInt8} {ps:List Pc} {cap capA capP:Option Nat} (hns:∀ n∈ns,bd n) (hnl:(ns.length:Int)<=9223372036854775807) (ha:Rj acts) (hq:XM n v ps) (h:∀ L',K (.bool true) L') :
  Zx 4 [.sl (ns.map AV.str) ns.length cap,.sl (cj acts) acts.length capA,.agg [.str n,.str v,.sl (Ky ps) ps.length capP]] L K:=by
 have kk1:Hid (Ctr Tryz.prog 9 [] (.bool true)):=@hid _ (fun {L K} q=>TD q);obtain ⟨sh,hsh⟩:=Zt (Gk v ps);have kk2:Hid (Ctr Tryz.prog 8 [.agg [.str n,.str v,.sl (Ky ps) ps.length capP]] (.bool sh)):=@hid _ (fun {L K} q=>Sn hq.len (by rw [hsh];exact q));replace h:=hid h;by_cases h30:30<ns.length
 ·have g1:(ns.length:Int) > 30:=by omega
  have g2:(30:Int)<(ns.length:Int):=by omega
  refine Zw eC ?_;exact aa (h.out _)
 have g1:¬ (ns.length:Int) > 30:=by omega
 have g2:¬ (30:Int)<(ns.length:Int):=by omega
 cases sh with
 | false =>
   refine Zw eC ?_;exact aa (h.out _)
 | true =>
 obtain ⟨hps,hvl⟩:=Up hsh;have kM:Hid (∀ {L:List Blk} {K:Zy},(∀ L' b,bA (fun _=>False) L L'->K (.tup [.nilptr,.nilptr,.bool b]) L')->(∀ L' it rt tm l B,Hid (zY aN [] ns=(0,tm)/\fa L L' it rt tm l B/\l.length<=40)->K (.tup [.ptr it 0,.ptr rt 0,.bool true]) L')->Zx 10 [.sl (ns.map AV.str) ns.length cap,.sl (cj acts) acts.length capA] L K):=@hid _ (fun {L K} q0 q1=>U9 hns (by omega) ha q0 fun L' it rt tm l B e m hl=>q1 L' it rt tm l B (hid ⟨e,m,hl⟩));obtain ⟨x,hx⟩:=Zt (cy aN);obtain ⟨m,hm⟩:=Zt (aN.length);obtain ⟨y,hy⟩:=Zt (Ma);have kC:Hid (Ctr Tryz.prog 20 [] (.agg [.sl x m none,.sl y 9 none])):=hid fun q=>Q7 (by rw [hx,hm,hy];exact q)
 have kN:∀ tm,zY aN [] ns=(0,tm)->Hid (∀ {L:List Blk} {K:Zy},(∀ L' it B,Hid (IxO L' it tm [] B/\bA (fun _=>False) L L'/\∀ i,B i->L.length<=i)->K (.tup [.ptr it 0,.int .i64 0]) L')->Zx 19 [.agg [.sl x m none,.sl y 9 none],.sl (ns.map AV.str) ns.length cap] L K):=fun tm e=>@hid _ (fun {L K} q=>by
  rw [<- hx,<- hm];exact Ow i6.1 i6.2.1 (by omega) hns e (fun _ e=>absurd rfl e) fun L' it B _ g1 g2 g3=>q L' it B (hid ⟨g1,g2,g3⟩))
 have hat2:=hid (fun k (q:k<ns.length)=>show (ns.map AV.str).getD k .undef=.str (ns.getD k []) by simp [q]);have hnl2:(ns.map AV.str).length=ns.length:=by simp
 obtain ⟨PS,hPS⟩:=Zt (Ky ps);obtain ⟨AS,hAS⟩:=Zt (cj acts);obtain ⟨NS,hNS⟩:=Zt (ns.map AV.str);rw [hPS] at kk2;rw [hPS,hAS,hNS];rw [hAS,hNS] at kM;rw [hNS] at kN hat2 hnl2;replace hsh:=hid hsh;replace hps:=hid hps;replace hns:=hid hns;clear hvl ha h30 hnl hAS hNS hx hm hy;refine Zw eC ?_;refine kM.out (fun L1 b hb=>?_) fun L1 it rt tm l B hM=>?_
 ·clear hb kM kN kC;refine wk ?_;exact aa (h.out _)
 clear kM;have kk3:=@kN tm hM.out.1;clear kN;have hbx:L1[L.length]?=some (.cells [.str n,.str v,.sl PS ps.length capP]):=hM.out.2.1.bes.get (by simp) (fun e=>e);have kk2:=@kC;clear kC;refine wk ?_;intro L2 iy B2 h2;clear kk3;have hri:=hid hM.out.2.1.ix.rise;have hidk:Hid (MG l):=hid ⟨by have:=hM.out.2.2;omega,hM.out.2.1.ids⟩;obtain ⟨k2,hdoc⟩:=hM.out.2.1.doc;simp only [aaf,aab] at hdoc;have hel:=Dw l;have hat:=hid (fun k (q:k<l.length)=>CK q);obtain ⟨ES,hES⟩:=Zt (cj l);rw [hES] at hel hat hdoc;obtain ⟨TS,hTS⟩:=Zt (cy aN);rw [hTS] at hdoc;clear hES hTS;have hdoc2:=h2.out.2.1.get hdoc (fun e=>e);have hll:=hM.out.2.2;have w1:IntKind.i64.wrap ((l.length:Int) - 1)=(l.length:Int) - 1:=ac (by omega) (by omega);refine wk ?_;refine ak (fun m T' L'=>∃ (j:Nat) (By:Nat->Prop),m=l.length - j/\j<=l.length/\Hid (IxO L' iy tm (Gg l (l.length - j)) By/\bA (fun _=>False) L1 L'/\∀ i,By i->L1.length<=i)/\Hid (L2.length<=L'.length)/\T'=[(12,.int .i64 ((l.length:Int) - 1 - (j:Int))),(10,.ptr iy 0),(8,.ptr rt 0),(7,.ptr it 0),(5,.ptr L.length 0),(0,.sl NS ns.length cap)]) (CutL (b:=ZA _)) ⟨0,B2,rfl,ZI _,hid ⟨by rw [abV,NW];exact h2.out.1,h2.out.2.1,h2.out.2.2⟩,hid (ZA _),rfl⟩ ?_;clear h2 hdoc2;rintro _ _ L' ⟨j,By,rfl,hj,hY,hle,rfl⟩;have hd':=hY.out.2.1.get hdoc (fun e=>e);by_cases hjl:j<l.length
 ·obtain ⟨p,hp⟩:∃ p:Nat,p+j+1=l.length:=⟨l.length - (j+1),by omega⟩;have jp:(l.length:Int) - 1 - (j:Int)=(p:Int):=by omega
  have jq:(l.length:Int) - 1 - ((j+1:Nat):Int)=(p:Int) - 1:=by omega
  have hpl:p<l.length:=by omega
  have j1:(p:Int) ≥ 0:=by omega
  have j1':(0:Int)<=(p:Int):=by omega
  have j2:IntKind.i64.wrap ((p:Int) - 1)=(p:Int) - 1:=ac (by omega) (by omega);have j3:(p:Int)<(l.length:Int):=by omega
  have e3:=hat.out p hpl;have e4:p * 2+2<=ES.length:=by rw [hel];omega
  obtain ⟨⟨id,av⟩,he⟩:∃ e,l.getD p (0,[])=e:=⟨_,rfl⟩;have hmem:(id,av)∈l:=by rw [<- he];simp [hpl]
  have hbs:=Mv hpl;rw [he] at e3 hbs;simp only at hbs;have e5:ES.getD (p * 2) .undef=.int .i64 id:=by
   have h3:=congrArg (fun l=>l[0]?) e3;simp only [aas (show 0<2 by omega),aan,aaP] at h3;rw [Z2,h3];rfl
  have e6:ES.getD (p * 2+1) .undef=.sl (be av) av.length none:=by
   have h3:=congrArg (fun l=>l[1]?) e3;simp only [aas (show 1<2 by omega),aan] at h3;rw [Z2,h3];rfl
  have kk2:Hid (∀ {c:Option Nat} {K:Zy},(∀ L3 B3,Hid (IxO L3 iy tm (Gg l (l.length - (j+1))) B3/\bA (fun _=>False) L1 L3/\(∀ i,B3 i->L1.length<=i)/\L'.length<=L3.length)->K (.tup []) L3)->Zx 21 [.ptr iy 0,.int .i64 id,.sl (be av) av.length c] L' K):=@hid _ (fun {c K} q=>by
   obtain ⟨y1,y2,y3⟩:=hY.out;refine Ov y1 ⟨hM.out.2.1.tms.ok,(hM.out.2.1.tms.ixg hM.out.2.1.ents).key,fun e he=>(hM.out.2.1.ents e (NV (by omega) he)).2⟩ (hM.out.2.1.ents _ hmem).2 fun L3 B3 z1 z2 z3=>q L3 B3 (hid ⟨?_,?_,fun i hi=>?_,z2.len⟩)
   ·rw [show l.length - (j+1)=p by omega,hbs,show p+1=l.length - j by omega];exact z1
   ·exact y2.trans z2 fun i hi e=>absurd (y3 i e) (by omega)
   ·rcases z3 i hi with e|e
    ·exact y3 i e
    ·exact Z0 y2.len e)
  rw [jp];clear hbs he hmem e3 hp jp;refine wk ?_;intro L3 B3 h3;have hl3:=hid (Z0 hle.out h3.out.2.2.2);have h4:=hid (show _/\_/\_ from ⟨h3.out.1,h3.out.2.1,h3.out.2.2.1⟩);clear h3;refine wk ?_;exact aj _ _ _ (by omega) (CutL (b:=hl3.out)) ⟨j+1,B3,rfl,hjl,h4,hl3,rfl⟩
 ·have hje:j=l.length:=by omega
  subst hje;have j1:¬ (0:Int)<=(l.length:Int) - 1 - (l.length:Int):=by omega
  have j1':¬ ((l.length:Int) - 1 - (l.length:Int) ≥ 0):=by omega
  obtain ⟨y1,y2,y3⟩:=hY.out;rw [aaY,TC hri.out] at y1;have hx1:=hid (hM.out.2.1.ix.keep y2 (fun _ _ e=>e));have hy1:=hid y1;have hbx2:=y2.get hbx (fun e=>e);clear hat hel hd' hdoc hY y1 y2 y3 hbx hle;refine wk ?_;refine ak (fun m T' L3=>∃ (i:Nat),m=ns.length - i/\i<=ns.length/\L'=L3/\T'=[(76,.int .i64 (i:Int)),(75,.int .i64 ns.length),(74,.sl NS ns.length cap),(10,.ptr iy 0),(7,.ptr it 0),(5,.ptr L.length 0)]) (CutL (b:=ZA _)) ⟨0,rfl,ZI _,rfl,rfl⟩ ?_;clear j1 j1';rintro _ _ L3 ⟨i,rfl,hi,e,rfl⟩;subst e;have kS:∀ r:List Int,r.length<=1000->Hid (Ctr Tryz.prog 22 [.sl (r.map (AV.int .i64)) r.length none,.sl (r.map (AV.int .i64)) r.length none] (.bool true)):=fun r hr=>@hid _ (fun {L K} q=>O5 (xs:=r) (ys:=r) (by omega) (by simpa using q))
  by_cases hil:i<ns.length
  ·have c1:(i:Int)<(ns.length:Int):=by omega
   have c2:=Zv i (by omega);have c3:=hat2.out i hil;have c4:i<NS.length:=by omega
   obtain ⟨t,ht⟩:=Zt (ns.getD i []);have hrt:bd t:=hns.out t (by rw [<- ht];simp [hil]);rw [ht] at c3;have hel2:(Np tm l t).length<=1000/\(Tp tm l t v).length<=1000/\(On tm l t ps).length<=1000:=by
    obtain ⟨u1,u2⟩:=Oa hidk.out (f:=ab t);unfold Np Tp On;cases cH tm (ab t) with
    | none=>simp
    | some ty =>
      simp only;refine ⟨u2,?_,?_⟩
      ·unfold Yr;split
       ·simp
       ·exact (RJ hidk.out).2
      ·unfold MQ;exact Z0 (abt _ _) u2
   have kk2:Hid (∀ {z:Nat} {K:Zy} (q:K (Gm (Np tm l t)) L') (hz:z=it\/z=iy:=by first|exact .inl rfl|exact .inr rfl),Zx 14 [.ptr z 0,.str t] L' K):=by
    refine @hid _ ?_;rintro z K q (rfl|rfl)
    ·exact Pv hx1.out hidk.out hrt q
    ·exact Pv hy1.out hidk.out hrt q
   have kk3:Hid (∀ {z:Nat} {K:Zy} (q:K (Gm (Tp tm l t v)) L') (hz:z=it\/z=iy:=by first|exact .inl rfl|exact .inr rfl),Zx 18 [.ptr z 0,.str t,.str v] L' K):=by
    refine @hid _ ?_;rintro z K q (rfl|rfl)
    ·exact RE hx1.out hidk.out hrt q
    ·exact RE hy1.out hidk.out hrt q
   have kk4:Hid (∀ {z:Nat} {K:Zy} (q:K (Gm (On tm l t ps)) L') (hz:z=it\/z=iy:=by first|exact .inl rfl|exact .inr rfl),Zx 13 [.ptr z 0,.str t,.sl PS ps.length capP] L' K):=by
    refine @hid _ ?_;rw [<- hPS];rintro z K q (rfl|rfl)
    ·exact LJ hx1.out hidk.out hrt hps.out q
    ·exact LJ hy1.out hidk.out hrt hps.out q
   have kk5:=@kS _ hel2.1;have kk6:=@kS _ hel2.2.1;have kk7:=@kS _ hel2.2.2;obtain ⟨R1,hR1⟩:=Zt (Np tm l t);obtain ⟨R2,hR2⟩:=Zt (Tp tm l t v);obtain ⟨R3,hR3⟩:=Zt (On tm l t ps);rw [hR1] at kk2 kk5;rw [hR2] at kk3 kk6;rw [hR3] at kk4 kk7;clear hel2 kS ht hrt hR1 hR2 hR3 hx1 hy1;refine wk ?_;exact aj _ _ _ (by omega) (CutL (b:=ZA _)) ⟨i+1,rfl,hil,rfl,rfl⟩
  ·have hie:i=ns.length:=by omega
   subst hie;have c1:¬ (ns.length:Int)<(ns.length:Int):=by omega
   have kk2:Hid (∀ {z:Nat} {K:Zy} (q:K (Gm (M2 l)) L') (hz:z=it\/z=iy:=by first|exact .inl rfl|exact .inr rfl),Zx 23 [.ptr z 0] L' K):=by
    refine @hid _ ?_;rintro z K q (rfl|rfl)
    ·exact RF hx1.out hidk.out q
    ·exact RF hy1.out hidk.out q
   have kk3:=@kS (M2 l) (by unfold M2;rw [Z9];exact hidk.out.len);obtain ⟨R1,hR1⟩:=Zt (M2 l);rw [hR1] at kk2 kk3;clear kS hR1 hx1 hy1;refine wk ?_;exact aa (h.out _)
open Go Go.ChangeShapes
set_option maxRecDepth 100000
theorem Le:RdZ Tryz.prog 22 (fun l:List (List UInt8)=>[G9 l]) (fun l=>l.length<=maxLen/\∀ v∈l,bd v) :=
 (Do Tryz.underlying22 (Hd Tryz.underlying9) (by kernel_rfl)).map fun l hl=>⟨l,⟨hl.1,fun v hv=>by have:=hl.2 v hv;simp only [reachBytes] at this;unfold bd;omega⟩,by
  have e:∀ l:List (List UInt8),l.map AV.str=l.flatMap fun r=>[AV.str r]:=fun l=>by
   induction l with
   | nil=>rfl
   | cons a l ih=>rw [ZK,aaO,ih];rfl
  simp only [G9,e l]⟩
theorem SD:RdZ Tryz.prog 78 atA (fun a=>bd a.1/\(a.2.length:Int)<=9223372036854775807) :=
 (ri Tryz.underlying78 (N:=2) (by kernel_rfl) (eO (sz:=1) rfl (by kernel_rfl) (Hd Tryz.underlying9) (eO (sz:=1) rfl (by kernel_rfl) Le (He rfl)))).map
  fun y hy=>⟨(y.1,y.2.1),⟨by have:=hy.1;simp only [reachBytes] at this;unfold bd;simp only;omega,by have:=hy.2.1.1;simp only [maxLen] at this ⊢;omega⟩,rfl⟩
theorem SC:RdZ Tryz.prog 46 (fun l=>[.sl (be l) l.length none]) Wj :=
 (Do Tryz.underlying46 SD (by kernel_rfl)).map fun l hl=>⟨l,⟨by have:=hl.1;simp only [maxLen] at this;omega,hl.2⟩,rfl⟩
theorem WT:RdZ Tryz.prog 87 KA (fun e=>Wj e.2/\-9223372036854775808<=e.1/\e.1<=9223372036854775807) :=
 (ri Tryz.underlying87 (N:=2) (by kernel_rfl) (eO (sz:=1) rfl (by kernel_rfl) (Rd.z (UG Tryz.underlying3)) (eO (sz:=1) rfl (by kernel_rfl) SC (He rfl)))).map
  fun y hy=>⟨(y.1,y.2.1),⟨hy.2.1,by have:=hy.1;simp only [IntKind.min,IntKind.max,IntKind.bits,IntKind.signed] at this;simpa using this⟩,rfl⟩
theorem UD:RdZ Tryz.prog 23 (fun l=>[.sl (cj l) l.length none]) Rj :=
 (Do Tryz.underlying23 WT (by kernel_rfl)).map fun l hl=>⟨l,⟨by have:=hl.1;simp only [maxLen] at this;omega,fun e he=>(hl.2 e he).1,fun e he=>(hl.2 e he).2⟩,rfl⟩
theorem X5:RdZ Tryz.prog 83 pcA (fun p=>(p.2.length:Int)<=140737488351232) :=
 (ri Tryz.underlying83 (N:=2) (by kernel_rfl) (eO (sz:=1) rfl (by kernel_rfl) (Rd.z (UG Tryz.underlying3)) (eO (sz:=1) rfl (by kernel_rfl) (Hd Tryz.underlying9) (He rfl)))).map
  fun y hy=>⟨(y.1,y.2.1),by have:=hy.2.1;simp only [reachBytes] at this;simp only;omega,rfl⟩
abbrev Zl:=List UInt8×List UInt8×List Pc
abbrev Zq (a:Zl):List AV:=[.str a.1,.str a.2.1,.sl (Ky a.2.2) a.2.2.length none]
theorem SF:RdZ Tryz.prog 26 Zq (fun a=>XM a.1 a.2.1 a.2.2) :=
 (ri Tryz.underlying26 (N:=3) (by kernel_rfl) (eO (sz:=1) rfl (by kernel_rfl) (Hd Tryz.underlying9) (eO (sz:=1) rfl (by kernel_rfl) (Hd Tryz.underlying9) (eO (sz:=1) rfl (by kernel_rfl) (Do Tryz.underlying24 X5 (by kernel_rfl)) (He rfl))))).map
  fun y hy=>⟨(y.1,y.2.1,y.2.2.1),⟨by have:=hy.1;simp only [reachBytes] at this;unfold bd;simp only;omega,by have:=hy.2.2.1.1;simp only [maxLen] at this ⊢;omega⟩,rfl⟩
end Go.Proofs.YtcmfcpjnhephaaaGreatDoor.Av
