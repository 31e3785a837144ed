/- Joined texts of the walk, made small by a program. -/
import Derived.Test.YtobihfefmlgaoaaGreatRk20
import Derived.Test.YtobihfefmlgaoaaGreatRk19
import Derived.Test.YtobihfefmlgaoaaGreatRk17
import Derived.Test.YtobihfefmlgaoaaGreatRk10
import Derived.Test.YtobihfefmlgaoaaGreatRk5
import Derived.Shelf.Strings.Builder1
import Derived.Shelf.Strings.Builder2
import Derived.Shelf.Strings.OnBuilder
import Derived.Shelf.Small.Bits
import Derived.Shelf.Small.Strs
import Derived.Shelf.Strconv.Itoa0
import Derived.Shelf.Strings.Search1
import Derived.Shelf.Strings.Search2
import Derived.Shelf.Strings.Cut
import Derived.Shelf.LaysM
import Derived.Shelf.Strings.Shaped
import Derived.Shelf.Sort.Plain
import Derived.Shelf.Slices.Equal
import Derived.Ground.Names2Prog
import Derived.Shelf.Slices.Clone
import Derived.Shelf.Slices.In.SortNone
import Derived.Shelf.Slices.Empties2
import Derived.Ground.SlsfProg
import Derived.Shelf.SlSortCmp.Insertion
import Derived.Shelf.SlSortCmp.SiftDown1
import Derived.Shelf.SlSortCmp.HeapSort1
import Derived.Shelf.SlSortCmp.Insertion1
import Derived.Shelf.SlSortCmp.Median1
import Derived.Shelf.SlSortCmp.Pivot1
import Derived.Shelf.SlSortCmp.ReverseRange1
import Derived.Shelf.SlSortCmp.PartialInsertion1
import Derived.Shelf.SlSortCmp.PartitionEqual1
import Derived.Shelf.SlSortCmp.Partition1
import Derived.Shelf.SlSortCmp.Pdq1
import Derived.Shelf.SlSortCmp.Whole1
import Derived.Shelf.SlSortCmp.NoneTotal
import Derived.Test.YtobihfefmlgaoaaGreatProg
import Derived.WalkKit
import Derived.WalkLawsBesides
import Derived.Deep.QuietTactic
import Derived.Deep.LoopGhost
import Derived.BigQuiet
import Derived.Lib.Walk
import Derived.Test.YtobihfefmlgaoaaGreatRk4
import Derived.Test.YtobihfefmlgaoaaGreatRows
import Derived.KernelRfl
set_option linter.unusedSimpArgs false
set_option linter.unusedVariables false
namespace Go.Proofs.YtobihfefmlgaoaaGreat.Av
open Go
variable {L:List Blk} {K:afC}
set_option maxHeartbeats 8000000
set_option maxRecDepth 100000
theorem OU {a:List Rdn} {k:Nat} (h:k<a.length):(NK a).reverse.drop k=cn true (a.getD (a.length - (k+1)) [])::(NK a).reverse.drop (k+1):=by
 rw [ah2 (by rw [aim,be];exact h)]
 congr 1
 rw [akt];simp only [NK,List.getElem_map,ahF]
 congr 1
 rw [ahE,ahB (by omega)];simp only [ah9]
 congr 1;omega
theorem acP (x y:List UInt8) (a b:Pth):pLt (x::a) (y::b)=if x=y then pLt a b else decide (x<y):=by
 unfold pLt;rw [cpP];rcases qq x y with ⟨c,e⟩|⟨c,e⟩|⟨c,e⟩
 ·have hne:¬ x=y:=fun e2=>WK y (by rw [e2] at c;exact c)
  rw [e];simp [hne,c]
 ·rw [e,if_pos c];simp
 ·have hne:¬ x=y:=fun e2=>WK y (by rw [e2] at c;exact c)
  rw [e];simp [hne,aag c]
theorem ae5 {a b:List Rdn} {ca cb:Option Nat} (ha:OkD a) (hb:OkD b) (h:K (.bool (pLt (NK a).reverse (NK b).reverse)) L) :
  afB 109 [.sl (a.map aw) a.length ca,.sl (b.map aw) b.length cb] L K:=by
 have hal:=ha.len;have hbl:=hb.len;have kN:Hid (∀ {z:List Rdn} {p:Nat} {c:Option Nat} (hz:OkD z) (hp:p<z.length) {L:List Blk} {K:afC},K (.tup [.str (cn true (z.getD p [])),.int .i64 0]) L->afB 86 [.sl (List.take 1 (List.drop p (z.map aw))) 1 c] L K):=@hid _ (by
  intro z p c hz hp L K q;have hm:z.getD p []∈z:=by simp [hp]
  have ho:=hz.one hm;have e:List.take 1 (List.drop p (z.map aw))=[z.getD p []].map aw:=by
   rw [<- List.map_drop,ah2 hp,show z.getD p []=z[p] by simp [hp]];rfl
  rw [e];refine OT (d:=[z.getD p []]) ho.m.1 ho.m.2 ?_;rw [gg ho,show aQ true [z.getD p []]=cn true (z.getD p []) from by simp [aQ,Lib.join]];exact q)
 obtain ⟨R,hR⟩:=aaR (pLt (NK a).reverse (NK b).reverse);rw [hR] at h;replace h:=hid h;replace hR:=hid hR;replace ha:=hid ha;replace hb:=hid hb;refine acg Q6 ?_;refine ah (fun m T' L'=>∃ (k:Nat) (x:Int),m=a.length - k/\k<=a.length/\k<=b.length/\Hid (pLt ((NK a).reverse.drop k) ((NK b).reverse.drop k)=R)/\x=(k:Int)+1/\T'=[(5,.int .i64 x),(0,.sl (a.map aw) a.length ca),(1,.sl (b.map aw) b.length cb)]/\L=L') (CutS (b:=ahn _)) ⟨0,1,rfl,ahp _,ahp _,hid hR.out,rfl,rfl,rfl⟩ ?_;rintro _ _ L' ⟨k,x,rfl,hk,hkb,hI,hx,rfl,e⟩;subst e;clear hR;have hI2:=hI.out;by_cases hlt:k<a.length/\k<b.length
 ·obtain ⟨l1,l2⟩:=hlt;obtain ⟨p,hp⟩:=aaR (a.length - (k+1));obtain ⟨q,hq⟩:=aaR (b.length - (k+1));rw [OU l1,OU l2,hp,hq,acP] at hI2;have g1:x<=(a.length:Int):=by omega
  have g2:x<=(b.length:Int):=by omega
  have w1:IntKind.i64.wrap ((a.length:Int) - x)=(p:Int):=by rw [ac (by omega) (by omega)];omega
  have w2:IntKind.i64.wrap ((b.length:Int) - x)=(q:Int):=by rw [ac (by omega) (by omega)];omega
  have w3:=ace p (by omega);have w4:=ace q (by omega);have w5:IntKind.i64.wrap (x+1)=x+1:=ac (by omega) (by omega);have t1:((p:Int)+1).toNat=p+1:=by omega
  have t2:((q:Int)+1).toNat=q+1:=by omega
  have t5:p+1 - p=1:=by omega
  have t6:q+1 - q=1:=by omega
  have t3:(p:Int)+1<=(a.length:Int):=by omega
  have t4:(q:Int)+1<=(b.length:Int):=by omega
  have kk1:Hid (∀ {c:Option Nat} {L:List Blk} {K:afC},K (.tup [.str (cn true (a.getD p [])),.int .i64 0]) L->afB 86 [.sl (List.take 1 (List.drop p (a.map aw))) 1 c] L K):=@hid _ (by intro c L K u;exact kN.out ha.out (by omega) u);have kk2:Hid (∀ {c:Option Nat} {L:List Blk} {K:afC},K (.tup [.str (cn true (b.getD q [])),.int .i64 0]) L->afB 86 [.sl (List.take 1 (List.drop q (b.map aw))) 1 c] L K):=@hid _ (by intro c L K u;exact kN.out hb.out (by omega) u);obtain ⟨s,hs⟩:=aaR (cn true (a.getD p []));obtain ⟨t,ht⟩:=aaR (cn true (b.getD q []));rw [hs] at kk1 hI2;rw [ht] at kk2 hI2;by_cases hst:s=t
  ·rw [if_pos hst] at hI2;subst hst;have hx2:x+1=((k+1:Nat):Int)+1:=by omega
   replace hI2:=hid hI2;replace hx2:=hid hx2;have hm:a.length - (k+1)<a.length - k:=by omega
   replace hm:=hid hm;clear hI hs ht hp hq hx kN;refine wk ?_;exact aq _ _ _ hm.out (CutL (b:=by simp)) ⟨k+1,_,rfl,l1,l2,hid hI2.out,hx2.out,rfl,rfl⟩
  ·rw [if_neg hst] at hI2;have h':=h.out;rw [<- hI2,<- bytesLess_eq] at h';replace h':=hid h';clear hI hs ht hp hq hx kN hI2;refine wk ?_;exact af h'.out
 ·have hfin:R=decide ((a.length:Int)<(b.length:Int)):=by
   rw [<- hI2];by_cases l1:k<a.length
   ·have l2:b.length<=k:=by omega
    rw [OU l1,ai7 (l:=(NK b).reverse) (by rw [aim,be];exact l2)];rw [decide_eq_false (by omega)];rfl
   ·rw [ai7 (l:=(NK a).reverse) (by rw [aim,be];omega)];by_cases l2:k<b.length
    ·rw [OU l2,decide_eq_true (by omega)];rfl
    ·rw [ai7 (l:=(NK b).reverse) (by rw [aim,be];omega),decide_eq_false (by omega)];rfl
  have h':=h.out;rw [hfin] at h';replace h':=hid h';clear hI hI2 hfin;by_cases l1:k<a.length
  ·have g1:x<=(a.length:Int):=by omega
   have g2:¬ x<=(b.length:Int):=by omega
   clear hx hlt hk hkb l1;refine wk ?_;exact af h'.out
  ·have g1:¬ x<=(a.length:Int):=by omega
   clear hx hlt hk hkb l1;refine wk ?_;exact af h'.out
theorem abe (l:List aB) (x:aB):QA [] (l++[x])=uw x (QA [] l):=by
 unfold QA;rw [List.foldl_append];rfl
theorem XL (l:List aB):(QA [] l).length=l.length:=by
 have:=(K8 l []).length_eq;simpa using this
theorem ac6 {l:List aB} {y:aB}:y∈QA [] l↔y∈l:=by
 have:=(K8 l []).mem_iff (a:=y);simpa using this
theorem fQ:∀ l:List aB,AV.frzL (aA l)=aA l
 | []=>rfl
 | x::l=>by
   have ih:=fQ l;unfold aA at ih ⊢;rw [ahY];show AV.frzL (.int .i64 x.id::dnA x.nm::atR x.av::l.flatMap rW)=_
   simp only [AV.frzL,AV.frz,ih];unfold atR;simp only [AV.frz,aO,dp];rfl
theorem La:∀ l:List aB,(aA l).all AV.one=true
 | []=>rfl
 | x::l=>by
   have ih:=La l;unfold aA at ih ⊢;rw [ahY,List.all_append,ih];rfl
theorem Ui (q:Nat->Bool):∀ l:List aB,AV.refsL q (aA l)=true
 | []=>rfl
 | x::l=>by
   have ih:=Ui q l;unfold aA at ih ⊢;rw [ahY];show AV.refsL q (.int .i64 x.id::dnA x.nm::atR x.av::l.flatMap rW)=true
   simp only [AV.refsL,ih];unfold atR;simp only [AV.refs,cQ,ko];rfl
theorem acu {suf:List Rdn} {last:Int} {l:List aB} (ht:TOk suf last l) {id s:Int} {rt:Nat} {c:Option Nat} {a b:AV} (hn:l.length<=1000000) {L:List Blk} (hL:L[rt]?=some (.cells [a,.sl (aA l) l.length c,b])) {K:afC} (h:K (.sl ((scT l id s).map (AV.int .i64)) (scT l id s).length none) L) :
  afB 77 [.ptr rt 0,.int .i64 id,.int .i64 s] L K:=by
 have kk1:Hid (∀ {K:afC},K (.int .i64 (byI l id)) L->afB 58 [.ptr rt 0,.int .i64 id] L K):=@hid _ (by intro K q;exact Wa (by omega) hL q);have hel:=db l;unfold scT at h;rcases Uk l id with ⟨e1,e2⟩|⟨n,hlt,e1,e2⟩
 ·rw [e2] at h;rw [e1] at kk1;replace h:=hid h;clear e1 e2 ht;refine acg d9 ?_;refine ay ?_;rw [show (AV.sl [] 0 (some 0)).frz=.sl (([]:List Int).map (AV.int .i64)) ([]:List Int).length none from rfl];exact af h.out
 ·rw [e2] at h;rw [e1] at kk1;simp only at h;have g0:¬ (n:Int)<0:=by omega
  by_cases hs:s<0\/2<s
  ·rw [if_pos hs] at h;replace h:=hid h;clear e1 e2 ht;by_cases c1:s<0
   ·refine acg d9 ?_;refine ay ?_;rw [show (AV.sl [] 0 (some 0)).frz=.sl (([]:List Int).map (AV.int .i64)) ([]:List Int).length none from rfl];exact af h.out
   ·have c2:2<s:=by omega
    have c3:s > 2:=c2;refine acg d9 ?_;refine ay ?_;rw [show (AV.sl [] 0 (some 0)).frz=.sl (([]:List Int).map (AV.int .i64)) ([]:List Int).length none from rfl];exact af h.out
  ·rw [if_neg hs] at h;have c1:¬ s<0:=by omega
   have c2:¬ 2<s:=by omega
   have c3:¬ s > 2:=c2;have ham:l.getD n default∈l:=by simp [hlt]
   obtain ⟨_,e5,_⟩:=kk hlt;obtain ⟨aaQv,haa⟩:=aaR (l.getD n default);rw [haa] at h e5 ham;rw [<- ht.ins aaQv s] at h;have e4:n * 3+1<(aA l).length:=by rw [hel];omega
   have g1:(n:Int)<(l.length:Int):=by omega
   have hLX:∀ X:List Blk,(L++X)[rt]?=some (.cells [a,.sl (aA l) l.length c,b]):=fun X=>abD hL
   replace h:=hid h;replace ht:=hid ht;clear e1 e2 hs;refine acg d9 ?_;refine ah (fun n' T' L'=>∃ (j:Nat) (m:List aB),n'=l.length - j/\j<=l.length/\Hid (m=QA [] ((l.take j).filter (eK aaQv s)))/\Hid (∃ Z,L'=L++Z)/\T'=[(35,.int .i64 (j:Int)),(34,.int .i64 l.length),(33,.sl (aA l) l.length c),(8,.sl (aA m) m.length none),(7,.int .i64 (n:Int)),(0,.ptr rt 0),(2,.int .i64 s)]) (CutS (b:=ahn _)) ⟨0,[],rfl,ahp _,hid rfl,hid ⟨[],by simp⟩,rfl⟩ ?_;rintro _ _ L1 ⟨j,m,rfl,hj,hm,hZ,rfl⟩;have hLr:∀ X:List Blk,(L1++X)[rt]?=some (.cells [a,.sl (aA l) l.length c,b]):=fun X=>by
    obtain ⟨Z,rfl⟩:=hZ.out;rw [ahz];exact hLX _
   have hL1r:=hLr [];rw [ahO] at hL1r;have hLl:L.length<=L1.length:=by obtain ⟨Z,rfl⟩:=hZ.out;simp
   by_cases hjl:j<l.length
   ·have j1:(j:Int)<(l.length:Int):=by omega
    have j2:=ace j (by omega);have e6:=gQ hjl;have e7:j * 3+3<=(aA l).length:=by rw [hel];omega
    have hym:l.getD j default∈l:=by simp [hjl]
    have htk:l.take (j+1)=l.take j++[l.getD j default]:=by rw [ahK hjl];simp [hjl]
    obtain ⟨x,hx⟩:=aaR (l.getD j default);rw [hx] at e6 hym htk;unfold rW at e6;have hox:=ht.out.ok x hym;have hoa:=ht.out.ok aaQv ham;have w1:IntKind.i64.wrap ((x.nm.length:Int) - (aaQv.nm.length:Int))=(x.nm.length:Int) - (aaQv.nm.length:Int):=by have:=hox.len;have:=hoa.len;exact ac (by omega) (by omega)
    have kk2:Hid (Ctr Tryz.prog 47 [dnA x.nm,dnA aaQv.nm] (.bool (cu x.nm aaQv.nm))):=@hid _ (by intro L K q;exact uR hox.m hoa.m q);have hin:eK aaQv s x=(cu x.nm aaQv.nm && (decide (s=2) || decide ((x.nm.length:Int) - aaQv.nm.length=s))):=rfl;have hget:∀ (b:Blk) (X:List Blk),(L1++b::X)[L1.length]?=some b:=fun b X=>by rw [ahu (ahn _)];simp
    obtain ⟨u,hu⟩:=aaR (cu x.nm aaQv.nm);rw [hu] at kk2 hin;have hml:m.length<=j:=by
     rw [hm.out,XL];exact ahV (ai5 _ _) (by simp;omega)
    have hmok:∀ y∈m,OkD y.nm:=fun y hy=>by
     rw [hm.out,ac6] at hy;exact ht.out.ok y (ajA (ah5.1 hy).1)
    have hmT:eK aaQv s x=true->Hid (uw x m=QA [] ((l.take (j+1)).filter (eK aaQv s))):=fun e=>by
     rw [htk,ajR,show [x].filter (eK aaQv s)=[x] by simp [e],abe,hm.out];exact hid rfl
    have hmF:eK aaQv s x=false->Hid (m=QA [] ((l.take (j+1)).filter (eK aaQv s))):=fun e=>by
     rw [htk,ajR,show [x].filter (eK aaQv s)=[] by simp [e],ahO];exact hid hm.out
    have hZ1:∀ X,Hid (∃ Z,L1++X=L++Z):=fun X=>by
     obtain ⟨Z,rfl⟩:=hZ.out;exact hid ⟨Z++X,by rw [ahz]⟩
    have hcell:dnA x.nm=dnA x.nm:=rfl;obtain ⟨xi,hxi⟩:=aaR (x.id);unfold atR at e6;obtain ⟨xaQv,hxa⟩:=aaR (aU x.av);obtain ⟨xn,hxn⟩:=aaR (x.av.length);rw [hxi,hxa,hxn] at e6;have hent:rW x=[.int .i64 xi,dnA x.nm,.sl xaQv xn none]:=by rw [<- hxi,<- hxa,<- hxn];rfl
    have hcx:(u=false\/(u=true/\s<2/\(x.nm.length:Int) - aaQv.nm.length≠s))\/((u=true/\¬ s<2/\Hid (s=2))\/(u=true/\s<2/\(x.nm.length:Int) - aaQv.nm.length=s)):=by
     cases u with
     | false=>exact .inl (.inl rfl)
     | true =>
       by_cases q1:s=2
       ·exact .inr (.inl ⟨rfl,by omega,hid q1⟩)
       ·by_cases q2:(x.nm.length:Int) - aaQv.nm.length=s
        ·exact .inr (.inr ⟨rfl,by omega,q2⟩)
        ·exact .inl (.inr ⟨rfl,by omega,q2⟩)
    replace hmok:=hid hmok;replace hent:=hid hent;clear hcell hx hxi hxn hm;rcases hcx with (rfl|⟨rfl,d1,d2⟩)|hcx
    ·have hm2:=hmF (by rw [hin];rfl);clear hmT hmF hin htk;refine wk ?_;exact aq _ _ _ (by omega) (CutL (b:=by simp;omega)) ⟨j+1,m,rfl,hjl,hm2,hZ1 _,rfl⟩
    ·have hm2:=hmF (by rw [hin,decide_eq_false d2,decide_eq_false (by omega)];rfl);clear hmT hmF hin htk;refine wk ?_;exact aq _ _ _ (by omega) (CutL (b:=by simp;omega)) ⟨j+1,m,rfl,hjl,hm2,hZ1 _,rfl⟩
    have hut:u=true:=by rcases hcx with h|h<;>exact h.1
    subst hut;have hm2:=hmT (by
     rw [hin];rcases hcx with ⟨_,_,h⟩|⟨_,_,h⟩
     ·rw [decide_eq_true h.out];rfl
     ·rw [decide_eq_true h];simp)
    have kkA:Hid (∀ y∈m,∀ {L:List Blk} {K:afC},K (.bool (pLt (pth x) (pth y))) L->afB 109 [dnA x.nm,dnA y.nm] L K):=@hid _ (by
     intro y hy L K q;exact ae5 hox (hmok.out y hy) q)
    have hik:=Q0 x m m.length (ahn _);have hel2:=db m;obtain ⟨ikQv,hikn⟩:=aaR (Ss x m m.length);have hIL:Hid (aA (uw x m)=aA (m.take ikQv)++([.int .i64 xi,dnA x.nm,.sl xaQv xn none]++aA (m.drop ikQv))):=hid (by
     unfold uw;rw [hikn,ahz,kl,kl]
     congr 2)
    have hILl:Hid ((uw x m).length=m.length+1):=hid (by
     have:=(VF x m).length_eq;simpa using this)
    rw [hikn] at hik;have hik:=hik.1;replace hikn:=hid hikn;have fx1:AV.frzL (x.nm.map aw)=x.nm.map aw:=aO _;have fx2:AV.frzL xaQv=xaQv:=by rw [<- hxa];exact dp _
    have hml2:m.length<=1000000:=by omega
    clear hmT hmF hin htk hu hxa;rcases hcx with ⟨_,d1,_⟩|⟨_,d1,d2⟩
    rotate_left;rw [d2] at w1
    all_goals
     refine wk ?_;refine ah (fun n' T' L'=>∃ k:Nat,n'=k/\k<=m.length/\Hid (Ss x m k=ikQv)/\T'=[(12,.int .i64 (k:Int)),(10,.ptr L1.length 0),(35,.int .i64 (j:Int)),(34,.int .i64 l.length),(33,.sl (aA l) l.length c),(8,.sl (aA m) m.length none),(7,.int .i64 (n:Int)),(0,.ptr rt 0),(2,.int .i64 s)]/\L'=L1++[.cells [.int .i64 xi,dnA x.nm,.sl xaQv xn none]]) (CutS (b:=by simp)) ⟨m.length,rfl,ahn _,hid hikn.out,rfl,rfl⟩ ?_;rintro k _ _ ⟨_,rfl,hk,hI,rfl,rfl⟩;cases k with
     | zero =>
       have hk0:ikQv=0:=hI.out.symm;subst hk0;have fm0:List.take (m.length * 3) (aA m)=aA m:=ah0 (by omega);have fm1:=La m;have fm2:=fQ m;clear hI;have hfr:∀ i,(AV.gsl (.int .i64 xi :: .sl (x.nm.map aw) x.nm.length none :: .sl xaQv xn none::aA m) (1+m.length) i 3).frz=.sl (aA (uw x m)) (uw x m).length none:=fun i=>by
        rw [hILl.out,Nat.add_comm];show AV.sl (AV.frzL _) _ none=_
        rw [show (AV.int .i64 xi :: .sl (x.nm.map aw) x.nm.length none :: .sl xaQv xn none::aA m)=aA (uw x m) from hIL.out.symm,fQ]
       replace hfr:=hid hfr;refine wk ?_;have hfr:=hfr.out;exact aq _ [(35,.int .i64 ((j+1:Nat):Int)),(34,.int .i64 l.length),(33,.sl (aA l) l.length c),(8,.sl (aA (uw x m)) (uw x m).length none),(7,.int .i64 (n:Int)),(0,.ptr rt 0),(2,.int .i64 s)] _ (by omega) (rU (by repeat' first|exact rT|refine eM rfl rfl ?_|refine eM rfl (congrArg (AV.int _) (by omega)) ?_|refine mK rfl (hfr _).symm ?_) (by simp;omega)) ⟨j+1,_,rfl,hjl,hm2,hZ1 _,rfl⟩
     | succ k => 
       have hkm:k<m.length:=hk;have hgk:m[k]?=some m[k]:=ahB hkm;obtain ⟨y,hy⟩:=aaR (m[k]);rw [hy] at hgk;have hyd:m.getD k default=y:=by rw [ahE,hgk];rfl
       have hym2:y∈m:=aiz hgk;obtain ⟨_,e8,_⟩:=kk hkm;rw [hyd] at e8;have e9:k * 3+1<(aA m).length:=by omega
       have kk3:=@hid _ (fun {L:List Blk} {K:afC}=>kkA.out y hym2 (L:=L) (K:=K));have hI2:=hI.out;unfold Ss at hI2;rw [hgk] at hI2;simp only at hI2;have w5Qv:IntKind.i64.wrap (((k+1:Nat):Int) - 1)=(k:Int):=by rw [ac (by omega) (by omega)];omega
       have w6Qv:(0:Int)<((k+1:Nat):Int):=by omega
       have w7Qv:((k+1:Nat):Int) > 0:=w6Qv;have w8Qv:(k:Int)<(m.length:Int):=by omega
       obtain ⟨plQv,hpl⟩:=aaR (pLt (pth x) (pth y));rw [hpl] at hI2 kk3;obtain ⟨kzQv,hkz⟩:∃ kzQv:Int,((k+1:Nat):Int)=kzQv:=⟨_,rfl⟩;cases plQv with
       | true =>
         simp only [if_true] at hI2;rw [hkz] at w5Qv w6Qv w7Qv ⊢;replace hI2:=hid hI2;clear hI hy hgk hyd hym2 hpl;refine wk ?_;exact aq _ _ _ (by omega) (CutL (b:=by simp)) ⟨k,rfl,by omega,hid hI2.out,rfl,rfl⟩
       | false =>
         simp only [ahJ,if_false] at hI2;subst hI2;have ft1:List.take ((k+1) * 3) (aA m)=aA (m.take (k+1)):=Zi m (k+1);have ft2:List.take ((m.length - (k+1)) * 3) (List.drop ((k+1) * 3) (aA m))=aA (m.drop (k+1)):=by
          rw [Uj];exact ah0 (by rw [db,aik];omega)
         have fl1:(aA (m.take (k+1))).length=(k+1) * 3:=by rw [db,ail];congr 1;omega
         have fl2:(aA (m.drop (k+1))).length=(m.length - (k+1)) * 3:=by rw [db,aik]
         have fo1:=La (m.take (k+1));have fo2:=La (m.drop (k+1));have ff1:=fQ (m.take (k+1));have ff2:=fQ (m.drop (k+1));have fkQv:((k+1:Nat):Int)<=(m.length:Int):=by omega
         have fkt:(((k+1:Nat):Int)).toNat=k+1:=by omega
         have fk0:(0:Int)<=((k+1:Nat):Int):=by omega
         obtain ⟨k1,hk1⟩:=aaR (k+1);rw [hk1] at w5Qv w6Qv w7Qv ft1 ft2 fl1 fl2 fo1 fo2 ff1 ff2 fkQv fkt fk0 hk hik ⊢;have hk1h:=hid hk1;clear hI hy hgk hyd hym2 hpl hkz hk1;have hfr:∀ i,(AV.gsl (aA (m.take k1) ++ .int .i64 xi :: .sl (x.nm.map aw) x.nm.length none :: .sl xaQv xn none::aA (m.drop k1)) (k1+1+(m.length - k1)) i 3).frz=.sl (aA (uw x m)) (uw x m).length none:=fun i=>by
          rw [hILl.out,show m.length+1=k1+1+(m.length - k1) by omega];show AV.sl (AV.frzL _) _ none=_
          have hIL2:=hIL.out;rw [hk1h.out] at hIL2;rw [show (aA (m.take k1) ++ .int .i64 xi :: .sl (x.nm.map aw) x.nm.length none :: .sl xaQv xn none::aA (m.drop k1))=aA (uw x m) from hIL2.symm,fQ]
         replace hfr:=hid hfr;refine wk ?_;have hfr:=hfr.out;exact aq _ [(35,.int .i64 ((j+1:Nat):Int)),(34,.int .i64 l.length),(33,.sl (aA l) l.length c),(8,.sl (aA (uw x m)) (uw x m).length none),(7,.int .i64 (n:Int)),(0,.ptr rt 0),(2,.int .i64 s)] _ (by omega) (rU (by repeat' first|exact rT|refine eM rfl rfl ?_|refine eM rfl (congrArg (AV.int _) (by omega)) ?_|refine mK rfl (hfr _).symm ?_) (by simp;omega)) ⟨j+1,_,rfl,hjl,hm2,hZ1 _,rfl⟩
   ·have hje:j=l.length:=by omega
    subst hje;have j1:¬ (l.length:Int)<(l.length:Int):=by omega
    have hm2:=hm.out;rw [ahA] at hm2;rw [<- hm2] at h;have hml:m.length<=l.length:=by
     rw [hm2,XL];exact ai5 _ _
    have hLZ:Hid (∃ Z,L1=L++Z):=hZ;clear hm hm2 hZ;have hel2:=db m;have hLr':=hLr;clear hLr' kk1 e5 e4 haa hL1r;refine wk ?_;refine bi (l:=[]) (n:=0) 14 1 rfl (ahQ 1).symm ?_;refine ah (fun n' T' L'=>∃ (k:Nat) (C:List AV) (X:List Blk),n'=m.length - k/\k<=m.length/\C=((m.take k).map (·.id)).map (AV.int .i64)/\T'=[(108,.int .i64 (k:Int)),(107,.int .i64 m.length),(106,.sl (aA m) m.length none),(14,.gsl C k L1.length 1)]/\L'=L1++(.spare k 1::X)) (CutS (b:=by simp)) ⟨0,[],[],rfl,ahp _,by simp,rfl,rfl⟩ ?_;rintro _ _ _ ⟨k,C,X,rfl,hk,hC,rfl,rfl⟩;have hgX:∀ (b:Blk) (Y:List Blk),(L1 ++ .spare k 1::(X++b::Y))[L1.length+(X.length+1)]?=some b:=fun b Y=>by
     rw [ahu (by omega),show L1.length+(X.length+1) - L1.length=X.length+1 by omega,aii,ahu (ahn _)];simp
    have hsX:∀ (b c:Blk) (Y:List Blk),(L1 ++ .spare k 1::(X++b::Y)).set (L1.length+(X.length+1)) c=L1 ++ .spare k 1::(X++c::Y):=fun b c Y=>by
     rw [ahP _ _ (by omega),show L1.length+(X.length+1) - L1.length=X.length+1 by omega,aiB,ahP _ _ (ahn _)];simp
    by_cases hkl:k<m.length
    ·have g1:(k:Int)<(m.length:Int):=by omega
     have g2:=ace k (by omega);have e6:=gQ hkl;have e7:k * 3+3<=(aA m).length:=by rw [hel2];omega
     have htk:m.take (k+1)=m.take k++[m.getD k default]:=by rw [ahK hkl];simp [hkl]
     obtain ⟨x,hx⟩:=aaR (m.getD k default);rw [hx] at e6 htk;unfold rW atR at e6;obtain ⟨xi,hxi⟩:=aaR (x.id);have hC2:((m.take (k+1)).map (·.id)).map (AV.int .i64)=C++[.int .i64 xi]:=by rw [htk,hC];simp [hxi]
     rw [hxi] at e6;replace hC2:=hid hC2;clear hx htk hC hxi;refine wk ?_;exact aq _ _ _ (by omega) (CutL (b:=by simp)) ⟨k+1,_,_,rfl,hkl,hC2.out.symm,rfl,rfl⟩
    ·have hke:k=m.length:=by omega
     subst hke;have g1:¬ (m.length:Int)<(m.length:Int):=by omega
     rw [ahA] at hC;have hCf:AV.frzL C=C:=by
      rw [hC];clear h hC hgX hsX hel2 hk hkl g1 hml
      induction m with
      | nil=>rfl
      | cons y m ih=>simp only [ahH,AV.frzL,AV.frz,ih]
     have hCr:∀ q:Nat->Bool,AV.refsL q C=true:=fun q=>by
      rw [hC];clear h hC hgX hsX hel2 hk hkl g1 hml hCf
      induction m with
      | nil=>rfl
      | cons y m ih=>simp only [ahH,AV.refsL,AV.refs,ih];rfl
     rw [<- hC,ahF] at h;clear hC;refine wk ?_;refine ay ?_;simp only [AV.frz,hCf];obtain ⟨Z,rfl⟩:=hLZ.out;rw [ahz];exact ab (by simp only [AV.refs,hCr]) h.out
end Go.Proofs.YtobihfefmlgaoaaGreat.Av
namespace Go.Proofs
open Go.Shelf
def Tryz.srtF_ren:Go.Shelf.Ren:=⟨fun|6=>51|15=>89|14=>88|28=>127|29=>128|20=>119|21=>120|22=>121|23=>122|24=>123|25=>124|26=>125|27=>126|46=>146|47=>147|48=>148|49=>149|50=>150|57=>170|n=>n,fun|22=>72|24=>3|25=>109|3=>3|39=>144|0=>0|53=>190|55=>150|4=>4|46=>183|45=>182|50=>187|5=>5|9=>9|66=>213|70=>217|76=>233|77=>64|n=>n,fun|n=>n⟩
theorem Tryz.srtF:Go.Proofs.SlLaysF.n6 Tryz.prog Tryz.srtF_ren:={
 mixed:=by kernel_rfl
 f6:=⟨Tryz.f51.name,by decide,Tryz.func51.trans (congrArg some (by kernel_rfl))⟩
 f14:=⟨Tryz.f88.name,by decide,Tryz.func88.trans (congrArg some (by kernel_rfl))⟩
 f15:=Tryz.func89.trans (congrArg some (by kernel_rfl))
 f20:=⟨Tryz.f119.name,by decide,Tryz.func119.trans (congrArg some (by kernel_rfl))⟩
 f21:=⟨Tryz.f120.name,by decide,Tryz.func120.trans (congrArg some (by kernel_rfl))⟩
 f22:=⟨Tryz.f121.name,by decide,Tryz.func121.trans (congrArg some (by kernel_rfl))⟩
 f23:=⟨Tryz.f122.name,by decide,Tryz.func122.trans (congrArg some (by kernel_rfl))⟩
 f24:=⟨Tryz.f123.name,by decide,Tryz.func123.trans (congrArg some (by kernel_rfl))⟩
 f25:=⟨Tryz.f124.name,by decide,Tryz.func124.trans (congrArg some (by kernel_rfl))⟩
 f26:=⟨Tryz.f125.name,by decide,Tryz.func125.trans (congrArg some (by kernel_rfl))⟩
 f27:=⟨Tryz.f126.name,by decide,Tryz.func126.trans (congrArg some (by kernel_rfl))⟩
 f28:=Tryz.func127.trans (congrArg some (by kernel_rfl))
 f29:=Tryz.func128.trans (congrArg some (by kernel_rfl))
 f46:=⟨Tryz.f146.name,by decide,Tryz.func146.trans (congrArg some (by kernel_rfl))⟩
 f47:=Tryz.func147.trans (congrArg some (by kernel_rfl))
 f48:=Tryz.func148.trans (congrArg some (by kernel_rfl))
 f49:=⟨Tryz.f149.name,by decide,Tryz.func149.trans (congrArg some (by kernel_rfl))⟩
 f50:=⟨Tryz.f150.name,by decide,Tryz.func150.trans (congrArg some (by kernel_rfl))⟩
 f57:=⟨Tryz.f170.name,by decide,Tryz.func170.trans (congrArg some (by kernel_rfl))⟩
 t0:=Tryz.underlying0
 a0:=Tryz.isAgg0
 z0:=Tryz.sizeOf0
 v0:=Tryz.zeroValue0
 t3:=Tryz.underlying3
 a3:=Tryz.isAgg3
 z3:=Tryz.sizeOf3
 v3:=Tryz.zeroValue3
 t4:=Tryz.underlying4
 a4:=Tryz.isAgg4
 z4:=Tryz.sizeOf4
 v4:=Tryz.zeroValue4
 t5:=Tryz.underlying5
 a5:=Tryz.isAgg5
 z5:=Tryz.sizeOf5
 v5:=Tryz.zeroValue5
 t9:=Tryz.underlying9
 a9:=Tryz.isAgg9
 z9:=Tryz.sizeOf9
 v9:=Tryz.zeroValue9
 t22:=Tryz.underlying72
 a22:=Tryz.isAgg72
 z22:=Tryz.sizeOf72
 v22:=Tryz.zeroValue72
 a24:=Tryz.isAgg3
 z24:=Tryz.sizeOf3
 t25:=Tryz.underlying109
 a25:=Tryz.isAgg109
 z25:=Tryz.sizeOf109
 v25:=Tryz.zeroValue109
 t39:=Tryz.underlying144
 a39:=Tryz.isAgg144
 z39:=Tryz.sizeOf144
 v39:=Tryz.zeroValue144
 t45:=Tryz.underlying182
 a45:=Tryz.isAgg182
 z45:=Tryz.sizeOf182
 v45:=Tryz.zeroValue182
 t46:=Tryz.underlying183
 a46:=Tryz.isAgg183
 z46:=Tryz.sizeOf183
 v46:=Tryz.zeroValue183
 t50:=Tryz.underlying187
 a50:=Tryz.isAgg187
 z50:=Tryz.sizeOf187
 v50:=Tryz.zeroValue187
 t53:=Tryz.underlying190
 a53:=Tryz.isAgg190
 z53:=Tryz.sizeOf190
 v53:=Tryz.zeroValue190
 t55:=Tryz.underlying150
 a55:=Tryz.isAgg150
 z55:=Tryz.sizeOf150
 v55:=Tryz.zeroValue150
 t66:=Tryz.underlying213
 a66:=Tryz.isAgg213
 z66:=Tryz.sizeOf213
 v66:=Tryz.zeroValue213
 t70:=Tryz.underlying217
 a70:=Tryz.isAgg217
 z70:=Tryz.sizeOf217
 v70:=Tryz.zeroValue217
 t76:=Tryz.underlying233
 a76:=Tryz.isAgg233
 z76:=Tryz.sizeOf233
 v76:=Tryz.zeroValue233
 t77:=Tryz.underlying64
 a77:=Tryz.isAgg64
 z77:=Tryz.sizeOf64
 v77:=Tryz.zeroValue64 }
end Go.Proofs
namespace Go.Proofs
open Go Go.Lib Go.RowKit Go.Proofs.YtobihfefmlgaoaaGreat.Av
set_option maxHeartbeats 2000000
set_option maxRecDepth 100000
theorem Tryz.isnan_c (a:ByteArray) (w:World):Calls Tryz.prog 129 #[.string a] w fun e w'=>e=.returned (.bool false)/\w'=w:=by
 go_enter Tryz.func129,Tryz.ntmps129
 go_wp2
 go_ret
 exact ⟨by simp,rfl⟩
theorem Tryz.cmps_c (a b:ByteArray) (w:World):Calls Tryz.prog 90 #[.string a,.string b] w fun e w'=>e=.returned (.int .i64 (if Op.bytesLess a.toList b.toList then -1 else if Op.bytesLess b.toList a.toList then 1 else 0))/\w'=w:=by
 have h1:=fun s W=>Tryz.isnan_c s W
 obtain ⟨p,hp⟩:=aaR (Op.bytesLess a.toList b.toList);obtain ⟨q,hq⟩:=aaR (Op.bytesLess b.toList a.toList);rw [hp,hq];have ht:p=false->q=false->a.toList=b.toList:=fun e1 e2=>by
  rw [e1,bytesLess_eq,decide_eq_false_iff_not] at hp;rw [e2,bytesLess_eq,decide_eq_false_iff_not] at hq;exact adw hp hq
 cases p<;>cases q
 all_goals
  go_enter Tryz.func90,Tryz.ntmps90
  go_wp2_with (go_at_call 129;refine (h1 _ _).mono ?_;rintro e w' ⟨rfl,rfl⟩)
 all_goals (go_ret;first|exact ⟨rfl,rfl⟩|(exfalso;simp_all;done))
theorem Tryz.cmpn_c (x:List (List UInt8)) (y:List (List UInt8)) (b1 o1 c b2 o2 d:Nat) (w:World) (hb1:x.length<=1100000) (hb2:y.length<=1100000) (hc1:∀ j,j<x.length->w.cell? ⟨b1,o1+j,none⟩=some (.string ⟨⟨x.getD j []⟩⟩)) (hc2:∀ j,j<y.length->w.cell? ⟨b2,o2+j,none⟩=some (.string ⟨⟨y.getD j []⟩⟩)) :
  Calls Tryz.prog 53 #[.slice (some ⟨b1,o1,none⟩) x.length c,.slice (some ⟨b2,o2,none⟩) y.length d] w fun e w'=>e=.returned (.int .i64 (cpP x y))/\w'=w:=by
 have h1:=fun a b W=>Tryz.cmps_c a b W
 go_enter Tryz.func53,Tryz.ntmps53
 go_wp2
 go_loopg [11] x.length (fun g s11 wr=>∃ k:Nat,k<=x.length/\k<=y.length/\x.length - k<=g/\s11=.int .i64 k/\wr=w/\cpP (x.drop k) (y.drop k)=cpP x y)
 case atStart=>exact ⟨0,ahp _,ahp _,by omega,rfl,rfl,rfl⟩
 case round =>
  obtain ⟨k,hk,hky,hg,rfl,rfl,heq⟩:=hrel;by_cases hlt:k<x.length
  ·have d1:x.drop k=x.getD k []::x.drop (k+1):=by rw [ah2 hlt];simp [hlt]
   have g1:=hc1 k hlt;rw [d1] at heq;obtain ⟨s,hs⟩:=aaR (x.getD k []);rw [hs] at g1 heq;by_cases hly:k<y.length
   ·have d2:y.drop k=y.getD k []::y.drop (k+1):=by rw [ah2 hly];simp [hly]
    have g2:=hc2 k hly;rw [d2] at heq;obtain ⟨t,ht⟩:=aaR (y.getD k []);rw [ht] at g2 heq;have hcon:=h1 ⟨⟨s⟩⟩ ⟨⟨t⟩⟩ wr;rw [cpP] at heq;obtain ⟨z,hz⟩:=aaR (cpS s t);rw [show (if Op.bytesLess (ByteArray.mk ⟨s⟩).toList (ByteArray.mk ⟨t⟩).toList then (-1:Int) else if Op.bytesLess (ByteArray.mk ⟨t⟩).toList (ByteArray.mk ⟨s⟩).toList then 1 else 0)=z from by rw [ajY,ajY,<- hz,bytesLess_eq,bytesLess_eq];simp [cpS]] at hcon;rw [hz] at heq;have A:Aside (cpP x y=if z≠0 then z else cpP (x.drop (k+1)) (y.drop (k+1))):=heq.symm;clear heq hc1 hc2 d1 d2 hs ht hz h1;by_cases hz0:z=0
    ·subst hz0
     go_wp2_with (go_at_call 90;refine hcon.mono ?_;rintro e w' ⟨rfl,rfl⟩)
     go_roundg (x.length - (k+1))
     case measure=>omega
     case rel=>exact ⟨k+1,by omega,by omega,by omega,by go_num,rfl,by have:=A.out;simp only [ne_eq,not_true_eq_false,if_false] at this;exact this.symm⟩
    ·go_wp2_with (go_at_call 90;refine hcon.mono ?_;rintro e w' ⟨rfl,rfl⟩)
     all_goals go_ret
     have:=A.out;rw [if_pos hz0] at this;exact ⟨by rw [this];rfl,rfl⟩
   ·have A:Aside (cpP x y=1):=by
     show cpP x y=1
     rw [ai7 (l:=y) (by omega),cpP] at heq;exact heq.symm
    clear heq hc1 hc2 d1 hs h1
    go_wp2
    go_ret
    exact ⟨by rw [A.out];rfl,rfl⟩
  ·have hkx:k=x.length:=by omega
   have A:Aside (cpP x y=if x.length<y.length then -1 else 0):=by
    show cpP x y=if x.length<y.length then -1 else 0
    rw [ai7 (l:=x) (by omega)] at heq;by_cases hly:k<y.length
    ·rw [ah2 hly,cpP] at heq;rw [if_pos (by omega)];exact heq.symm
    ·rw [ai7 (l:=y) (by omega),cpP] at heq;rw [if_neg (by omega)];exact heq.symm
   subst hkx;clear heq hc1 hc2 h1;by_cases hl:x.length<y.length
   ·go_wp2
    all_goals (go_ret;first|exact ⟨by rw [A.out,if_pos hl];rfl,rfl⟩|(exfalso;omega))
   ·go_wp2
    all_goals (go_ret;first|exact ⟨by rw [A.out,if_neg hl];rfl,rfl⟩|(exfalso;omega))
theorem Tryz.scp_c (x y:List (List UInt8)) (a b:Int) (bb bo vb vo mb na oa pa qa ca nb ob pb qb cb:Nat) (W:World)
  (hb1:x.length<=1100000) (hb2:y.length<=1100000)
  (e1:W.cell? ⟨bb,bo,none⟩=some (.pointer (some ⟨vb,vo,none⟩)))
  (e2:W.cell? ⟨vb,vo+1,none⟩=some (.map (some mb)))
  (e3:∀ n,(Instr.lookup 76 (.map (some mb)) (.int .i64 a) false).run Tryz.prog (W.drewN n)=.ok (.pointer (some ⟨na,oa,none⟩)) (W.drewN n))
  (e4:∀ n,(Instr.lookup 76 (.map (some mb)) (.int .i64 b) false).run Tryz.prog (W.drewN n)=.ok (.pointer (some ⟨nb,ob,none⟩)) (W.drewN n))
  (e5:W.cell? ⟨na,oa+1,none⟩=some (.slice (some ⟨pa,qa,none⟩) x.length ca))
  (e6:W.cell? ⟨nb,ob+1,none⟩=some (.slice (some ⟨pb,qb,none⟩) y.length cb))
  (hc1:∀ j,j<x.length->W.cell? ⟨pa,qa+j,none⟩=some (.string ⟨⟨x.getD j []⟩⟩)) (hc2:∀ j,j<y.length->W.cell? ⟨pb,qb+j,none⟩=some (.string ⟨⟨y.getD j []⟩⟩)) :
  Calls Tryz.prog 52 #[.int .i64 a,.int .i64 b,.pointer (some ⟨bb,bo,none⟩)] W fun e w'=>e=.returned (.int .i64 (cpP x y))/\∃ q,w'=W.drewN q:=by
 have hcon:=fun n=>Tryz.cmpn_c x y pa qa ca pb qb cb (W.drewN n) hb1 hb2 hc1 hc2
 generalize cpP x y=r at hcon ⊢;clear hc1 hc2
 go_enter Tryz.func52,Tryz.ntmps52
 go_wp2
 go_quiet (exact Calls.quiet_of_same (hcon _))
 go_wp2
 go_ret
 exact ⟨rfl,_,rfl⟩
end Go.Proofs
namespace Go.Proofs
open Go.Shelf Go.Sort Go.RowKit
theorem Tryz.sortF {α:Type} [Inhabited α] (enc:α->Value) (h1:OneCell enc) (cf:α->α->Int) (hO:SWO (ltOf cf)) (g:Nat) (cb:Array Value) (blk off cap:Nat) (d:Array α) (w:World)
  (eg:∀ args w,(callFunc g args).run Tryz.prog w=.ok (.enter g args) w) (hcmp:CmpLays1 Tryz.prog g cb enc cf blk off d.size w) (hH:Holds enc w blk off d) (hblk:blk<w.heap.size) (hsz:d.size<4611686018427387904) (hT:∀ x y,(ltOf cf) x y=false->(ltOf cf) y x=false->x=y) :
  Calls Tryz.prog 51 #[.slice (some ⟨blk,off,none⟩) d.size cap,.func (.func g) #[] cb] w fun e w' =>
   e=.returned (.tuple #[])/\∃ n os,w'=sortWorld enc w blk off n (d.toList.mergeSort fun x y => !(ltOf cf) y x).toArray os :=
 Any.slices_SortFunc_total Tryz.srtF enc h1 cf hO g cb blk off cap d w eg hcmp hH hblk hsz hT
theorem Tryz.sortF0 (p:Option Addr) (cap:Nat) (fv:Value) (w:World) :
  Calls Tryz.prog 51 #[.slice p 0 cap,fv] w fun e w'=>e=.returned (.tuple #[])/\w'=w :=
 AnyF.slices_SortFunc_none { Tryz.srtF with } p cap fv w
end Go.Proofs
namespace Go.Proofs.YtobihfefmlgaoaaGreat.Av
open Go Go.Sort Go.RowKit
variable {L:List Blk} {K:afC}
set_option maxHeartbeats 8000000
set_option maxRecDepth 100000
theorem Rel.putG {α:Type} [Inhabited α] {enc:α->Value} {f:α->AV} {w0:World} {S0:SB} {E:Env} {L:List Blk} {w:World} (h:Rel w0 S0 E L w) (hf:∀ x,VR E (f x) (enc x)) {i:Nat} {c0:List AV} {d:List α} {c:Loc} (hi:L[i]?=some (.cells c0)) (hc:E.loc i=some c) (hd:d.length=c0.length) (q:Nat) :
  Rel w0 S0 E (L.set i (.cells (d.map f))) (putRow enc (Sort.ahead w q) c.blk c.off d.toArray):=by
 obtain ⟨c',cs,ty,fr,h1,h2,h3,h4,h5,h6⟩:=h.blk i _ hi;rw [hc] at h1;cases h1;have hlt:c.blk<w.heap.size:=(ah4.1 h2).1;have e1:(putRow enc (Sort.ahead w q) c.blk c.off d.toArray).heap[c.blk]?=some (.cells (putCells enc c.off d.toArray cs) ty fr):=by
  simp [putRow,mapBlock,Sort.ahead,ai8,h2,onCells]
 refine h.turn (k':=.cells (d.map f)) hi rfl hc (by simp) (fun b hb=>?_) rfl rfl rfl ⟨c,_,ty,fr,hc,e1,by simp [putCells,h3],?_,fun j a ha=>?_,h6⟩ (fun _ _ e=>by cases e)
 ·have:c.blk≠b:=fun e=>hb e.symm
  simp [putRow,mapBlock,Sort.ahead,ai8,this]
 ·simp only [ahF,hd];omega
 ·have hj:j<d.length:=by
   have:=(ahm.1 ha).1;simpa using this
  have hcs:c.off+j<cs.size:=by omega
  have ep:(putCells enc c.off d.toArray cs)[c.off+j]?=some (if c.off<=c.off+j/\c.off+j<c.off+d.length then enc (d.toArray[c.off+j - c.off]!) else cs[c.off+j]):=by
   simp [putCells,hcs]
  have ea:a=f d[j]:=by simpa [hj] using ha.symm
  subst ea;refine ⟨_,ep,?_⟩;rw [if_pos (by omega),show c.off+j - c.off=j by omega];have:=hf d[j];simpa [hj] using this
theorem Yy {α:Type} [Inhabited α] {enc:α->Value} {f:α->AV} {w0:World} {S0:SB} {E:Env} {L:List Blk} {w:World} (h:Rel w0 S0 E L w) (hf:∀ x v,VR E (f x) v->v=enc x) {i:Nat} {d:List α} {c:Loc} (hi:L[i]?=some (.cells (d.map f))) (hc:E.loc i=some c) :
  Holds enc w c.blk c.off d.toArray/\c.blk<w.heap.size:=by
 obtain ⟨c',cs,ty,fr,h1,h2,h3,h4,h5,h6⟩:=h.blk i _ hi;rw [hc] at h1;cases h1;refine ⟨fun j hj=>?_,(ah4.1 h2).1⟩;have hj':j<d.length:=by simpa using hj
 obtain ⟨v,g1,g2⟩:=h5 j (f d[j]) (by simp [hj']);have g2:=hf _ _ g2;subst g2;refine ⟨by simp [World.cell?,h2,g1,hj'],?_⟩;have h7:=h6 (c.off+j) (by omega) (by simp only [ahF] at h4;omega);simp only [World.frozen?,h2];obtain ⟨f1,f2⟩:=fr;simp only at h7;simp only [aj9,decide_eq_false_iff_not];omega
theorem ad3 {α:Type} [Inhabited α] {enc:α->Value} {w:World} {blk off n:Nat} {dk:Array α} {os:Array Obj} {b:Nat} (hb:b≠blk) (hlt:b<w.heap.size):(sortWorld enc w blk off n dk os).heap[b]?=w.heap[b]?:=by
 have:blk≠b:=fun e=>hb e.symm
 unfold sortWorld grow;simp only;rw [aj6 (by simpa [putRow,mapBlock,Sort.ahead] using hlt)];simp [putRow,mapBlock,Sort.ahead,ai8,this]
theorem hY {w w':World} {b o:Nat} (h:w'.heap[b]?=w.heap[b]?):w'.cell? ⟨b,o,none⟩=w.cell? ⟨b,o,none⟩:=by
 simp only [World.cell?,h]
theorem Rel.at {w0:World} {S0:SB} {E:Env} {L:List Blk} {w:World} (h:Rel w0 S0 E L w) {i j:Nat} {l:List AV} {a:AV} (hi:L[i]?=some (.cells l)) (hj:l[j]?=some a):∃ c v,E.loc i=some c/\w.cell? ⟨c.blk,c.off+j,none⟩=some v/\VR E a v/\c.blk<w.heap.size:=by
 obtain ⟨c,cs,ty,fr,h1,h2,h3,h4,h5,h6⟩:=h.blk i _ hi;obtain ⟨v,g1,g2⟩:=h5 j a hj;exact ⟨c,v,h1,by simp [World.cell?,h2,g1],g2,(ah4.1 h2).1⟩
theorem WV {E:Env}:∀ (p:Pth) (b o:Nat),VRC E (aF p) b o->∀ j,j<p.length->E.mem b (o+j)=some (.string ⟨⟨p.getD j []⟩⟩)
 | [],_,_,_,j,hj=>absurd hj (aja _)
 | s::p,b,o,h,j,hj=>by
   simp only [ahH,VRC,VR] at h;obtain ⟨⟨x,h1,rfl⟩,h2⟩:=h;cases j with
   | zero=>simpa using h1
   | succ j =>
     have:=WV p b (o+1) h2 j (by simpa using hj);rw [show o+(j+1)=o+1+j by omega,this];simp
section
variable {suf:List Rdn} {last:Int} {l:List aB} {w0:World} {S0:SB} {E:Env} {L:List Blk} {w:World} {iv mn mi:Nat} {nb bn:Int->Nat} {ck ci:Nat} {rs:List TKy}
theorem bu.path (hR:Rel w0 S0 E L w) (hc:bu L iv mn mi nb bn ck ci rs suf last l) {x:aB} (hx:x∈l) (hne:x.nm≠[]) :
  ∃ c pb po ca,E.loc (nb x.id)=some c/\c.blk<w.heap.size/\w.cell? ⟨c.blk,c.off+1,none⟩=some (.slice (some ⟨pb,po,none⟩) (pth x).length ca)/\∀ j,j<(pth x).length->E.mem pb (po+j)=some (.string ⟨⟨(pth x).getD j []⟩⟩):=by
 obtain ⟨c,v,h1,h2,h3,h4⟩:=hR.at (hc.nd x hx) (j:=1) rfl;simp only [VR] at h3;obtain ⟨p,c',rfl,_,_,h5⟩:=h3;have hl:(pth x).length=x.nm.length:=by simp [pth,be]
 rcases h5 with ⟨h0,_⟩|⟨b,o,rfl,h6⟩
 ·exact absurd (ahX.1 h0) hne
 ·exact ⟨c,b,o,c',h1,h4,by rw [hl];exact h2,WV _ _ _ h6⟩
theorem bu.lookup (hR:Rel w0 S0 E L w) (hc:bu L iv mn mi nb bn ck ci rs suf last l) {cm:Loc} (hcm:E.loc mn=some cm) {x:aB} (ht:TOk suf last l) (hx:x∈l) {c:Loc} (hcx:E.loc (nb x.id)=some c) (W:World) (hW:W.heap[cm.blk]?=w.heap[cm.blk]?) :
  (Instr.lookup 76 (.map (some cm.blk)) (.int .i64 x.id) false).run Tryz.prog W=.ok (.pointer (some ⟨c.blk,c.off,none⟩)) W:=by
 obtain ⟨c',rs',h1,h2,h3⟩:=hR.blk mn _ hc.n;rw [hcm] at h1;cases h1;have hd:Tryz.prog.underlying 76=some (.map 3 75):=by kernel_rfl
 have hkd:gi Tryz.prog 3=some .int:=by kernel_rfl
 have hf:bg .int (.int .i64 x.id)=true:=rfl;have hk:VR E (.int .i64 x.id) (.int .i64 x.id):=by simp [VR]
 have hck:∀ e,(Instr.checkKey e 10000 3 (.int .i64 x.id)).run Tryz.prog W=.ok () W:=fun e=>mD hkd hf hk e
 have hg:(getObj cm.blk).run Tryz.prog W=.ok (.map rs' ck) W:=by simp [getObj,Sem.run,hW,h2]
 rcases hc.node x.id with ⟨e1,_⟩|⟨y,n,e1,hy,hyi,e2,_⟩
 ·rw [ht.ent hx] at e1;cases e1
 ·obtain ⟨e,q,b,hfk,g2,g3,g4,_⟩:=yF hkd hf hk h3 e2 W;simp only [VR] at g4;obtain ⟨c4,k1,k2⟩:=g4;rw [hcx] at k1;cases k1;simp [Instr.lookup,run_underlying hd,hg,hck,hfk,k2]
end
abbrev ow (m:List aB):List AV:=m.map fun x=>.int .i64 x.id
theorem ad5 {suf:List Rdn} {last:Int} {l:List aB} (ht:TOk suf last l) {m:List aB} (hm:∀ x∈m,x∈l) (hne:m≠[]) (hn:m.length<=1100000) {L:List Blk} {iv mn mi:Nat} {nb bn:Int->Nat} {ck ci:Nat} {rs:List TKy} (hc:bu L iv mn mi nb bn ck ci rs suf last l)
  {i bx:Nat} {cp:Option Nat} (hL:L[i]?=some (.cells (ow m))) (hbx:L[bx]?=some (.cells [.ptr iv 0])) {K:afC} (h:K (.tup []) (L.set i (.cells (ow (m.mergeSort leE))))) :
  afB 51 [.lsl i 0 m.length cp 1,.func 52 [.ptr bx 0]] L K:=fun w0 S0 E w vs hR hv=>by
 simp only [VRL,VR] at hv;obtain ⟨_,_,rfl,⟨c,rc,d,hci,rfl,hd,hle,_,_⟩,_,_,rfl,⟨_,rfl,_,_,rfl,⟨cb,hcb,rfl⟩,rfl⟩,rfl⟩:=hv;have hpos:0<m.length:=ah8.2 hne;have hd':d=c.off:=by have:=hd (by omega);omega
 subst hd';obtain ⟨x0,hx0⟩:=List.exists_mem_of_ne_nil _ hne;have hno:∀ x∈l,x.nm≠[]:=fun x hx e=>ht.inv.ne (gy hx) (by rw [e];rfl)
 haveI:Inhabited {x:aB // x∈l}:=⟨⟨x0,hm x0 hx0⟩⟩
 obtain ⟨ms,rfl⟩:∃ ms:List {x:aB // x∈l},m=ms.map (·.1):=⟨m.attach.map fun x=>⟨x.1,hm x.1 x.2⟩,by simp⟩;obtain ⟨f,hf⟩:∃ f:{x:aB // x∈l}->AV,f=fun x=>.int .i64 x.1.id:=⟨_,rfl⟩
 obtain ⟨enc,henc⟩:∃ enc:{x:aB // x∈l}->Value,enc=fun x=>.int .i64 x.1.id:=⟨_,rfl⟩
 have e1:∀ s:List {x:aB // x∈l},ow (s.map (·.1))=s.map f:=fun s=>by rw [hf];exact ahS
 rw [e1] at hL;have hfv:∀ x v,VR E (f x) v->v=enc x:=fun x v hv=>by rw [hf] at hv;rw [henc];simpa [VR] using hv
 have hfe:∀ x,VR E (f x) (enc x):=fun x=>by rw [hf,henc];simp [VR]
 obtain ⟨hH,hlt⟩:=Yy hR hfv hL hci;obtain ⟨c1,v1,h1,b1,b2,b3⟩:=hR.at hbx (j:=0) rfl;rw [hcb] at h1;cases h1;simp only [VR] at b2;obtain ⟨c2,hiv,rfl⟩:=b2;obtain ⟨c2',v2,h2,d1,d2,d3⟩:=hR.at hc.v (j:=1) rfl;rw [hiv] at h2;cases h2;simp only [VR] at d2;obtain ⟨c3,hmn,rfl⟩:=d2;have hm3:c3.blk<w.heap.size:=by
  obtain ⟨c',rs',g1,g2,_⟩:=hR.blk mn _ hc.n;rw [hmn] at g1;cases g1;exact (ah4.1 g2).1
 obtain ⟨y0,ys,hy0⟩:∃ y ys,ms=y::ys:=by
  cases ms with
  | nil=>simp at hpos
  | cons y ys=>exact ⟨y,ys,rfl⟩
 have ap:∀ (j:Nat) (k:Blk) (c':Loc),L[j]?=some k->k.live=true->E.loc j=some c'->k ≠ .cells (ms.map f)->c'.blk≠c.blk:=fun j k c' hj hl hc' hk e=>by
  have:=hR.inj j i k _ c' c hj hl hL rfl hc' hci e;subst this;rw [hj] at hL;exact hk (Option.some.inj hL)
 have hk0:∀ a as',(∀ n,a ≠ .int .i64 n)->Blk.cells (a::as') ≠ .cells (ms.map f):=fun a as' ha e=>by
  rw [hy0,hf] at e;simp only [ahH,Blk.cells.injEq,ajv] at e;exact ha _ e.1
 have a1:=ap bx _ cb hbx rfl hcb (hk0 _ _ (by simp));have a2:=ap iv _ c2 hc.v rfl hiv (hk0 _ _ (by intro n;simp [dnA]));have a3:=ap mn _ c3 hc.n rfl hmn (by simp);have hown:=(hR.own i _ c hL rfl hci).1;have hpath:∀ x∈l,∃ c4 pb po ca,E.loc (nb x.id)=some c4/\c4.blk<w.heap.size/\c4.blk≠c.blk/\pb<w.heap.size/\pb≠c.blk/\w.cell? ⟨c4.blk,c4.off+1,none⟩=some (.slice (some ⟨pb,po,none⟩) (pth x).length ca)/\∀ j,j<(pth x).length->w.cell? ⟨pb,po+j,none⟩=some (.string ⟨⟨(pth x).getD j []⟩⟩):=fun x hx=>by
  obtain ⟨c4,pb,po,ca,g1,g2,g3,g4⟩:=hc.path hR hx (hno x hx);have hp0:0<(pth x).length:=by
   have:=ah8.2 (hno x hx);simp only [pth,aim,be];exact this
  have g5:=g4 0 hp0;exact ⟨c4,pb,po,ca,g1,g2,ap (nb x.id) _ c4 (hc.nd x hx) rfl g1 (hk0 _ _ (by intro n;simp [dnA])),hR.mem_lt g5,(fun e=>by rw [e,hown] at g5;cases g5),g3,fun j hj=>hR.mem _ _ _ (g4 j hj)⟩
 have hcmp:CmpLays1 Tryz.prog 52 #[.pointer (some ⟨cb.blk,cb.off+0,none⟩)] enc (fun x y=>cpP (pth x.1) (pth y.1)) c.blk c.off ms.toArray.size w:=fun n os dk hs x y=>by
  obtain ⟨cx,px,qx,kx,x1,x2,x3,x4,x5,x6,x7⟩:=hpath x.1 x.2;obtain ⟨cy,py,qy,ky,y1,y2,y3,y4,y5,y6,y7⟩:=hpath y.1 y.2;have hlx:(pth x.1).length<=1100000:=by have:=(ht.ok x.1 x.2).len;simp only [pth,aim,be];omega
  have hly:(pth y.1).length<=1100000:=by have:=(ht.ok y.1 y.2).len;simp only [pth,aim,be];omega
  have hh:∀ b,b≠c.blk->b<w.heap.size->(sortWorld enc w c.blk c.off n dk os).heap[b]?=w.heap[b]?:=fun b hb hl=>ad3 hb hl
  have:=Tryz.scp_c (pth x.1) (pth y.1) x.1.id y.1.id cb.blk (cb.off+0) c2.blk (c2.off+0) c3.blk cx.blk cx.off px qx kx cy.blk cy.off py qy ky (sortWorld enc w c.blk c.off n dk os) hlx hly
   (by rw [hY (hh _ a1 b3)];exact b1) (by rw [hY (hh _ a2 d3)];exact d1)
   (fun q=>hc.lookup hR hmn ht x.2 x1 _ (hh _ a3 hm3)) (fun q=>hc.lookup hR hmn ht y.2 y1 _ (hh _ a3 hm3))
   (by rw [hY (hh _ x3 x2)];exact x6) (by rw [hY (hh _ y3 y2)];exact y6)
   (fun j hj=>by rw [hY (hh _ x5 x4)];exact x7 j hj) (fun j hj=>by rw [hY (hh _ y5 y4)];exact y7 j hj)
  rw [henc] at this ⊢;exact this.mono fun e w' ⟨k1,q,k2⟩=>⟨k1,q,#[],by rw [k2,grow_empty]⟩
 have hO:SWO (ltOf (fun x y:{x:aB // x∈l}=>cpP (pth x.1) (pth y.1))):=aeu (fun x:{x:aB // x∈l}=>pth x.1);have hcon:=Tryz.sortF enc (fun x=>by rw [henc];rfl) (fun x y=>cpP (pth x.1) (pth y.1)) hO 52 #[.pointer (some ⟨cb.blk,cb.off+0,none⟩)] c.blk c.off rc ms.toArray w (enters_of Tryz.func52 (by kernel_rfl) rfl) hcmp hH hlt (by simp only [ahF] at hn;simp only [List.size_toArray];omega) (fun x y h1 h2=>by
  have:=Wh (a:=pth x.1) (b:=pth y.1) h1 h2;exact Subtype.ext (ht.byN x.2 y.2 (Wb this)))
 rw [ahF] at *;refine .inl ⟨jM Tryz.func51 rfl (by kernel_rfl) _ _,hcon.mono ?_⟩;rintro e w' ⟨rfl,q,os,rfl⟩;have hp:(ms.mergeSort fun x y => !(ltOf (fun x y:{x:aB // x∈l}=>cpP (pth x.1) (pth y.1))) y x).length=(ms.map f).length:=by rw [aku,ahF]
 have r1:=hR.putG hfe hL hci hp q;have e3:ow ((ms.map (·.1)).mergeSort leE)=(ms.mergeSort fun x y => !(ltOf (fun x y:{x:aB // x∈l}=>cpP (pth x.1) (pth y.1))) y x).map f:=by
  rw [<- e1]
  congr 1
  refine (List.map_mergeSort fun a _ b _=>?_).symm;rfl
 rw [e3] at h;refine ⟨E,_,_,_,rfl,.refl E,h,by simp [VR,VRL],r1.grown ?_⟩;exact ⟨fun b hb=>aj6 hb,by simp [sortWorld,grow,putRow,mapBlock,Sort.ahead],rfl,rfl,rfl⟩
theorem acj {cap:Option Nat} {fv:AV} (h:K (.tup []) L):afB 51 [.sl [] 0 cap,fv] L K :=
 mL Tryz.func51 rfl (by kernel_rfl) (fun w0 S0 E w vs hR hv=>by
  simp only [VRL,VR] at hv;obtain ⟨_,_,rfl,⟨p,c,rfl,_⟩,x,_,rfl,_,rfl⟩:=hv;exact (Tryz.sortF0 p c x w).mono fun e w' ⟨he,hw⟩=>⟨_,he,by simp [VR,VRL],by subst hw;exact Vc.refl _⟩) h
end Go.Proofs.YtobihfefmlgaoaaGreat.Av
set_option maxRecDepth 100000
namespace Go.Proofs.YtobihfefmlgaoaaGreat.Av
open Go
def fO:LSO:=[Ap 2]
def fN:LSO:=[Aa 3 0,o1 4 (.slnil false (tm 3))]
def fM:LSO:=[Ap 2]
def fL:LSO:=[o1 5 (.bslice false 1 0 [] []),Aa 6 0,Cc 7 5 6,Aa 2 7]
def bL:aS:=⟨8,(.seq (.sreg fO [])
 (.seq (.seq (.sreg fN Cp)
 (.cond (tm 4) (.seq (.sreg fM [])
 .ret)
 .skip))
 (.seq (.sreg fL Cr)
 .ret))),[(.tmp 2)]⟩
attribute [push_cast] fO fN fM fL
theorem fu:aT Tryz.prog (fun r i=>if r=3/\i=2 then 2 else 1) 55=some bL.raw:=by kernel_rfl
attribute [push_cast] bL
variable {L:List Blk} {K:afC}
set_option maxHeartbeats 8000000
set_option maxRecDepth 100000
theorem Z6 {d e z:List Rdn} {cap cap':Option Nat} {ne nd:Nat} (hz:e++d=z) (he:ne=e.length) (hdn:nd=d.length) (hn:z.length<=1100000) (hr:∀ r∈z,r.length<=1100000) (h:K (dnA z) L) :
  afB 25 [.sl (d.map aw) nd cap,.sl (e.map aw) ne cap'] L K:=by
 subst he hdn;replace h:=hid h;have hat:=hid (fun k=>@mw z k);replace hr:=hid hr;have kk1:Hid (Ctr Tryz.prog 54 [.sl [.sl (e.map aw) e.length cap',.sl (d.map aw) d.length cap] 2 (some 2)] (.sl (z.map aw) z.length none)):=@hid _ (by
  intro L K q;refine dQ ?_;simp only [AV.frzL,AV.frz,aO];have:=@VO [e.map aw,d.map aw] none (by simp) (by simp only [ake,akf,ahO,<- ahN,hz,ahF];exact hn) (fun l hl=>by
   rw [ahC];intro a ha;simp only [ahR,air,or_false] at hl;rcases hl with rfl|rfl<;>(obtain ⟨r,_,rfl⟩:=ahs.1 ha;rfl)) (fun p=>by simp only [ake,akf,ahO,<- ahN];exact cQ p _) L K
  simp only [ake,akf,ahO,<- ahN,hz,ahH,aif,ahF,ahZ,ahD,UX] at this;exact this q)
 clear hz;refine acg QK ?_;refine bi (l:=[]) (n:=0) 5 1 rfl (ahQ 1).symm ?_;refine ah (fun m T' L'=>∃ (k:Nat) (C:List AV) (X:List Blk),m=z.length - k/\k<=z.length/\Hid (C=(z.take k).map aw)/\T'=[(13,.int .i64 (k:Int)),(12,.int .i64 z.length),(11,.sl (z.map aw) z.length none),(5,.gsl C k L.length 1)]/\L'=L++(.spare k 1::X)) (CutS (b:=by simp)) ⟨0,[],[],rfl,ahp _,hid rfl,rfl,by simp⟩ ?_;rintro _ _ _ ⟨k,C,X,rfl,hk,hC,rfl,rfl⟩;by_cases hlt:k<z.length
 ·have g1:(k:Int)<(z.length:Int):=by omega
  have g2:=ace k (by omega);have e2:=hat.out k hlt;have e3:k<(z.map aw).length:=by simpa using hlt
  obtain ⟨r,hri⟩:=aaR (z.getD k []);have hrl:=hr.out r (by rw [<- hri];simp [hlt]);have htk:(z.take (k+1)).map aw=C++[.sl (aN r) r.length none]:=by
   rw [hC.out,ahK hlt,ahN,show z[k]=r by rw [<- hri];simp [hlt]];rfl
  rw [hri] at e2;have e4:=fV r;have e5:=cr r;replace htk:=hid htk;clear hri hC;refine wk ?_;exact aq _ _ _ (by omega) (CutL (b:=by simp)) ⟨k+1,_,_,rfl,hlt,hid htk.out.symm,rfl,rfl⟩
 ·have hke:k=z.length:=by omega
  subst hke;have g1:¬ (z.length:Int)<(z.length:Int):=by omega
  have hC2:=hC.out;rw [ahA] at hC2;subst hC2;clear hC;refine wk ?_;refine ay ?_;simp only [AV.frz,aO];exact ab (by simp only [AV.refs,cQ]) h.out
theorem adt {xs:List (List UInt8)} {cap:Option Nat} (hn:xs.length<=1100000) (h:K (.sl (xs.map AV.str) xs.length none) L) :
  afB 55 [.sl (xs.map AV.str) xs.length cap] L K:=by
 replace h:=hid h;by_cases h0:xs=[]
 ·subst h0;refine aa fu (by simp [bL]) ?_;simp only [bL,ag]
  repeat' first
   | refine cP ?_
   | (first|refine bY (by kernel_rfl) ?_|refine bj (by kernel_rfl) ?_|refine bm ?_|refine fy ?_|refine cT (fun _=>?_)|refine a8 ?_|refine b9 ?_)
     refine sm ?_
   | (first|refine bU (by kernel_rfl) ?_|refine bT ?_|refine bZ ?_|refine cY (a7 ?_))
     refine sl ?_
   | exact cU
   | first|apply cV|apply bV|apply cW|apply bW|apply cX|apply bX
   | refine br ?_
   | first|refine bp rfl ?_|refine bq rfl ?_|refine aW rfl ?_ ?_|refine bz rfl (fun _=>?_) (fun _=>?_)|refine bw rfl (fun _=>?_) (fun _=>?_)
   | ((first|refine aV (fun _=>?_) (fun _=>?_)|refine a6 (fun _=>?_) (fun _=>?_))<;>try refine sm ?_)
   | refine And.intro trivial ?_
   | refine And.intro (by omega) ?_
   | refine bA rfl (fun _=>?_) (fun _=>?_)
   | refine And.intro ?_ ?_
  all_goals
   refine ay ?_;rw [show (AV.sl [] 0 (some 0)).frz=.sl (([]:List (List UInt8)).map AV.str) ([]:List (List UInt8)).length none from rfl];exact af h.out
 ·have h1:¬ xs.length=0:=fun c=>h0 (ahX.1 c)
  have h2:(xs.map AV.str).all AV.one=true:=by rw [ahC];intro a ha;obtain ⟨r,_,rfl⟩:=ahs.1 ha;rfl
  refine acg fu ?_;refine KW (i:=L.length) (l:=xs.map AV.str) (by simp) ?_;rw [show (AV.lsl L.length 0 xs.length none 1).snap L.length (xs.map AV.str)=.sl (xs.map AV.str) xs.length none from by simp [AV.snap,ah0],show (L++[Blk.cells (xs.map AV.str)]).set L.length .dead=L++[.dead] by simp];exact ab (by simp only [AV.refs];exact qn _ _) h.out
theorem SS {l:List Atr} {cap:Option Nat} (hl:l.length<=1100000) (hz:∀ a∈l,a.2.length<=1100000) (h:K (.sl (aU l) l.length none) L) :
  afB 26 [.sl (aU l) l.length cap] L K:=by
 replace h:=hid h;have kC:Hid (∀ {xs:List (List UInt8)} {c:Option Nat} (hx:xs.length<=1100000) {L:List Blk} {K:afC},K (.sl (xs.map AV.str) xs.length none) L->afB 55 [.sl (xs.map AV.str) xs.length c] L K):=@hid _ (by intro xs c hx L K q;exact adt hx q);refine acg Uy ?_;refine bi (l:=[]) (n:=0) 3 2 rfl (ahQ 2).symm ?_;refine ah (fun m T' L'=>∃ (k:Nat) (C:List AV) (X:List Blk),m=l.length - k/\k<=l.length/\C=aU (l.take k)/\T'=[(8,.int .i64 (k:Int)),(7,.int .i64 l.length),(6,.sl (aU l) l.length cap),(3,.gsl C k L.length 2)]/\L'=L++(.spare k 2::X)) (CutS (b:=by simp)) ⟨0,[],[],rfl,ahp _,rfl,rfl,rfl⟩ ?_;rintro _ _ _ ⟨k,C,X,rfl,hk,hC,rfl,rfl⟩;by_cases hlt:k<l.length
 ·have g1:(k:Int)<(l.length:Int):=by omega
  have g2:=ace k (by omega);have e3:=ql hlt;have e4:k * 2+2<=(aU l).length:=by rw [rQ];omega
  obtain ⟨⟨nm,vs⟩,ha⟩:∃ a,l.getD k ([],[])=a:=⟨_,rfl⟩;have htk:aU (l.take (k+1))=aU (l.take k)++[.str nm,.sl (vs.map AV.str) vs.length none]:=by
   rw [ahK hlt,KU,show l[k]=(nm,vs) by rw [<- ha];simp [hlt]];rfl
  have hvs:=hz (nm,vs) (by rw [<- ha];simp [hlt]);simp only at hvs;rw [ha] at e3;simp only [atA] at e3;have e0:AV.frzL (vs.map AV.str)=vs.map AV.str:=lq vs;replace htk:=hid htk;replace hC:=hid hC;have kk1:Hid (∀ {c:Option Nat} {L:List Blk} {K:afC},K (.sl (vs.map AV.str) vs.length none) L->afB 55 [.sl (vs.map AV.str) vs.length c] L K):=@hid _ (by intro c L K q;exact kC.out hvs q);clear ha hz kC;refine wk ?_;exact aq _ _ _ (by omega) (CutL (b:=by simp)) ⟨k+1,_,_,rfl,hlt,by rw [htk.out,hC.out],rfl,rfl⟩
 ·have hke:k=l.length:=by omega
  subst hke;have g1:¬ (l.length:Int)<(l.length:Int):=by omega
  rw [ahA] at hC;subst hC;have e0:=dp l;refine wk ?_;refine ay ?_;simp only [AV.frz,e0];exact ab (by simp only [AV.refs,ko]) h.out
theorem WW {L:List Blk} {iv mn mi:Nat} {nb bn:Int->Nat} {ck ci:Nat} {rs:List TKy} {suf:List Rdn} {last:Int} {l:List aB} (ht:TOk suf last l) (hb:∀ x∈l,x.av.length<=1100000/\∀ a∈x.av,a.2.length<=1100000) (hc:bu L iv mn mi nb bn ck ci rs suf last l) {id:Int} {K:afC}
  (h0:ux l id=none->K (.tup [dnA [],atR []]) L) (h:∀ x,ux l id=some x->K (.tup [dnA x.nm,atR x.av]) L) :
  afB 7 [.ptr iv 0,.int .i64 id] L K:=by
 have hv:=hc.v;have hn:=hc.n;have hkf:bg .int (.int .i64 id)=true:=rfl;rcases hc.node id with ⟨e1,e2⟩|⟨x,n,e1,hx,hxi,e2,e3⟩
 ·replace h:=hid (h0 e1);clear hc e1 h0 hb ht;refine acg ol ?_;refine ay ?_;rw [show (AV.tup [.sl [] 0 (some 0),.sl [] 0 (some 0)]).frz=.tup [dnA [],atR []] from rfl];exact af h.out
 ·replace h:=hid (h x e1);unfold lv at e3;have hox:=(ht.ok x hx).m.b;have hbx:=hb x hx;obtain ⟨xi,xn,xv⟩:=x;simp only at e3 hox hbx h;have kk1:Hid (∀ {c:Option Nat} {L:List Blk} {K:afC},K (dnA xn) L->afB 25 [.sl (xn.map aw) xn.length none,.sl [] 0 c] L K):=@hid _ (by intro c L K q;exact Og hox.1 hox.2 q);have kk2:Hid (Ctr Tryz.prog 26 [.sl (aU xv) xv.length none] (atR xv)):=@hid _ (by intro L K q;exact SS hbx.1 hbx.2 q);obtain ⟨q,hq⟩:=aaR (aZ (dq l) (NK xn));rw [hq] at e3;unfold atR at e3 kk2 h;clear hc e1 h0 hb ht hx hxi hq hox hbx;refine acg ol ?_;exact af h.out
end Go.Proofs.YtobihfefmlgaoaaGreat.Av
