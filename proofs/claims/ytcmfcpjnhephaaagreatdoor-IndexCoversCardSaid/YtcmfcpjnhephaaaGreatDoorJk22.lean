/- Joined texts of the walk, made small by a program. -/
import Derived.Test.YtcmfcpjnhephaaaGreatDoorJk21
import Derived.Test.YtcmfcpjnhephaaaGreatDoorJk19
import Derived.Test.YtcmfcpjnhephaaaGreatDoorJk20
import Derived.Test.YtcmfcpjnhephaaaGreatDoorJk16
import Derived.Test.YtcmfcpjnhephaaaGreatDoorJk4
import Derived.Test.YtcmfcpjnhephaaaGreatDoorRows
import Derived.KernelRfl
import Derived.Test.YtcmfcpjnhephaaaGreatDoorJk6
set_option linter.unusedSimpArgs false
set_option linter.unusedVariables false
namespace Go.Proofs.YtcmfcpjnhephaaaGreatDoor.Av
open Go
variable {L:List Blk} {K:abD}
set_option maxHeartbeats 8000000
set_option maxRecDepth 100000
theorem PM {X:Type} {l m:List X} {d:X} {i:Nat} (h1:i<l.length) (h2:i<m.length):l.take (i+1)=m.take (i+1)↔l.take i=m.take i/\l.getD i d=m.getD i d:=by
 rw [ab2 h1,ab2 h2];have e1:l.getD i d=l[i]:=by simp [h1]
 have e2:m.getD i d=m[i]:=by simp [h2]
 rw [e1,e2];refine ⟨fun h=>?_,fun h=>by rw [h.1,h.2]⟩;have:=List.append_inj' h (by simp);exact ⟨this.1,by simpa using this.2⟩
theorem Wf {xs ys:List Int} {cap cap':Option Nat} (hn:xs.length<=1000000) (h:K (.bool (decide (xs=ys))) L) :
  abC 22 [.sl (Mb xs) xs.length cap,.sl (Mb ys) ys.length cap'] L K:=by
 replace h:=hid h;have no:¬ xs=ys->K (.bool false) L:=fun e=>by simpa [e] using h.out
 replace no:=hid no;refine ad Mt (by simp [sV]) ?_;simp only [sV,ao];by_cases hlen:xs.length=ys.length;rotate_left
 ·have hl1:¬ (xs.length:Int)=(ys.length:Int):=by omega
  repeat' first
   | refine a8 ?_
   | (first|refine aU (by kernel_rfl) ?_|refine aB (by kernel_rfl) ?_|refine aE ?_|refine bI ?_|refine bf (fun _=>?_)|refine ay ?_|refine aW ?_)
     refine sm ?_
   | (first|refine aO (by kernel_rfl) ?_|refine aP ?_|refine aD ?_|refine aV ?_|refine bp (ax ?_))
     refine sl ?_
   | exact bg
   | first|apply bh|apply aR|apply bj|apply aS|apply bm|apply aT
   | refine aH ?_
   | refine aC ?_
   | first|refine aF rfl ?_|refine aG rfl ?_|refine an rfl ?_ ?_|refine aJ rfl (fun _=>?_) (fun _=>?_)|refine aI rfl (fun _=>?_) (fun _=>?_)
   | ((first|refine am (fun _=>?_) (fun _=>?_)|refine aw (fun _=>?_) (fun _=>?_))<;>try refine sm ?_)
   | refine And.intro trivial ?_
   | refine And.intro (by omega) ?_
   | refine aM rfl (fun _=>?_) (fun _=>?_)
   | refine And.intro ?_ ?_
  exact aa (no.out fun e=>hlen (by rw [e]))
 have hlen':(ys.length:Int)=(xs.length:Int):=by omega
 replace hlen:=hid hlen
 repeat' first
  | refine a8 ?_
  | (first|refine aU (by kernel_rfl) ?_|refine aB (by kernel_rfl) ?_|refine aE ?_|refine bI ?_|refine bf (fun _=>?_)|refine ay ?_|refine aW ?_)
    refine sm ?_
  | (first|refine aO (by kernel_rfl) ?_|refine aP ?_|refine aD ?_|refine aV ?_|refine bp (ax ?_))
    refine sl ?_
  | exact bg
  | first|apply bh|apply aR|apply bj|apply aS|apply bm|apply aT
  | refine aH ?_
  | refine aC ?_
  | first|refine aF rfl ?_|refine aG rfl ?_|refine an rfl ?_ ?_|refine aJ rfl (fun _=>?_) (fun _=>?_)|refine aI rfl (fun _=>?_) (fun _=>?_)
  | ((first|refine am (fun _=>?_) (fun _=>?_)|refine aw (fun _=>?_) (fun _=>?_))<;>try refine sm ?_)
  | refine And.intro trivial ?_
  | refine And.intro (by omega) ?_
  | refine aM rfl (fun _=>?_) (fun _=>?_)
  | refine And.intro ?_ ?_
 clear hlen';refine ak (fun n T' L'=>∃ (i:Nat),n=xs.length - i/\i<=xs.length/\xs.take i=ys.take i/\T'=[(13,.int .i64 (i:Int)),(12,.int .i64 xs.length),(4,.bool false),(1,.sl (Mb ys) ys.length cap'),(0,.sl (Mb xs) xs.length cap)]/\L=L') (CutS (b:=abF _)) ⟨0,rfl,abL _,rfl,rfl,rfl⟩ ?_;rintro _ _ _ ⟨i,rfl,hi,hti,rfl,rfl⟩;replace hti:=hid hti;by_cases hlt:i<xs.length
 ·have hly:i<ys.length:=by have:=hlen.out;omega
  have h1:(i:Int)<(xs.length:Int):=by omega
  have h1':(i:Int)<(ys.length:Int):=by have:=hlen.out;omega
  have h2:=abA i (by omega);have g5:(Mb xs).getD i .undef=.int .i64 (xs.getD i 0):=by simp [hlt]
  have g6:(Mb ys).getD i .undef=.int .i64 (ys.getD i 0):=by simp [hly]
  have hsucc:=hid (PM (l:=xs) (m:=ys) (d:=0) hlt hly);obtain ⟨p,hp⟩:=aby (xs.getD i 0);obtain ⟨q,hq⟩:=aby (ys.getD i 0);rw [hp,hq] at hsucc;rw [hp] at g5;rw [hq] at g6;clear hp hq;by_cases hpq:p=q
  ·subst hpq
   repeat' first
    | refine a8 ?_
    | (first|refine aU (by kernel_rfl) ?_|refine aB (by kernel_rfl) ?_|refine aE ?_|refine bI ?_|refine bf (fun _=>?_)|refine ay ?_|refine aW ?_)
      refine sm ?_
    | (first|refine aO (by kernel_rfl) ?_|refine aP ?_|refine aD ?_|refine aV ?_|refine bp (ax ?_))
      refine sl ?_
    | exact bg
    | first|apply bh|apply aR|apply bj|apply aS|apply bm|apply aT
    | refine aH ?_
    | refine aC ?_
    | first|refine aF rfl ?_|refine aG rfl ?_|refine an rfl ?_ ?_|refine aJ rfl (fun _=>?_) (fun _=>?_)|refine aI rfl (fun _=>?_) (fun _=>?_)
    | ((first|refine am (fun _=>?_) (fun _=>?_)|refine aw (fun _=>?_) (fun _=>?_))<;>try refine sm ?_)
    | refine And.intro trivial ?_
    | refine And.intro (by omega) ?_
    | refine aM rfl (fun _=>?_) (fun _=>?_)
    | refine And.intro ?_ ?_
   exact ai _ _ _ (by omega) (CutS (b:=abF _)) ⟨i+1,rfl,hlt,hsucc.out.2 ⟨hti.out,rfl⟩,rfl,rfl⟩
  ·repeat' first
    | refine a8 ?_
    | (first|refine aU (by kernel_rfl) ?_|refine aB (by kernel_rfl) ?_|refine aE ?_|refine bI ?_|refine bf (fun _=>?_)|refine ay ?_|refine aW ?_)
      refine sm ?_
    | (first|refine aO (by kernel_rfl) ?_|refine aP ?_|refine aD ?_|refine aV ?_|refine bp (ax ?_))
      refine sl ?_
    | exact bg
    | first|apply bh|apply aR|apply bj|apply aS|apply bm|apply aT
    | refine aH ?_
    | refine aC ?_
    | first|refine aF rfl ?_|refine aG rfl ?_|refine an rfl ?_ ?_|refine aJ rfl (fun _=>?_) (fun _=>?_)|refine aI rfl (fun _=>?_) (fun _=>?_)
    | ((first|refine am (fun _=>?_) (fun _=>?_)|refine aw (fun _=>?_) (fun _=>?_))<;>try refine sm ?_)
    | refine And.intro trivial ?_
    | refine And.intro (by omega) ?_
    | refine aM rfl (fun _=>?_) (fun _=>?_)
    | refine And.intro ?_ ?_
   exact aa (no.out fun e=>hpq (hsucc.out.1 (by rw [e])).2)
 ·have hke:i=xs.length:=by omega
  subst hke;have h1:¬ (xs.length:Int)<(xs.length:Int):=by omega
  have e:=hti.out;rw [abY,hlen.out,abY] at e;have h':=h.out;rw [decide_eq_true e] at h';clear e;replace h':=hid h'
  repeat' first
   | refine a8 ?_
   | (first|refine aU (by kernel_rfl) ?_|refine aB (by kernel_rfl) ?_|refine aE ?_|refine bI ?_|refine bf (fun _=>?_)|refine ay ?_|refine aW ?_)
     refine sm ?_
   | (first|refine aO (by kernel_rfl) ?_|refine aP ?_|refine aD ?_|refine aV ?_|refine bp (ax ?_))
     refine sl ?_
   | exact bg
   | first|apply bh|apply aR|apply bj|apply aS|apply bm|apply aT
   | refine aH ?_
   | refine aC ?_
   | first|refine aF rfl ?_|refine aG rfl ?_|refine an rfl ?_ ?_|refine aJ rfl (fun _=>?_) (fun _=>?_)|refine aI rfl (fun _=>?_) (fun _=>?_)
   | ((first|refine am (fun _=>?_) (fun _=>?_)|refine aw (fun _=>?_) (fun _=>?_))<;>try refine sm ?_)
   | refine And.intro trivial ?_
   | refine And.intro (by omega) ?_
   | refine aM rfl (fun _=>?_) (fun _=>?_)
   | refine And.intro ?_ ?_
  exact aa h'.out
def Kz (b:Nat) (X:List Blk) (v:AV):Prop:=v=.sl [] 0 (some 0)\/∃ j n c,v=.lsl (b+j) 0 n none 1/\X[j]?=some (.cells c)/\n<=c.length/\n<=1000000
theorem Kz.app {b:Nat} {X:List Blk} {v:AV} (h:Kz b X v) (Y:List Blk):Kz b (X++Y) v:=by
 rcases h with rfl|⟨j,n,c,h1,h2,h3⟩
 ·exact .inl rfl
 ·exact .inr ⟨j,n,c,h1,abz h2,h3⟩
theorem Kz.set {b i:Nat} {X:List Blk} {c d:List AV} {v:AV} (h:Kz b X v) (hi:X[i]?=some (.cells c)) (hd:d.length=c.length):Kz b (X.set i (.cells d)) v:=by
 rcases h with rfl|⟨j,n,e,h1,h2,h3⟩
 ·exact .inl rfl
 ·by_cases hij:i=j
  ·subst hij;rw [hi] at h2;cases h2;exact .inr ⟨i,n,d,h1,by simp [(abE.1 hi).1],by omega,h3.2⟩
  ·exact .inr ⟨j,n,e,h1,by simp [hij,h2],h3⟩
theorem Kz.cell {b:Nat} {X:List Blk} {v:AV} (h:Kz b X v):AV.cells? v=some [v]:=by
 rcases h with rfl|⟨j,n,c,rfl,_⟩<;>rfl
theorem Own.row {L X L':List Blk} {m:List Int} {v:AV} (h:Own (L++X) m v L') (hm:m.length<=1000000):∃ Y,L'=L++(X++Y)/\Kz L.length (X++Y) v:=by
 rcases h with ⟨rfl,_,rfl⟩|⟨z,rfl,rfl⟩
 ·exact ⟨[],by simp,.inl rfl⟩
 ·exact ⟨[.cells (Mb m++KD z)],by simp,.inr ⟨X.length,m.length,Mb m++KD z,by simp,by simp,by simp,hm⟩⟩
set_option maxRecDepth 1000000
theorem aal {l:List Int} {x:Int} {cap:Option Nat} (hn:l.length<=1000000) (h:K (.bool (decide (x∈l))) L) :
  abC 17 [.sl (l.map (AV.int .i64)) l.length cap,.int .i64 x] L K:=by
 replace h:=hid h;have hg:=hid (fun k (q:k<l.length)=>show (l.map (AV.int .i64)).getD k .undef=.int .i64 (l.getD k 0) by simp [q]);have hl:(l.map (AV.int .i64)).length=l.length:=by simp
 obtain ⟨X,hX⟩:=aby (l.map (AV.int .i64));rw [hX] at hg hl ⊢;clear hX;refine abB Oz ?_;refine ak (fun n T' L'=>∃ k:Nat,n=l.length - k/\k<=l.length/\T'=[(9,.int .i64 (k:Int)),(8,.int .i64 l.length),(7,.sl X l.length cap),(1,.int .i64 x)]/\L=L'/\Hid (∀ j,j<k->l.getD j 0≠x)) (CutS (b:=abF _)) ⟨0,rfl,abL _,rfl,rfl,hid (by simp)⟩ ?_;rintro _ _ L' ⟨k,rfl,hk,rfl,e,hr⟩;subst e;by_cases hlt:k<l.length
 ·have g1:(k:Int)<(l.length:Int):=by omega
  have g2:=abA k (by omega);have e3:=hg.out k hlt;have e4:k<X.length:=by omega
  obtain ⟨y,hy⟩:=aby (l.getD k 0);rw [hy] at e3;by_cases hq:y=x
  ·have e:decide (x∈l)=true:=decide_eq_true (by rw [<- hq,<- hy];simp [hlt]);rw [e] at h;replace hy:=hid hy;subst hq;clear e;refine wk ?_;exact aa h.out
  ·have hr2:Hid (∀ j,j<k+1->l.getD j 0≠x):=hid (fun j hj=>by
    rcases abX j k with h|h
    ·exact hr.out j h
    ·have:j=k:=by omega
     subst this;rw [hy];exact hq)
   clear hy hr;refine wk ?_;exact ai _ _ _ (by omega) (CutL (b:=by simp)) ⟨k+1,rfl,hlt,rfl,rfl,hr2⟩
 ·have g1:¬ (k:Int)<(l.length:Int):=by omega
  have e:decide (x∈l)=false:=decide_eq_false fun hs=>by
   obtain ⟨j,hj,e⟩:=acV.1 hs;exact hr.out j (by omega) (by simp [hj,e])
  rw [e] at h;clear e hr;refine wk ?_;exact aa h.out
theorem ZZ {P:Program} {f:FuncId} {b:Bool} (h:af P f [] [] fun v _=>v=.bool b) (hk:K (.bool b) L):af P f [] L K:=fun w0 S0 E w vs hR hv=>by
 have hR0:Rel w ⟨fun _=>False,0⟩ { mem:=E.mem,loc:=fun _=>none,tok:=fun _=>none } [] w:=by
  refine ⟨hR.mem,?_,fun _ _=>rfl,?_,?_,fun _ _=>rfl,?_,?_,?_,fun _ _ _=>rfl,abF _,rfl,rfl,rfl,hR.glob,hR.gsz⟩
  all_goals intros;simp_all
 have key:∀ {E':Env} {L':List Blk} {w':World},Rel w ⟨fun _=>False,0⟩ E' L' w'->EH w w':=fun k=>⟨fun b hb=>k.frame b hb (fun x=>x),k.size,k.os,k.tape,k.output⟩
 have hv0:VRL { mem:=E.mem,loc:=fun _=>none,tok:=fun _=>none } [] vs:=by
  simpa only [VRL] using hv
 rcases h w _ _ w vs hR0 hv0 with ⟨h1,h2⟩|⟨E',v,av,L',w',h1,h2,h3,h4,h5⟩
 ·refine .inl ⟨h1,h2.mono fun e w' ⟨E',v,av,L',a,b,c,d,r⟩=>⟨E,v,_,L,a,.refl E,hk,?_,hR.grown (key r)⟩⟩;subst c;simpa only [VR] using d
 ·refine .inr ⟨E,v,_,L,w',h1,.refl E,hk,?_,hR.grown (key h5)⟩;subst h3;simpa only [VR] using h4
abbrev cnS:List UInt8:=[99,110]
abbrev L8:TMp:=(J9 aA [] [cnS]).2
def l19:List bt:=nZ 1 [(cnS,[[97,98,99,100]])] (nZ 2 [(cnS,[[120,97,98,99]])] [])
theorem Zu:J9 aA [] [cnS]=(0,L8):=by kernel_rfl
theorem aaF:Q9 L8 l19 [67,78] [(1,[65,66,67])]=[1,2]:=by kernel_rfl
theorem aaE:Q9 L8 l19 cnS [(1,[98,99,100])]=[1]:=by kernel_rfl
theorem TY (b:List UInt8) (h:b.length<=4):LZ [(cnS,[b])]:=⟨by simp,by simp [gR],fun x hx=>by
 rw [abZ.1 hx];exact ⟨by show bd cnS;unfold bd;decide,by simp⟩⟩
theorem XX:cG L8 L8.length/\∀ e∈L8,bd e.1:=by
 have h:=P2 (ts:=aA) (ns:=[cnS]) (TmS.nil _) (fun n hn=>by rw [abZ.1 hn];unfold bd;decide);refine ⟨h.ok,fun e he=>?_⟩;obtain ⟨n,_,h2,h3⟩:=h.ty e he;rw [<- h2];unfold bd at h3 ⊢;rw [KW];exact h3
theorem S9:abC 9 [] [] fun v _=>v=.bool true:=by
 obtain ⟨x,hx⟩:=aby (cq aA);obtain ⟨m,hm⟩:=aby (aA.length);obtain ⟨y,hy⟩:=aby (Py);have kk1:Hid (Ctr Tryz.prog 20 [] (.agg [.sl x m none,.sl y 9 none])):=hid fun q=>XK (by rw [hx,hm,hy];exact q)
 have kN:Hid (∀ {L:List Blk} {c:Option Nat} {K:abD},(∀ L' it B,Hid (IxO L' it L8 [] B)->K (.tup [.ptr it 0,.int .i64 0]) L')->abC 19 [.agg [.sl x m none,.sl y 9 none],.sl [.str cnS] 1 c] L K):=@hid _ (fun {L c K} q=>by
  rw [<- hx,<- hm];exact TG (ns:=[cnS]) jt.1 jt.2.1 (by simp) (fun n hn=>by rw [abZ.1 hn];unfold bd;decide) Zu (fun L' e=>absurd rfl e) fun L' it B _ g1 _ _=>q L' it B (hid g1))
 have kP:∀ (id:Int) (l:List bt) (b:List UInt8),b.length<=4->(∀ e∈l,LZ e.2)->Hid (∀ {L:List Blk} {it:Nat} {B:Nat->Prop} {c1 c2:Option Nat} {K:abD},Hid (IxO L it L8 l B)->(∀ L' B',Hid (IxO L' it L8 (nZ id [(cnS,[b])] l) B')->K (.tup []) L')->abC 21 [.ptr it 0,.int .i64 id,.sl [.str cnS,.sl [.str b] 1 c1] 1 c2] L K):=fun id l b hb hl=>@hid _ (fun {L it B c1 c2 K} ho q=>by
  refine mm ?_;simp only [AV.frzL,AV.frz];exact TF (a:=[(cnS,[b])]) ho.out ⟨XX.1,XX.2,hl⟩ (TY b hb) fun L' B' g1 _ _=>q L' B' (hid g1))
 have kL:∀ (n t:List UInt8) (r:List Int),n.length<=4->t.length<=4->Q9 L8 l19 n [(1,t)]=r->Hid (∀ {L:List Blk} {it:Nat} {B:Nat->Prop} {c:Option Nat} {K:abD},Hid (IxO L it L8 l19 B)->K (nY r) L->abC 13 [.ptr it 0,.str n,.sl [.int .i64 1,.str t] 1 c] L K):=fun n t r hn ht hr=>@hid _ (fun {L it B c K} ho q =>
  Re (ps:=[(1,t)]) ho.out ⟨by decide,by decide⟩ (by unfold bd;omega) ⟨by simp,fun p hp=>by rw [abZ.1 hp];simp only;omega⟩ (by rw [hr];exact q))
 have kS:Hid (∀ {l:List Int} {n:Nat} {c:Option Nat} {L:List Blk} {K:abD},n=l.length->l.length<=10->K (.bool true) L->abC 22 [.sl (l.map (AV.int .i64)) l.length none,.sl (l.map (AV.int .i64)) n c] L K):=@hid _ (fun {l n c L K} hn hl q=>by
  subst hn;exact Wf (xs:=l) (ys:=l) (by omega) (by simpa using q))
 have kP1:=@kP 2 [] [120,97,98,99] (by decide) (by simp);have kP2:=@kP 1 (nZ 2 [(cnS,[[120,97,98,99]])] []) [97,98,99,100] (by decide) (fun e he=>by
  rcases ff.1 he with rfl|⟨h,_⟩
  ·exact TY _ (by decide)
  ·cases h)
 have kL1:=@kL [67,78] [65,66,67] [1,2] (by decide) (by decide) aaF;have kL2:=@kL cnS [98,99,100] [1] (by decide) (by decide) aaE;clear kP kL;refine abB Le ?_;refine kN.out fun L1 it B1 h1=>?_
 refine wk ?_;refine kP1.out h1 fun L2 B2 h2=>?_
 clear h1;refine wk ?_;refine kP2.out h2 fun L3 B3 h3=>?_
 clear h2;replace h3:Hid (IxO L3 it L8 l19 B3):=h3;clear kk1;have kk1:Hid (∀ {c:Option Nat} {K:abD},K (nY [1,2]) L3->abC 13 [.ptr it 0,.str [67,78],.sl [.int .i64 1,.str [65,66,67]] 1 c] L3 K):=@hid _ (fun {c K} q=>kL1.out h3 q);have kk2:Hid (∀ {c:Option Nat} {K:abD},K (nY [1]) L3->abC 13 [.ptr it 0,.str [99,110],.sl [.int .i64 1,.str [98,99,100]] 1 c] L3 K):=@hid _ (fun {c K} q=>kL2.out h3 q);have kk3:Hid (∀ {c:Option Nat} {K:abD},K (.bool true) L3->abC 22 [.sl [.int .i64 1,.int .i64 2] 2 none,.sl [.int .i64 1,.int .i64 2] 2 c] L3 K):=@hid _ (fun {c K} q=>kS.out (l:=[1,2]) rfl (by decide) q);have kk4:Hid (∀ {c:Option Nat} {K:abD},K (.bool true) L3->abC 22 [.sl [.int .i64 1] 1 none,.sl [.int .i64 1] 1 c] L3 K):=@hid _ (fun {c K} q=>kS.out (l:=[1]) rfl (by decide) q);clear h3 kL1 kL2 kP1 kP2 kN kS hx hm hy;refine wk ?_;exact aa rfl
theorem Vx (h:K (.bool true) L):abC 9 [] L K:=ZZ S9 h
def Yg (a:List Atr):Prop:=(a.length:Int)<=9223372036854775807/\∀ x∈a,bd x.1/\(x.2.length:Int)<=9223372036854775807
structure Ti (l:List bt):Prop where
 len:(l.length:Int)<=9223372036854775807
 at':∀ e∈l,Yg e.2
 id:∀ e∈l,-9223372036854775808<=e.1/\e.1<=9223372036854775807
structure eZ (L0 L:List Blk) (it rt:Nat) (tm:TMp) (l:List bt) (B:Nat->Prop):Prop where
 ix:IxO L it tm l B
 doc:Zy L rt [.sl (cq aA) aA.length none,.sl Py 9 none] tm l
 tms:TmS aA tm
 ents:∀ e∈l,InA aA e.2/\LZ e.2
 ids:∀ e∈l,-9223372036854775808<=e.1/\e.1<=9223372036854775807
 apart:¬ B rt
 bes:bD (fun _=>False) L0 L
 own:∀ i,B i->L0.length<=i
 rtl:L0.length<=rt
theorem TmS.ixg {tm:TMp} {l:List bt} (h:TmS aA tm) (he:∀ e∈l,InA aA e.2/\LZ e.2):IxG tm l:=⟨h.ok,fun e hm=>by
 obtain ⟨n,_,h2,h3⟩:=h.ty e hm;rw [<- h2];unfold bd at h3 ⊢;rw [KW];exact h3,fun e hm=>(he e hm).2⟩
theorem Rk (x:bt):∀ l:List bt,(gF x l).length=l.length+1
 | []=>rfl
 | e::t=>by
   rw [gF];split
   ·rfl
   ·rw [abR,Rk x t,abR]
theorem Wy (id:Int) (a:List Atr) (l:List bt):(nZ id a l).length<=l.length+1:=by
 unfold nZ;rw [Rk];have:(b9 id l).length<=l.length:=adx _ _;omega
theorem eZ.drop {L0 L L1 L2:List Blk} {it rt:Nat} {tm:TMp} {l l':List bt} {B B':Nat->Prop} (h:eZ L0 L it rt tm l B) (h1:IxO L1 it tm l' B') (b1:bD B L L1) (o1:∀ i,B' i->B i\/L.length<=i) (he:∀ e∈l',InA aA e.2/\LZ e.2) (hi:∀ e∈l',-9223372036854775808<=e.1/\e.1<=9223372036854775807) (hd:Zy L2 rt [.sl (cq aA) aA.length none,.sl Py 9 none] tm l') (b2:bD (fun i=>i=rt) L1 L2):eZ L0 L2 it rt tm l' B':=by
 have hrl:rt<L.length:=by
  obtain ⟨k2,hk⟩:=h.doc;exact (abE.1 hk).1
 have ap:¬ B' rt:=fun e=>by
  rcases o1 rt e with q|q
  ·exact h.apart q
  ·omega
 refine ⟨h1.keep b2 fun i hi e=>ap (by rw [<- e];exact hi),hd,h.tms,he,hi,ap,?_,fun i hi=>?_,h.rtl⟩
 ·refine (h.bes.trans b1 fun i hi e=>?_).trans b2 fun i hi e=>?_
  ·exact absurd (h.own i e) (by omega)
  ·have:=h.rtl;omega
 ·rcases o1 i hi with q|q
  ·exact h.own i q
  ·exact ab7 h.bes.len q
theorem eZ.app {L0 L:List Blk} {it rt:Nat} {tm:TMp} {l:List bt} {B:Nat->Prop} (h:eZ L0 L it rt tm l B) (X:List Blk):eZ L0 (L++X) it rt tm l B:=by
 obtain ⟨k2,hk⟩:=h.doc;exact ⟨h.ix.app X,⟨k2,abz hk⟩,h.tms,h.ents,h.ids,h.apart,h.bes.app2 X,h.own,h.rtl⟩
theorem eZ.base {L0 L0' L:List Blk} {it rt:Nat} {tm:TMp} {l:List bt} {B:Nat->Prop} (h:eZ L0' L it rt tm l B) (hb:bD (fun _=>False) L0 L0'):eZ L0 L it rt tm l B :=
 ⟨h.ix,h.doc,h.tms,h.ents,h.ids,h.apart,hb.trans h.bes (fun _ _ e=>e),fun i hi=>ab7 hb.len (h.own i hi),ab7 hb.len h.rtl⟩
theorem YY {l:List Atr} (hl:Qi l=true) (hz:(rH aA [] l).2=0):InA aA (rH aA [] l).1/\LZ (rH aA [] l).1:=by
 obtain ⟨f1,f2⟩:=TO hl;have hi:=TD (aad aA) hz;obtain ⟨b1,b2⟩:=WZ (ts:=aA) (B:=60) (l:=l) (out:=[]) (i:=0) (by simp) (by simp) (fun a ha=>(f2 a ha).1);refine ⟨hi,by omega,hi.1,fun x hx=>⟨?_,?_⟩⟩
 ·obtain ⟨ty,h1,h2,_⟩:=hi.2 x hx;rw [<- h2];exact jt.2.1 ty (adS h1)
 ·have h1:=b2 x hx;have:60 * (0+l.length)<=60 * 60:=Nat.mul_le_mul_left _ (by omega);omega
theorem W0 {ns:List (List UInt8)} {acts:List bt} {cap capA:Option Nat} (hn:∀ n∈ns,bd n) (hnl:ns.length<=1000) (ha:Ti acts) {L:List Blk} {K:abD}
  (h0:∀ L' b,bD (fun _=>False) L L'->K (.tup [.nilptr,.nilptr,.bool b]) L')
  (h1:∀ L' it rt tm l B,eZ L L' it rt tm l B->l.length<=40->K (.tup [.ptr it 0,.ptr rt 0,.bool true]) L') :
  abC 10 [.sl (ns.map AV.str) ns.length cap,.sl (cn acts) acts.length capA] L K:=by
 obtain ⟨R,hR⟩:=aby (J9 aA [] ns);have hts:=P2 (ts:=aA) (ns:=ns) (TmS.nil _) hn;rw [hR] at hts;obtain ⟨x,hx⟩:=aby (cq aA);obtain ⟨m,hm⟩:=aby (aA.length);obtain ⟨y,hy⟩:=aby (Py);have kk1:Hid (Ctr Tryz.prog 20 [] (.agg [.sl x m none,.sl y 9 none])):=hid fun q=>XK (by rw [hx,hm,hy];exact q)
 have hyf:AV.frzL y=y:=by rw [<- hy];rfl
 have hxf:AV.frzL x=x:=by rw [<- hx];exact oA _
 have kM:∀ l:List Atr,Qi l=true->Yg l->Hid (Ctr Tryz.prog 34 [.agg [.sl x m none,.sl y 9 none],.sl (bq l) l.length none] (.tup [.sl (bq (rH aA [] l).1) (rH aA [] l).1.length none,.int .i64 (rH aA [] l).2])):=fun l hl hr=>@hid _ (fun {L K} q=>by
  obtain ⟨f1,f2⟩:=TO hl;rw [<- hx,<- hm];exact YN jt (by omega) (fun a ha=>⟨(hr.2 a ha).1,by have:=(f2 a ha).1;omega⟩) rfl q)
 have kF:∀ l:List Atr,Yg l->Hid (Ctr Tryz.prog 33 [.sl (bq l) l.length none] (.bool (Qi l))):=fun l hr=>@hid _ (fun {L K} q=>aa9 hr.1 (fun a ha=>(hr.2 a ha).2) q)
 have kN:Hid (∀ {L:List Blk} {K:abD},(∀ L',R.1≠0->bD (fun _=>False) L L'->K (.tup [.nilptr,.int .i64 R.1]) L')->(∀ L' it B,R.1=0->Hid (IxO L' it R.2 [] B/\bD (fun _=>False) L L'/\∀ i,B i->L.length<=i)->K (.tup [.ptr it 0,.int .i64 0]) L')->abC 19 [.agg [.sl x m none,.sl y 9 none],.sl (ns.map AV.str) ns.length cap] L K):=@hid _ (fun {L K} q0 q1=>by
  rw [<- hx,<- hm];exact TG jt.1 jt.2.1 (by omega) hn hR q0 fun L' it B e g1 g2 g3=>q1 L' it B e (hid ⟨g1,g2,g3⟩))
 have kR:Hid (∀ {L:List Blk} {K:abD},(∀ L',R.1≠0->bD (fun _=>False) L L'->K (.tup [.nilptr,.int .i64 R.1]) L')->(∀ L' rt,R.1=0->Hid (Zy L' rt [.sl (cq aA) aA.length none,.sl Py 9 none] R.2 []/\bD (fun _=>False) L L'/\L.length<=rt)->K (.tup [.ptr rt 0,.int .i64 0]) L')->abC 32 [.agg [.sl x m none,.sl y 9 none],.sl (ns.map AV.str) ns.length cap] L K):=@hid _ (fun {L K} q0 q1=>by
  rw [<- hx,<- hm];exact Wl jt.1 jt.2.1 hyf (by omega) hn hR q0 fun L' rt e g1 g2 g3=>q1 L' rt e (hid ⟨by rw [hy];exact g1,g2,g3⟩))
 have hel:=E8 acts;have hat:=hid (fun k (q:k<acts.length)=>Eo q);obtain ⟨ES,hES⟩:=aby (cn acts);rw [hES] at hel hat ⊢;replace h0:=hid h0;replace h1:=hid h1;replace ha:=hid ha;replace hts:=hid hts;obtain ⟨z,tm⟩:=R;simp only at kN kR hts;have hcl:=hid hR;clear hR hn hnl hES;by_cases hz:z=0;rotate_left
 ·have hz1:¬ (z:Int)=0:=hz;refine abB xi ?_;refine kN.out (fun L1 _ u1=>?_) (fun _ _ _ e=>absurd e hz);have hb1:Hid (bD (fun _=>False) L L1/\L1[L.length]?=some (.cells [.sl x m none,.sl y 9 none])):=hid ⟨(bD.app (B:=fun _=>False) L _).trans u1 (fun _ _ e=>e),u1.get (by simp) (fun e=>e)⟩;clear u1;have hx7:=hb1.out.2;refine wk ?_;refine kR.out (fun L2 _ u2=>?_) (fun _ _ e=>absurd e hz);have hb2:Hid (bD (fun _=>False) L L2/\L2[L.length]?=some (.cells [.sl x m none,.sl y 9 none])):=hid ⟨hb1.out.1.trans u2 (fun _ _ e=>e),u2.get hx7 (fun e=>e)⟩;clear u2 hb1 hx7 kN kR L1;refine wk ?_;refine ak (fun n T' L'=>∃ j:Nat,n=acts.length - j/\j<=acts.length/\Hid (bD (fun _=>False) L L'/\L'[L.length]?=some (.cells [.sl x m none,.sl y 9 none]))/\Hid (L2.length<=L'.length)/\T'=[(41,.int .i64 (j:Int)),(40,.int .i64 acts.length),(39,.sl ES acts.length capA),(1,.sl ES acts.length capA),(10,.nilptr),(8,.nilptr),(7,.ptr L.length 0)]) (CutS (b:=abF _)) ⟨0,rfl,abL _,hb2,hid (abF _),rfl⟩ ?_;clear hb2;rintro _ _ L' ⟨j,rfl,hj,hb,hle,rfl⟩;have hx7:=hb.out.2;by_cases hjl:j<acts.length
  ·have hal:=ha.out.len;have j1:(j:Int)<(acts.length:Int):=by omega
   have j2:=abA j (by omega);have e3:=hat.out j hjl;have e4:j * 2+2<=ES.length:=by rw [hel];omega
   obtain ⟨⟨id,av⟩,he⟩:∃ e,acts.getD j (0,[])=e:=⟨_,rfl⟩;have hmem:(id,av)∈acts:=by rw [<- he];simp [hjl]
   have hrd:=ha.out.at' _ hmem;rw [he] at e3;simp only [KY] at e3;have kF1:=@kF av hrd;have aX:∀ X,(L'++X)[L.length]?=some (.cells [.sl x m none,.sl y 9 none]):=fun X=>abz hx7
   have hbb:=hid (fun X=>hb.out.1.app2 X);have h0':=hid (fun b X=>h0.out (L'++X) b (hbb.out X));have hle2:=hle.out;have hnx:Hid (bD (fun _=>False) L (L'++[Blk.cells [.int .i64 id,atV av]])/\(L'++[Blk.cells [.int .i64 id,atV av]])[L.length]?=some (.cells [.sl x m none,.sl y 9 none])):=hid ⟨hbb.out _,aX _⟩;have hnl:Hid (L2.length<=(L'++[Blk.cells [.int .i64 id,atV av]]).length):=hid (by simp;omega);by_cases h40:40<acts.length
   ·have g1:(acts.length:Int) > 40:=by omega
    have g2:(40:Int)<(acts.length:Int):=by omega
    clear hal he hmem hrd kF1 kM kF hnx hnl;refine wk ?_;exact aa (h0'.out _ _)
   have g1:¬ (acts.length:Int) > 40:=by omega
   have g2:¬ (40:Int)<(acts.length:Int):=by omega
   cases hfw:Qi av with
   | false =>
     have kk2:Hid (Ctr Tryz.prog 33 [.sl (bq av) av.length none] (.bool false)):=@hid _ (fun {L K} q=>kF1.out (by rw [hfw];exact q));clear hal he hmem hrd kF1 kM kF hnx hnl hfw;refine wk ?_;exact aa (h0'.out _ _)
   | true =>
     have kk2:Hid (Ctr Tryz.prog 33 [.sl (bq av) av.length none] (.bool true)):=@hid _ (fun {L K} q=>kF1.out (by rw [hfw];exact q));have kM1:=@kM av hfw hrd;obtain ⟨⟨R1,z1⟩,hR1⟩:∃ R,rH aA [] av=R:=⟨_,rfl⟩;rw [hR1] at kM1;have kk3:Hid (Ctr Tryz.prog 34 [.agg [.sl x m none,.sl y 9 none],.sl (bq av) av.length none] (.tup [.sl (bq R1) R1.length none,.int .i64 z1])):=@hid _ (fun {L K} q=>kM1.out q);clear hal he hmem hrd kF1 kM kF hfw kM1 hR1;by_cases hz2:z1=0
     all_goals
      refine wk ?_;exact ai _ _ _ (by omega) (CutL (b:=hnl.out)) ⟨j+1,rfl,hjl,hnx,hnl,rfl⟩
  ·have hje:j=acts.length:=by omega
   subst hje;have j1:¬ (acts.length:Int)<(acts.length:Int):=by omega
   refine wk ?_;exact aa (h0.out _ _ hb.out.1)
 ·subst hz;obtain ⟨L0,hL0⟩:=aby (L++[Blk.cells [.sl x m none,.sl y 9 none]]);have hb0:=hid (show bD (fun _=>False) L L0 by rw [<- hL0];exact bD.app _ _);have hx0:L0[L.length]?=some (.cells [.sl x m none,.sl y 9 none]):=by rw [<- hL0];simp
  replace hL0:=hid hL0;refine abB xi ?_;rw [hL0.out];refine kN.out (fun _ e _=>absurd rfl e) (fun L1 it B _ u1=>?_);have hx1:L1[L.length]?=some (.cells [.sl x m none,.sl y 9 none]):=u1.out.2.1.get hx0 (fun e=>e);refine wk ?_;refine kR.out (fun _ e _=>absurd rfl e) (fun L2 rt _ u2=>?_);have hM0:Hid (eZ L0 L2 it rt tm [] B):=hid (by
   obtain ⟨v1,v2,v3⟩:=u1.out;obtain ⟨w1,w2,w3⟩:=u2.out;refine ⟨v1.keep w2 (fun _ _ e=>e),w1,hts.out,fun e he=>(by cases he),fun e he=>(by cases he),fun e=>?_,v2.trans w2 (fun _ _ e=>e),v3,ab7 v2.len w3⟩;have:=v1.lt e;omega)
  have hx2:L2[L.length]?=some (.cells [.sl x m none,.sl y 9 none]):=u2.out.2.1.get hx1 (fun e=>e);clear u1 u2 hx1 kN kR hts;refine wk ?_;refine ak (fun n T' L'=>∃ (j:Nat) (l:List bt) (B:Nat->Prop),n=acts.length - j/\j<=acts.length/\Hid (eZ L0 L' it rt tm l B/\l.length<=j/\l.length<=40)/\Hid (L2.length<=L'.length)/\T'=[(41,.int .i64 (j:Int)),(40,.int .i64 acts.length),(39,.sl ES acts.length capA),(1,.sl ES acts.length capA),(10,.ptr rt 0),(8,.ptr it 0),(7,.ptr L.length 0)]) (CutS (b:=abF _)) ⟨0,[],B,rfl,abL _,hid ⟨hM0.out,by simp,by simp⟩,hid (abF _),rfl⟩ ?_;clear hM0 hx2;rintro _ _ L' ⟨j,l,B,rfl,hj,hM,hle,rfl⟩;have hx7:L'[L.length]?=some (.cells [.sl x m none,.sl y 9 none]):=hM.out.1.bes.get hx0 (fun e=>e);by_cases hjl:j<acts.length
  ·have hal:=ha.out.len;have j1:(j:Int)<(acts.length:Int):=by omega
   have j2:=abA j (by omega);have e3:=hat.out j hjl;have e4:j * 2+2<=ES.length:=by rw [hel];omega
   obtain ⟨⟨id,av⟩,he⟩:∃ e,acts.getD j (0,[])=e:=⟨_,rfl⟩;have hmem:(id,av)∈acts:=by rw [<- he];simp [hjl]
   have hrd:=ha.out.at' _ hmem;have hidr:=ha.out.id _ hmem;simp only at hidr;rw [he] at e3;simp only [KY] at e3;have kF1:=@kF av hrd;have aX:∀ X,(L'++X)[L.length]?=some (.cells [.sl x m none,.sl y 9 none]):=fun X=>abz hx7
   have hle2:=hle.out;by_cases h40:40<acts.length
   ·have g1:(acts.length:Int) > 40:=by omega
    have g2:(40:Int)<(acts.length:Int):=by omega
    have h0':=hid (fun b X=>h0.out (L'++X) b ((hb0.out.trans hM.out.1.bes (fun _ _ e=>e)).app2 X));clear hal he hmem hrd kF1 kM kF hM;refine wk ?_;exact aa (h0'.out _ _)
   have g1:¬ (acts.length:Int) > 40:=by omega
   have g2:¬ (40:Int)<(acts.length:Int):=by omega
   cases hfw:Qi av with
   | false =>
     have kk2:Hid (Ctr Tryz.prog 33 [.sl (bq av) av.length none] (.bool false)):=@hid _ (fun {L K} q=>kF1.out (by rw [hfw];exact q));have h0':=hid (fun b X=>h0.out (L'++X) b ((hb0.out.trans hM.out.1.bes (fun _ _ e=>e)).app2 X));clear hal he hmem hrd kF1 kM kF hfw hM;refine wk ?_;exact aa (h0'.out _ _)
   | true =>
     have kk2:Hid (Ctr Tryz.prog 33 [.sl (bq av) av.length none] (.bool true)):=@hid _ (fun {L K} q=>kF1.out (by rw [hfw];exact q));have kM1:=@kM av hfw hrd;have hmk:=hid (fun hz=>YY hfw hz);obtain ⟨⟨R1,z1⟩,hR1⟩:∃ R,rH aA [] av=R:=⟨_,rfl⟩;rw [hR1] at kM1 hmk;simp only at hmk;have kk3:Hid (Ctr Tryz.prog 34 [.agg [.sl x m none,.sl y 9 none],.sl (bq av) av.length none] (.tup [.sl (bq R1) R1.length none,.int .i64 z1])):=@hid _ (fun {L K} q=>kM1.out q);have hMA:=hid (hM.out.1.app [.cells [.int .i64 id,atV av]]);have hM3:=hid (fun i (hi:B i)=>hM.out.1.ix.lt hi);have hln:=hid hM.out.2;replace hidr:=hid hidr;have hj40:j<40:=by omega
     clear he hmem hrd kF1 kM kF hfw kM1 hR1 hM;by_cases hz2:z1=0;rotate_left
     ·have hnl:Hid (L2.length<=(L'++[Blk.cells [.int .i64 id,atV av]]).length):=hid (by simp;omega);have hnx:Hid (eZ L0 (L'++[Blk.cells [.int .i64 id,atV av]]) it rt tm l B/\l.length<=j+1/\l.length<=40):=hid ⟨hMA.out,by have:=hln.out;omega,hln.out.2⟩;clear hMA hln hmk;refine wk ?_;exact ai _ _ _ (by omega) (CutL (b:=hnl.out)) ⟨j+1,l,B,rfl,hjl,hnx,hnl,rfl⟩
     subst hz2;have hz0:(0:Int)=0:=rfl;by_cases hav:av=[]
     ·have hv1:(av.length:Int)=0:=by rw [hav];rfl
      replace hav:=hid hav;refine wk ?_;refine Rf hMA.out.ix (hMA.out.tms.ixg hMA.out.ents) fun L3 B3 g3 g4 g5=>?_
      obtain ⟨k2,hk⟩:=hMA.out.doc;have hk3:=hid (g4.get hk hMA.out.apart);have hD3:=hid (show _/\_/\_ from ⟨g3,g4,g5⟩);clear g3 g4 g5 hk;have hbx:L3[L'.length]?=some (.cells [.int .i64 id,atV av]):=hD3.out.2.1.get (by simp) fun e=>by have:=hM3.out _ e;omega
      refine wk ?_;refine OY (by have:=hln.out;omega) hk3.out (by simp only [AV.frz,oA]) (by simp only [AV.frz];rfl) (by simp only [AV.frz,dD]) fun L4 k q1 q2=>?_
      have hnx:Hid (eZ L0 L4 it rt tm (b9 id l) B3/\(b9 id l).length<=j+1/\(b9 id l).length<=40):=hid ⟨hMA.out.drop hD3.out.1 hD3.out.2.1 hD3.out.2.2 (fun e he=>hMA.out.ents e (dS.1 he).1) (fun e he=>hMA.out.ids e (dS.1 he).1) ⟨_,q1⟩ q2,by
       have:=adx (fun e:bt=>decide (e.1≠id)) l;have h2:=hln.out;unfold b9;omega⟩
      have hnl:Hid (L2.length<=L4.length):=hid (by
       have h3:=hD3.out.2.1.len;have h4:=q2.len;simp at h3;omega)
      clear hMA hD3 hk3 q1 q2 hmk hln;refine wk ?_;exact ai _ _ _ (by omega) (CutL (b:=hnl.out)) ⟨j+1,_,_,rfl,hjl,hnx,hnl,rfl⟩
     ·have hv1:¬ (av.length:Int)=0:=fun e=>hav (ack.1 (by omega))
      obtain ⟨hRi,hRo⟩:=hmk.out rfl;replace hRi:=hid hRi;replace hRo:=hid hRo;refine wk ?_;refine TF hMA.out.ix (hMA.out.tms.ixg hMA.out.ents) hRo.out fun L3 B3 g3 g4 g5=>?_
      obtain ⟨k2,hk⟩:=hMA.out.doc;have hk3:=hid (g4.get hk hMA.out.apart);have hD3:=hid (show _/\_/\_ from ⟨g3,g4,g5⟩);clear g3 g4 g5 hk;have hbx:L3[L'.length]?=some (.cells [.int .i64 id,atV av]):=hD3.out.2.1.get (by simp) fun e=>by have:=hM3.out _ e;omega
      refine wk ?_;refine Wh (by have:=hln.out;omega) hk3.out (by simp only [AV.frz,oA]) (by simp only [AV.frz];rfl) (by simp only [AV.frz,dD]) hRo.out.len (fun a ha=>(hRo.out.sz a ha).2) fun L4 k q1 q2=>?_
      have hnx:Hid (eZ L0 L4 it rt tm (nZ id R1 l) B3/\(nZ id R1 l).length<=j+1/\(nZ id R1 l).length<=40):=hid ⟨hMA.out.drop hD3.out.1 hD3.out.2.1 hD3.out.2.2 (fun e he=>by
        rcases ff.1 he with rfl|⟨h,_⟩
        ·exact ⟨hRi.out,hRo.out⟩
        ·exact hMA.out.ents e h) (fun e he=>by
        rcases ff.1 he with rfl|⟨h,_⟩
        ·exact hidr.out
        ·exact hMA.out.ids e h) ⟨_,q1⟩ q2,by
       have:=Wy id R1 l;have h2:=hln.out;omega⟩
      have hnl:Hid (L2.length<=L4.length):=hid (by
       have h3:=hD3.out.2.1.len;have h4:=q2.len;simp at h3;omega)
      clear hMA hD3 hk3 q1 q2 hmk hln hRi hRo;refine wk ?_;exact ai _ _ _ (by omega) (CutL (b:=hnl.out)) ⟨j+1,_,_,rfl,hjl,hnx,hnl,rfl⟩
  ·have hje:j=acts.length:=by omega
   subst hje;have j1:¬ (acts.length:Int)<(acts.length:Int):=by omega
   have hfin:=hid (h1.out _ _ _ _ _ _ (hM.out.1.base hb0.out) hM.out.2.2);clear hM;refine wk ?_;exact aa hfin.out
end Go.Proofs.YtcmfcpjnhephaaaGreatDoor.Av
set_option maxRecDepth 100000
namespace Go.Proofs.YtcmfcpjnhephaaaGreatDoor.Av
open Go
def u6:LSO:=[A3 1 0,Ab 2 0]
def u0:LSO:=[As 6 5 1,o1 7 (.call 94 [(tm 6),(iv 1),(iv 0)]),Aa 5 7,Ar 8 5,Aw 9 5,Aa 3 8,Aa 4 9]
def uZ:LSO:=[Aa 10 3,Aa 2 10]
def oj:be:=⟨11,(.seq (.sreg u6 [])
 (.seq (.sreg u0 [false,true,false,false,false,false,false])
 (.seq (.sreg uZ Ch)
 .ret))),[(.tmp 2)]⟩
attribute [push_cast] u6 u0 uZ
theorem K6:br Tryz.prog (fun _ _=>1) 46=some oj.raw:=by kernel_rfl
def uY:LSO:=[A3 3 0,Ab 6 0,Ab 7 0]
def uX:LSO:=[Aa 16 2,Ah 17 16 1,Aa 2 17]
def uW:LSO:=[Aa 18 1,A0 19 18 64]
def uV:LSO:=[Aa 20 2,Ab 6 6,Aa 7 20]
def uU:LSO:=[Aa 21 2,A0 22 21 1000]
def uT:LSO:=[Aa 23 2,Ab 6 9,Aa 7 23]
def uS:LSO:=[Ad 24 0 3,Ac 25 1 24,AK 26 25 0,Aa 27 26,.grp none 27 false
 [AJ 28 27 0 3,AB 29 27 1 28,A8 30 27 29 8]
 31 (tm 30)]
def uR:LSO:=[Aa 32 2,Ab 6 24,Aa 7 32]
def uQ:LSO:=[Ad 33 0 3,Ac 34 1 33,AK 35 34 3]
def uP:LSO:=[Ad 36 0 3,Ac 37 1 36,Au 38 37 2,Aa 39 38,.grp none 39 true
 [AT 40 39 4 3,AN 41 39 1 40,Bu 42 39 41,BT 43 39 42 1]
 44 (tm 43)]
def p6:LSO:=[Aa 45 2,Ab 6 2,Aa 7 45]
def p5:LSO:=[Ad 46 4 3,Ac 47 1 46,Ai 48 47,Ab 49 0]
def p0:LSO:=[Aj 50 49 48]
def pZ:LSO:=[Aa 51 49,Aa 8 51]
def pY:LSO:=[Ad 53 4 3,Ac 54 1 53,Aa 55 8,Am 56 5 54 55,As 57 5 56,Aa 58 1,Ah 59 58 1,Aa 60 2,AI 61 94 57 59 60,Aa 52 61,Ar 62 52,Aw 63 52,Aa 9 62,Aa 10 63]
def pX:LSO:=[Aa 64 10,Aa 2 64]
def pW:LSO:=[Aa 65 9,AC 66 65 0]
def pV:LSO:=[Aa 67 9,Aa 68 2,Aa 6 67,Aa 7 68]
def pU:LSO:=[Ah 69 49 1,Aa 49 69]
def pT:LSO:=[Aa 70 2,Ab 6 0,Aa 7 70]
def pS:LSO:=[Ad 71 1 3,Ac 72 1 71,Ak 73 134 72,Az 74 73]
def pR:LSO:=[Aa 75 2,Ab 6 20,Aa 7 75]
def pQ:LSO:=[Ad 76 0 3,Ac 77 1 76,Au 78 77 4]
def pP:LSO:=[Ad 79 3 3,Ac 80 1 79,Ai 81 80,A0 82 81 0,Aa 11 82]
def pO:LSO:=[Ad 83 3 3,Ac 84 1 83,Ai 85 84,Ab 86 0]
def pN:LSO:=[Aj 87 86 85]
def pM:LSO:=[Aa 88 86,Am 89 2 84 86,As 90 2 89,BI 13,Aa 12 88,Ao 2 13 90]
def pL:LSO:=[Aa 91 12,Au 92 91 0,Aa 14 92]
def pK:LSO:=[Aa 93 12,Ah 94 93 1,Ad 95 3 3,Ac 96 1 95,Ai 97 96,A9 98 94 97,Aa 15 98]
def pJ:LSO:=[Aa 99 11,Aa 100 99,.grp none 100 true
 [AT 101 100 1 13,AN 102 100 1 101,og 103 100 true (.bin .neq (tm 102) (.av (.str [])))]
 104 (tm 103),Aa 105 104,.grp none 105 true
 [AT 106 105 0 13,AN 107 105 1 106,Bp 108 105 107 1,Af 109 105 108,.grp (some (105,true)) 109 false
 [AJ 110 109 0 13,AB 111 109 1 110,AA 112 109 111 0,Ag 113 109 112,.grp (some (109,false)) 113 true
 [Af 114 113 14]
 115 (tm 114)]
 116 (tm 115),Af 117 105 116,.grp (some (105,true)) 117 false
 [AJ 118 117 0 13,AB 119 117 1 118,AA 120 117 119 2,Ag 121 117 120,.grp (some (117,false)) 121 true
 [Af 122 121 15]
 123 (tm 122)]
 124 (tm 123)]
 125 (tm 124),Aa 11 125]
def pI:LSO:=[Ah 126 86 1,Aa 86 126]
def pH:LSO:=[Aa 127 11,Az 128 127]
def pG:LSO:=[Aa 129 2,Ab 6 4,Aa 7 129]
def pF:LSO:=[Aa 130 2,Ab 6 0,Aa 7 130]
def oi:be:=⟨131,(.seq (.sreg uY [])
 (.seq (.sreg uX Ci)
 (.seq (.seq (.sreg uW Ch)
 (.cond (tm 19) (.seq (.sreg uV Cm)
 .ret)
 .skip))
 (.seq (.seq (.sreg uU Ch)
 (.cond (tm 22) (.seq (.sreg uT Cm)
 .ret)
 .skip))
 (.seq (.seq (.sreg uS Ck)
 (.cond (tm 31) (.seq (.sreg uR Cm)
 .ret)
 .skip))
 (.seq (.seq (.sreg uQ Ci)
 (.cond (tm 35) (.seq (.seq (.sreg uP Ck)
 (.cond (tm 44) (.seq (.sreg p6 Cm)
 .ret)
 .skip))
 (.seq (.seq (.sreg p5 Cs)
 (.block 0 (.loop (.seq (.sreg p0 [])
 (.seq (.cond (tm 50) .skip
 (.exit 0))
 (.seq (.block 1 (.seq (.sreg pZ Ch)
 (.seq (.sreg pY [true,true,false,false,false,false,false,false,false,false,false,false,false,false])
 (.seq (.sreg pX Ch)
 (.seq (.sreg pW Ch)
 (.cond (tm 66) (.seq (.sreg pV Cs)
 .ret)
 .skip))))))
 (.sreg pU Ch)))))))
 (.seq (.sreg pT Cm)
 .ret)))
 .skip))
 (.seq (.seq (.sreg pS Cj)
 (.cond (tm 74) (.seq (.sreg pR Cm)
 .ret)
 .skip))
 (.seq (.seq (.sreg pQ Ci)
 (.cond (tm 78) (.seq (.sreg pP Ck)
 (.seq (.seq (.sreg pO Cx)
 (.block 2 (.loop (.seq (.sreg pN [])
 (.seq (.cond (tm 87) .skip
 (.exit 2))
 (.seq (.block 3 (.seq (.sreg pM Cp)
 (.seq (.sreg pL Ci)
 (.seq (.sreg pK Co)
 (.sreg pJ Cl)))))
 (.sreg pI Ch)))))))
 (.seq (.sreg pH Ch)
 (.cond (tm 128) (.seq (.sreg pG Cm)
 .ret)
 .skip))))
 .skip))
 (.seq (.sreg pF Cm)
 .ret))))))))),[(.tmp 6),(.tmp 7)]⟩
attribute [push_cast] uY uX uW uV uU uT uS uR uQ uP p6 p5 p0 pZ pY pX pW pV pU pT pS pR pQ pP pO pN pM pL pK pJ pI pH pG pF
theorem K5:br Tryz.prog (fun _ _=>1) 94=some oi.raw:=by kernel_rfl
def za:LSO:=[Ae 4]
def y9:LSO:=[Aa 7 1,Ai 8 7,Au 9 8 0]
def y8:LSO:=[Ax 4]
def y7:LSO:=[Aa 10 1,o1 11 (.iaddr 2 (tm 10) (iv 0)),Ad 12 1 11,Ac 13 1 12,Aa 5 13]
def y6:LSO:=[Ab 6 0]
def y5:LSO:=[Aa 14 6,Aa 15 5,Ap 16 15,AE 17 14 16,Aa 18 0,Ap 19 18,B6 20 17 19]
def y0:LSO:=[Aa 23 0,Aa 24 6,Aa 25 6,Aa 26 5,Ap 27 26,AE 28 25 27,Br 29 23 24 28,Aa 30 5,Bm 31 29 30,Aa 32 31,.grp none 32 false
 [Ag 33 32 1,og 34 32 false (.iaddr 2 (tm 33) (iv 0)),AJ 35 32 0 34,AB 36 32 1 35,AA 37 32 36 0,Ag 38 32 37,.grp (some (32,false)) 38 true
 [Af 39 38 6,og 40 38 true (.bin .gtr (tm 39) (iv 0))]
 41 (tm 40)]
 42 (tm 41),Aa 43 42,.grp none 43 false
 [Ag 44 43 1,og 45 43 false (.iaddr 2 (tm 44) (iv 0)),AJ 46 43 0 45,AB 47 43 1 46,AA 48 43 47 2,Ag 49 43 48,.grp (some (43,false)) 49 true
 [Af 50 49 6,Af 51 49 5,BB 52 49 51,Cd 53 49 50 52,Af 54 49 0,BB 55 49 54,Ce 56 49 53 55]
 57 (tm 56)]
 58 (tm 57)]
def yZ:LSO:=[Aa 59 0,Aa 60 6,Aa 61 5,Ap 62 61,AE 63 60 62,BA 64 59 63,Aa 65 1,o1 66 (.slV 2 (tm 65) (some (iv 1)) none none),Aq 67 47 64 66]
def yY:LSO:=[Ax 4]
def yX:LSO:=[Aa 68 1,o1 69 (.iaddr 2 (tm 68) (iv 0)),Ad 70 0 69,Ac 71 1 70,Au 72 71 1]
def ul:LSO:=[Ae 4]
def uk:LSO:=[Aa 21 6,Ah 22 21 1,Aa 6 22]
def uj:LSO:=[Ae 4]
def gM:be:=⟨73,(.seq (.sreg za [])
 (.seq (.seq (.sreg y9 Ci)
 (.cond (tm 9) (.seq (.sreg y8 [])
 .ret)
 .skip))
 (.seq (.sreg y7 Ck)
 (.seq (.seq (.sreg y6 [])
 (.block 0 (.loop (.seq (.seq (.sreg y5 Co)
 (.cond (tm 20) .skip
 (.exit 0)))
 (.seq (.block 1 (.seq (.seq (.sreg y0 [true,false,false,false,false,false,false,false,false,false,false,false,false])
 (.cond (tm 58) (.exit 1)
 .skip))
 (.seq (.seq (.sdreg yZ [.pure,.pure,.pure,(.read 0 0),.pure,(.read 0 0),.pure,(.read 0 0)] Cu)
 (.cond (tm 67) (.seq (.sreg yY [])
 .ret)
 .skip))
 (.seq (.sreg yX Ck)
 (.cond (tm 72) (.seq (.sreg ul [])
 .ret)
 .skip)))))
 (.sreg uk Ci))))))
 (.seq (.sreg uj [])
 .ret))))),[(.tmp 4)]⟩
attribute [push_cast] za y9 y8 y7 y6 y5 y0 yZ yY yX ul uk uj
theorem xh:br Tryz.prog (fun _ _=>1) 47=some gM.raw:=by kernel_rfl
def zw:LSO:=[Ae 6,Ae 7]
def zu:LSO:=[Aa 14 0,Aa 15 1,Aq 16 45 14 15,Aa 13 16,Ar 17 13,Aw 18 13,Aa 8 17,Aa 9 18]
def zt:LSO:=[Aa 19 9,Az 20 19,Aa 21 20,.grp none 21 false
 [Ag 22 21 0,BR 23 21 22 1]
 24 (tm 23),Aa 25 24,.grp none 25 false
 [Ag 26 25 0,A8 27 25 26 3]
 28 (tm 27),Aa 29 28,.grp none 29 false
 [Ag 30 29 2,og 31 29 false (.build [(.int .i64 0),(.str []),(.str []),(.sl [] 0 (some 0)),(.sl [] 0 (some 0))] [(0,(1,(iv 4))),(1,(1,(.av (.str [97])))),(3,(1,(tm 30)))]),
 AL 32 29 46 31,og 33 29 false (.bin .neq (tm 32) (iv 0))]
 34 (tm 33)]
def zr:LSO:=[Ae 6,Ae 7]
def zq:LSO:=[Al 10]
def zp:LSO:=[Aa 35 2,Ai 36 35,Ab 37 0]
def zo:LSO:=[Aj 38 37 36]
def zn:LSO:=[Am 39 2 35 37,As 40 2 39,BI 12,Ao 2 12 40]
def zm:LSO:=[Aa 41 0,AC 42 41 2]
def zl:LSO:=[Ad 43 1 12,Ac 44 1 43,Ak 45 39 44,Ad 46 1 12,Ao 1 46 45]
def uO:LSO:=[Aa 47 10,As 48 2 12,o1 49 (.bslice false 2 1 [(.int .i64 0),(.str [])] [(0,(2,(tm 48)))]),o1 50 (.app 1 2 24 [(.int .i64 0),(.str [])] (tm 47) (tm 49)),
 Aa 10 50]
def uN:LSO:=[Ah 51 37 1,Aa 37 51]
def uM:LSO:=[Aa 52 8,Aa 53 10,Aq 54 47 52 53,Aa 6 54,Ax 7]
def sM:be:=⟨55,(.seq (.sreg zw [])
 (.seq (.sreg zu Ct)
 (.seq (.seq (.sreg zt Cr)
 (.cond (tm 34) (.seq (.sreg zr [])
 .ret)
 .skip))
 (.seq (.sreg zq [])
 (.seq (.seq (.sreg zp [])
 (.block 0 (.loop (.seq (.sreg zo [])
 (.seq (.cond (tm 38) .skip
 (.exit 0))
 (.seq (.block 1 (.seq (.sreg zn Ci)
 (.seq (.seq (.sreg zm Ch)
 (.cond (tm 42) (.sreg zl Cy)
 .skip))
 (.sreg uO Ck))))
 (.sreg uN Ch)))))))
 (.seq (.sreg uM Cp)
 .ret)))))),[(.tmp 6),(.tmp 7)]⟩
attribute [push_cast] zw zu zt zr zq zp zo zn zm zl uO uN uM
theorem Mj:br Tryz.prog (fun _ _=>1) 16=some sM.raw:=by kernel_rfl
attribute [push_cast] oj oi gM sM
end Go.Proofs.YtcmfcpjnhephaaaGreatDoor.Av
