/- Joined texts of the walk, made small by a program. -/
import Derived.Test.YtigifoeopopnbaaGreatDoorQk21
import Derived.Test.YtigifoeopopnbaaGreatDoorQk23
import Derived.Test.YtigifoeopopnbaaGreatDoorQk18
import Derived.Test.YtigifoeopopnbaaGreatDoorQk17
import Derived.Test.YtigifoeopopnbaaGreatDoorQk20
import Derived.Test.YtigifoeopopnbaaGreatDoorQk19
import Derived.Test.YtigifoeopopnbaaGreatDoorQk12
import Derived.Test.YtigifoeopopnbaaGreatDoorQk8
set_option linter.unusedSimpArgs false
set_option linter.unusedVariables false
namespace Go.Proofs.YtigifoeopopnbaaGreatDoor.Av
open Go
variable {L:List Blk} {K:aef}
set_option maxHeartbeats 8000000
set_option maxRecDepth 100000
theorem W1 {ts:List Typ} {capT:Option Nat} {c2:List AV} {n2:Nat} {cap2:Option Nat} {t v:List UInt8} (hts:LI ts) (ht:am t) (h:K (.int .i64 (DC ts t v)) L) :
  aee 27 [.agg [.sl (aW ts) ts.length capT,.sl c2 n2 cap2],.agg [.str t,.str v]] L K:=by
 unfold DC at h;have kk1:Hid (Ctr Tryz.prog 51 [.agg [.sl (aW ts) ts.length capT,.sl c2 n2 cap2],.str t] (oH (ef ts t))):=@hid _ (by intro L K q;exact TF hts.1 hts.2.1 ht q);rcases hty:ef ts t with _|⟨y1,y2,y3,y4⟩
 ·rw [hty] at h kk1;simp only [oH,afV,aga,tyC] at h kk1;replace h:=hid h;clear hty;refine aed jx ?_;exact ab rfl h.out
 ·rw [hty] at h kk1;simp only [oH,aeP,age,tyC] at h kk1;have kk2:Hid (Ctr Tryz.prog 52 [.int .i64 y2,.str v] (gj (ci y2 v))):=@hid _ (by intro L K q;exact jq q);rcases hn:ci y2 v with _|m
  ·rw [hn] at h kk2;have h':K (.int .i64 21) L:=h;replace h':=hid h';simp only [gj] at kk2;clear hty hn h;refine aed jx ?_;exact ab rfl h'.out
  ·rw [hn] at h kk2;have h':K (.int .i64 0) L:=h;replace h':=hid h';simp only [gj] at kk2;clear hty hn h;refine aed jx ?_;exact ab rfl h'.out
theorem Y8 {ts:List Typ} {capT:Option Nat} {c2:List AV} {n2:Nat} {cap2:Option Nat} {t v:List UInt8} (hts:LI ts) (ht:am t) (h:K (.int .i64 (DC ts t v)) L) :
  aee 34 [.agg [.sl (aW ts) ts.length capT,.sl c2 n2 cap2],.agg [.str t,.str v]] L K:=by
 unfold DC at h;obtain ⟨S,hS⟩:=aea (AV.sl c2 n2 cap2);have hso:S.one=true:=by rw [<- hS];rfl
 rw [hS];replace h:=hid h;refine aed Ov ?_;refine adi hts.1 hts.2.1 ht (fun hty=>?_) (fun k hk hty=>?_)
 ·rw [hty] at h;refine sk ?_;refine wk ?_;exact ab rfl h.out
 ·rw [hty] at h;simp only at h;have e5:=ik hk;have eg:(aW ts).getD (k * 4+1) .undef=.int .i64 (ts.getD k gk).2.1:=by
   have h3:=congrArg (fun l=>l[1]?) e5;simp only [ae1 (show 1<4 by omega),aeZ] at h3;rw [aew,h3];rfl
  have e6:k * 4+1<(aW ts).length:=by rw [gG];omega
  have e7:k * 4<(aW ts).length:=by omega
  have g1:¬ (k:Int)<0:=by omega
  have g2:(k:Int)<(ts.length:Int):=by omega
  obtain ⟨syn,hsyn⟩:=aea ((ts.getD k gk).2.1);rw [hsyn] at eg h;have kk1:Hid (Ctr Tryz.prog 38 [.int .i64 syn,.str v] (gj (ci syn v))):=@hid _ (by intro L K q;exact mU q);rcases hn:ci syn v with _|m
  ·rw [hn] at h kk1;have h':K (.int .i64 21) L:=h.out;replace h':=hid h';simp only [gj] at kk1;clear hty hn h hsyn e5;refine sk ?_;refine wk ?_;exact ab rfl h'.out
  ·rw [hn] at h kk1;have h':K (.int .i64 0) L:=h.out;replace h':=hid h';simp only [gj] at kk1;clear hty hn h hsyn e5;refine sk ?_;refine wk ?_;exact ab rfl h'.out
theorem Zu:aa [111,98,106,101,99,116,67,108,97,115,115]=aa ocS:=by kernel_rfl
theorem LV (v:List (List UInt8)):(RU v).length<=v.length:=by
 have:∀ (v l:List (List UInt8)),(v.foldl oK l).length<=l.length+v.length:=fun v=>by
  induction v with
  | nil=>intro l;simp
  | cons x v ih =>
    intro l;rw [afq];have h1:=ih (oK l x);have h2:=Uu l x;simp only [aet];omega
 simpa [RU] using this v []
theorem Yf (s:List UInt8):(aa s).length=s.length:=by simp [aa]
theorem Pk {cs:List Cls} (hc:ue cs) {ns:List (List UInt8)}:∀ t∈gl cs ns,am t:=fun t ht=>by
 obtain ⟨n,_,h⟩:=List.mem_flatMap.1 (LU.1 ht);obtain ⟨c,hcm,h⟩:=List.mem_flatMap.1 h;obtain ⟨s,hs,rfl⟩:=aey.1 h;have:=(hc.r c (Qg hc.d hcm).1).2.2.2.2.1 s hs;unfold am at this ⊢;rw [Yf];exact this
structure Pv (ts:List Typ) (l:List Atr):Prop where
 i:InA ts l
 n:l.length<=9000
 v:∀ a∈l,a.2.length<=9000
theorem VV {syn:Int} {v:List UInt8} (h:(ci syn v).isSome=true):v.length<=4096:=by
 unfold ci at h;split at h
 ·cases h
 ·omega
theorem aaZ {l:List Atr} {n v:List UInt8} (h:v∈bu l n):∃ a∈l,v∈a.2:=by
 induction l with
 | nil=>cases h
 | cons a l ih =>
   rw [bu] at h;split at h
   ·exact ⟨a,by simp,h⟩
   ·obtain ⟨b,hb,hv⟩:=ih h;exact ⟨b,by simp [hb],hv⟩
theorem Pv.vals {ts:List Typ} {l:List Atr} (h:Pv ts l) (n:List UInt8):(bu l n).length<=9000/\∀ v∈bu l n,am v:=by
 refine ⟨Ql h.v,fun v hv=>?_⟩;obtain ⟨a,ha,hv⟩:=aaZ hv;obtain ⟨ty,_,_,_,h4,_⟩:=h.i.2 a ha;have:=VV (h4.2 v hv);unfold am;omega
theorem U4 {ts:List Typ} {cs:List Cls} {capT capC cap capR:Option Nat} {rdn:List Ava} {l:List Atr} (hts:LI ts) (hc:ue cs) (hf:Pv ts l) (hrl:rdn.length<=9000) (hr:∀ a∈rdn,am a.1) (h:K (.int .i64 (TE ts cs rdn l)) L) :
  aee 9 [.agg [.sl (aW ts) ts.length capT,.sl (bE cs) cs.length capC],.sl (aH rdn) rdn.length capR,.sl (bh l) l.length cap] L K:=by
 obtain ⟨SV,hSV⟩:=aea (bu l ocS);have hvs:=hf.vals ocS;rw [hSV] at hvs;have hreach:∀ a∈l,am a.1:=fun a ha=>(Ig hts hf.i ha).1
 have kG:Hid (∀ (n:List UInt8),am n->∀ {L:List Blk} {K:aef},K (iI (bu l n)) L->aee 22 [.sl (bh l) l.length cap,.str n] L K):=hid (by intro n hn L K q;exact ac9 (by have:=hf.n;omega) hf.i.1 (fun a ha=>⟨hreach a ha,by have:=hf.v a ha;omega⟩) hn q);have kk1:Hid (Ctr Tryz.prog 22 [.sl (bh l) l.length cap,.str [111,98,106,101,99,116,67,108,97,115,115]] (iI SV)):=@hid _ (by intro L K q;exact kG.out _ (by unfold am;decide) (by rw [Qm Zu,hSV];exact q));obtain ⟨S,hS⟩:=aea (AV.agg [.sl (aW ts) ts.length capT,.sl (bE cs) cs.length capC]);have kk2:Hid (∀ {c:Option Nat} {L:List Blk} {K:aef},K (RZ (Lh cs SV)) L->aee 23 [.agg [.sl (aW ts) ts.length capT,.sl (bE cs) cs.length capC],.sl (SV.map AV.str) SV.length c] L K):=@hid _ (by intro c L K q;exact ZK hc hvs.1 hvs.2 q);have kk3:Hid (∀ {c:Option Nat} {L:List Blk} {K:aef},K (.tup [.sl ((gl cs SV).map AV.str) (gl cs SV).length none,.sl ((oL cs SV).map AV.str) (oL cs SV).length none]) L->aee 24 [.agg [.sl (aW ts) ts.length capT,.sl (bE cs) cs.length capC],.sl (SV.map AV.str) SV.length c] L K):=@hid _ (by intro c L K q;exact aaX hc hvs.1 hvs.2 q);have kN:Hid (∀ (t v:List UInt8),am t->∀ {L:List Blk} {K:aef},K (.int .i64 (DC ts t v)) L->aee 27 [.agg [.sl (aW ts) ts.length capT,.sl (bE cs) cs.length capC],.agg [.str t,.str v]] L K):=hid (by intro t v ht L K q;exact W1 hts ht q);have kHs:Hid (∀ (t v:List UInt8),am t->∀ {L:List Blk} {K:aef},K (.bool (HD ts l t v)) L->aee 28 [.agg [.sl (aW ts) ts.length capT,.sl (bE cs) cs.length capC],.sl (bh l) l.length cap,.str t,.str v] L K):=hid (by intro t v ht L K q;exact aae hts hf.i (by have:=hf.n;omega) (fun a ha=>by have:=hf.v a ha;omega) ht q);unfold TE at h;rw [hSV] at h;have hml:=If hc (ns:=SV) hvs.1;have hmul:(gl cs SV).length<=1000000000000:=aeM (LV _) hml.1;have hmal:(oL cs SV).length<=1000000000000:=aeM (agK _ _) (aeM (LV _) hml.2);have hmr:=Pk hc (ns:=SV);obtain ⟨MU,hMU⟩:=aea (gl cs SV);obtain ⟨MA,hMA⟩:=aea (oL cs SV);rw [hMU] at hmul hmr kk3 h;rw [hMA] at hmal kk3 h;have hat:=hid (fun k (q:k<l.length)=>iH (l:=l) q)
 have hatl:=fZ l;obtain ⟨LA,hLA⟩:=aea (bh l);rw [hLA] at hat hatl kG kk1 kHs ⊢;have hrt:=hid (fun k (q:k<rdn.length)=>dc (r:=rdn) q);have hrtl:=bW rdn;obtain ⟨RA,hRA⟩:=aea (aH rdn);rw [hRA] at hrt hrtl ⊢;have hll:=hf.n;obtain ⟨TA,hTA⟩:=aea (AV.sl (aW ts) ts.length capT);obtain ⟨CA,hCA⟩:=aea (AV.sl (bE cs) cs.length capC);have hto:TA.one=true:=by rw [<- hTA];rfl
 have hco:CA.one=true:=by rw [<- hCA];rfl
 rw [hTA,hCA] at kk2 kk3 kN kHs ⊢;obtain ⟨kn,hkn⟩:=aea (Lh cs SV);rw [hkn] at kk2 h;simp only [iI] at kk1 kG;replace hmr:=hid hmr;replace hreach:=hid hreach;replace hr:=hid hr;clear hSV hvs hS hml hMU hMA hLA hRA hTA hCA hkn S hf hts hc;cases kn with
 | none =>
   simp only [RZ,afV,aga] at kk2;replace h:=hid h;refine aed Dx ?_;exact ab rfl h.out
 | some kn =>
 simp only [RZ,aeP,age] at kk2 h;replace h:=hid h;have hMg:=hid (fun k (q:k<MU.length)=>DI q);have hMl:(MU.map AV.str).length=MU.length:=by simp
 have kCu:Hid (∀ (s:List UInt8) {c:Option Nat} {L:List Blk} {K:aef},K (.bool (MU.contains s)) L->aee 26 [.sl (MU.map AV.str) MU.length c,.str s] L K):=hid (by intro s c L K q;exact Ln hmul q);have kCa:Hid (∀ (s:List UInt8) {c:Option Nat} {L:List Blk} {K:aef},K (.bool (MA.contains s)) L->aee 26 [.sl (MA.map AV.str) MA.length c,.str s] L K):=hid (by intro s c L K q;exact Ln hmal q);obtain ⟨DU,hDU⟩:=aea (MU.map AV.str);obtain ⟨DA,hDA⟩:=aea (MA.map AV.str);rw [hDU] at kCu hMg hMl kk3;rw [hDA] at kCa kk3;clear hDU hDA;refine aed Dx ?_;clear kk1 kk2 kk3;refine ai (fun z T' L'=>∃ j:Nat,z=MU.length - j/\j<=MU.length/\Hid (∀ k,k<j->(bu l (MU.getD k [])).isEmpty=false)/\T'=[(38,.int .i64 (j:Int)),(37,.int .i64 MU.length),(36,.sl DU MU.length none),(11,.sl DA MA.length none),(10,.sl DU MU.length none),(3,.ptr L.length 0),(1,.sl RA rdn.length capR),(2,.sl LA l.length cap)]/\L'=L++[.cells [TA,CA]]) (CutS (b:=by simp)) ⟨0,rfl,aej _,hid (by simp),rfl,rfl⟩ ?_;rintro _ _ _ ⟨j,rfl,hj,hE,rfl,rfl⟩;by_cases hjl:j<MU.length
 ·have g1:(j:Int)<(MU.length:Int):=by omega
  have g2:=aec j (by omega);have e3:=hMg.out j hjl;have e4:j<DU.length:=by omega
  obtain ⟨t,ht⟩:=aea (MU.getD j []);have htr:am t:=hmr.out t (by rw [<- ht];simp [hjl]);have htm:t∈MU:=by rw [<- ht];simp [hjl]
  rw [ht] at e3;obtain ⟨V,hV⟩:=aea (bu l t);have kk1:Hid (Ctr Tryz.prog 22 [.sl LA l.length cap,.str t] (.sl (V.map AV.str) V.length none)):=@hid _ (by intro L K q;exact kG.out t htr (by rw [hV];exact q));by_cases h0:V=[]
  ·have h':K (.int .i64 65) L:=by
    have:=h.out;rw [if_pos (afL.2 ⟨t,htm,by rw [hV,h0];rfl⟩)] at this;exact this
   replace h':=hid h';subst h0;clear hE ht htm hV h kG;refine wk ?_;exact ab rfl h'.out
  ·have hvl:¬ (V.length:Int)=0:=fun e=>h0 (ae3.1 (by omega))
   have hE2:Hid (∀ k,k<j+1->(bu l (MU.getD k [])).isEmpty=false):=hid (fun k hk=>by
    rcases aer k j with e|e
    ·exact hE.out k e
    ·obtain rfl:k=j:=by omega
     rw [ht,hV];cases V with
     | nil=>exact absurd rfl h0
     | cons _ _=>rfl)
   clear hE ht htm hV h kG h0;refine wk ?_;exact ag _ _ _ (by omega) (CutL (b:=by simp)) ⟨j+1,rfl,hjl,hE2,rfl,rfl⟩
 have hje:j=MU.length:=by omega
 subst hje;have g1:¬ (MU.length:Int)<(MU.length:Int):=by omega
 have hany:(MU.any fun t=>(bu l t).isEmpty)=false:=afe.2 fun t ht=>by
  obtain ⟨k,hk,e⟩:=aeU.1 ht;have:=hE.out k hk;simp only [aew,aev hk,aeP,e] at this;rw [this];decide
 have h1:=h.out;rw [if_neg (by rw [hany];decide)] at h1;replace h1:=hid h1;clear hE hany h kG hMg;refine wk ?_;refine ai (fun z T' L'=>∃ (j:Nat) (X:List Blk),z=l.length - j/\j<=l.length/\Hid (∀ k,k<j->(!MU.contains (aa (l.getD k ([],[])).1) && !MA.contains (aa (l.getD k ([],[])).1))=false)/\T'=[(50,.int .i64 (j:Int)),(49,.int .i64 l.length),(48,.sl LA l.length cap),(11,.sl DA MA.length none),(10,.sl DU MU.length none),(3,.ptr L.length 0),(1,.sl RA rdn.length capR),(2,.sl LA l.length cap)]/\L'=L++(.cells [TA,CA]::X)) (CutS (b:=by simp)) ⟨0,[],rfl,aej _,hid (by simp),rfl,by simp⟩ ?_;rintro _ _ _ ⟨j,X,rfl,hj,hE,rfl,rfl⟩;by_cases hjl:j<l.length
 ·have g3:(j:Int)<(l.length:Int):=by omega
  have g4:=aec j (by omega);have e3:=hat.out j hjl;have e4:j * 2+2<=LA.length:=by omega
  obtain ⟨⟨nm,vs⟩,ha⟩:∃ a,l.getD j ([],[])=a:=⟨_,rfl⟩;have ham:(nm,vs)∈l:=by rw [<- ha];simp [hjl]
  have hnr:am nm:=hreach.out _ ham;rw [ha] at e3;simp only [atA] at e3;have hbx:∀ (a k:Blk),(L++(a::(X++[k])))[L.length+(X.length+1)]?=some k:=fun a k=>by
   rw [aes (by omega),show L.length+(X.length+1) - L.length=X.length+1 by omega,aeN,aes (aeg _)];simp
  obtain ⟨f,hfo⟩:=aea (aa nm);have kk1:Hid (Ctr Tryz.prog 25 [.str nm] (.str f)):=@hid _ (by intro L K q;exact gN hnr (by rw [hfo];exact q));obtain ⟨b1,hb1⟩:=aea (MU.contains f);obtain ⟨b2,hb2⟩:=aea (MA.contains f);have kk2:Hid (∀ {c:Option Nat} {L:List Blk} {K:aef},K (.bool b1) L->aee 26 [.sl DU MU.length c,.str f] L K):=@hid _ (by intro c L K q;exact kCu.out f (by rw [hb1];exact q));have kk3:Hid (∀ {c:Option Nat} {L:List Blk} {K:aef},K (.bool b2) L->aee 26 [.sl DA MA.length c,.str f] L K):=@hid _ (by intro c L K q;exact kCa.out f (by rw [hb2];exact q));by_cases hbb:(!b1 && !b2)=true
  ·have h':K (.int .i64 65) L:=by
    have:=h1.out;rw [if_pos (afL.2 ⟨(nm,vs),ham,by simp only [hfo,hb1,hb2];exact hbb⟩)] at this;exact this
   replace h':=hid h';simp only [aek,ae2] at hbb;obtain ⟨rfl,rfl⟩:=hbb;clear hE ha ham h1 kCu kCa hfo hb1 hb2;refine wk ?_;exact ab rfl h'.out
  ·have hE2:Hid (∀ k,k<j+1->(!MU.contains (aa (l.getD k ([],[])).1) && !MA.contains (aa (l.getD k ([],[])).1))=false):=hid (fun k hk=>by
    rcases aer k j with e|e
    ·exact hE.out k e
    ·obtain rfl:k=j:=by omega
     rw [ha,hfo,hb1,hb2];simpa using hbb)
   clear hE ha ham h1 kCu kCa hfo hb1 hb2;cases b1 with
   | true =>
     refine wk ?_;exact ag _ _ _ (by omega) (CutL (b:=by simp)) ⟨j+1,_,rfl,hjl,hE2,rfl,rfl⟩
   | false =>
     cases b2 with
     | true =>
       refine wk ?_;exact ag _ _ _ (by omega) (CutL (b:=by simp)) ⟨j+1,_,rfl,hjl,hE2,rfl,rfl⟩
     | false=>exact absurd rfl hbb
 have hje:j=l.length:=by omega
 subst hje;have g3:¬ (l.length:Int)<(l.length:Int):=by omega
 have hany:(l.any fun a => !MU.contains (aa a.1) && !MA.contains (aa a.1))=false:=afe.2 fun a ha=>by
  obtain ⟨k,hk,e⟩:=aeU.1 ha;have:=hE.out k hk;simp only [aew,aev hk,aeP,e] at this;rw [this];decide
 have h2:=h1.out;rw [if_neg (by rw [hany];decide)] at h2;replace h2:=hid h2;clear hE hany h1 kCu kCa hat;refine wk ?_;refine ai (fun z T' L'=>∃ (j:Nat) (Z:List Blk),z=rdn.length - j/\j<=rdn.length/\Hid (X.length<=Z.length)/\Hid (uZ ts l rdn=uZ ts l (rdn.drop j))/\T'=[(70,.int .i64 (j:Int)),(69,.int .i64 rdn.length),(68,.sl RA rdn.length capR),(3,.ptr L.length 0),(1,.sl RA rdn.length capR),(2,.sl LA l.length cap)]/\L'=L++(.cells [TA,CA]::Z)) (CutS (b:=by simp)) ⟨0,X,rfl,aej _,hid (aeg _),hid rfl,rfl,rfl⟩ ?_;rintro _ _ _ ⟨j,Z,rfl,hj,hXZ,hE,rfl,rfl⟩;by_cases hjl:j<rdn.length
 ·have g5:(j:Int)<(rdn.length:Int):=by omega
  have g6:=aec j (by omega);have e3:=hrt.out j hjl;have e4:j * 2+2<=RA.length:=by omega
  obtain ⟨⟨nm,v⟩,ha⟩:∃ a,rdn.getD j ([],[])=a:=⟨_,rfl⟩;have ham:(nm,v)∈rdn:=by rw [<- ha];simp [hjl]
  have hnr:am nm:=hr.out _ ham;have hdr:rdn.drop j=(nm,v)::rdn.drop (j+1):=by rw [aeH hjl,<- ha];simp [hjl]
  rw [ha] at e3;simp only [gf] at e3;have hE1:=hE.out;rw [hdr,uZ] at hE1;simp only at hE1;have hbx:∀ (a k:Blk),(L++(a::(Z++[k])))[L.length+(Z.length+1)]?=some k:=fun a k=>by
   rw [aes (by omega),show L.length+(Z.length+1) - L.length=Z.length+1 by omega,aeN,aes (aeg _)];simp
  obtain ⟨kw,hkw⟩:=aea (DC ts nm v);obtain ⟨hb,hhb⟩:=aea (HD ts l nm v);rw [hkw,hhb] at hE1;have kk1:Hid (Ctr Tryz.prog 27 [.agg [TA,CA],.agg [.str nm,.str v]] (.int .i64 kw)):=@hid _ (by intro L K q;exact kN.out nm v hnr (by rw [hkw];exact q));have kk2:Hid (Ctr Tryz.prog 28 [.agg [TA,CA],.sl LA l.length cap,.str nm,.str v] (.bool hb)):=@hid _ (by intro L K q;exact kHs.out nm v hnr (by rw [hhb];exact q));clear ha ham hdr hE kN kHs hkw hhb;by_cases hk0:kw=0;rotate_left
  ·rw [if_pos hk0] at hE1;have h':=h2.out;rw [hE1] at h';replace h':=hid h';clear hE1 h2;refine wk ?_;exact ab rfl h'.out
  subst hk0;rw [if_neg (by simp)] at hE1;cases hb with
  | false =>
    rw [if_pos rfl] at hE1;have h':=h2.out;rw [hE1] at h';replace h':=hid h';clear hE1 h2;refine wk ?_;exact ab rfl h'.out
  | true =>
    rw [if_neg (by decide)] at hE1;have hE2:Hid (uZ ts l rdn=uZ ts l (rdn.drop (j+1))):=hid hE1;clear hE1 h2;refine wk ?_;exact ag _ _ _ (by omega) (CutL (b:=by have:=hXZ.out;simp<;>omega)) ⟨j+1,_,rfl,hjl,hid (by have:=hXZ.out;simp<;>omega),hE2,rfl,rfl⟩
 have hje:j=rdn.length:=by omega
 subst hje;have g5:¬ (rdn.length:Int)<(rdn.length:Int):=by omega
 have h':K (.int .i64 0) L:=by
  have:=h2.out;rw [hE.out,aeC] at this;exact this
 replace h':=hid h';clear hE h2 kN kHs;refine wk ?_;exact ab rfl h'.out
theorem XC {ts:List Typ} {cs:List Cls} {capT capC cap capR:Option Nat} {rdn:List Ava} {l:List Atr} (hts:LI ts) (hc:ue cs) (hf:Pv ts l) (hrl:rdn.length<=9000) (hr:∀ a∈rdn,am a.1) (h:K (.int .i64 (TE ts cs rdn l)) L) :
  aee 10 [.agg [.sl (aW ts) ts.length capT,.sl (bE cs) cs.length capC],.sl (aH rdn) rdn.length capR,.sl (bh l) l.length cap] L K:=by
 obtain ⟨SV,hSV⟩:=aea (bu l ocS);have hvs:=hf.vals ocS;rw [hSV] at hvs;have hreach:∀ a∈l,am a.1:=fun a ha=>(Ig hts hf.i ha).1
 have kG:Hid (∀ (n:List UInt8),am n->∀ {L:List Blk} {K:aef},K (iI (bu l n)) L->aee 29 [.sl (bh l) l.length cap,.str n] L K):=hid (by intro n hn L K q;exact N9 (by have:=hf.n;omega) (fun a ha=>⟨hreach a ha,by have:=hf.v a ha;omega⟩) hn q);have kk1:Hid (Ctr Tryz.prog 29 [.sl (bh l) l.length cap,.str [111,98,106,101,99,116,99,108,97,115,115]] (iI SV)):=@hid _ (by intro L K q;exact kG.out _ (by unfold am;decide) (by rw [show bu l [111,98,106,101,99,116,99,108,97,115,115]=bu l ocS from rfl,hSV];exact q));obtain ⟨S,hS⟩:=aea (AV.agg [.sl (aW ts) ts.length capT,.sl (bE cs) cs.length capC]);have kk2:Hid (∀ {c:Option Nat} {L:List Blk} {K:aef},K (RZ (Lh cs SV)) L->aee 30 [.agg [.sl (aW ts) ts.length capT,.sl (bE cs) cs.length capC],.sl (SV.map AV.str) SV.length c] L K):=@hid _ (by intro c L K q;exact abj hc hvs.1 hvs.2 q);have kk3:Hid (∀ {c:Option Nat} {L:List Blk} {K:aef},K (.tup [.sl ((gl cs SV).map AV.str) (gl cs SV).length none,.sl ((oL cs SV).map AV.str) (oL cs SV).length none]) L->aee 31 [.agg [.sl (aW ts) ts.length capT,.sl (bE cs) cs.length capC],.sl (SV.map AV.str) SV.length c] L K):=@hid _ (by intro c L K q;exact Y3 hc hvs.1 hvs.2 q);have kN:Hid (∀ (t v:List UInt8),am t->∀ {L:List Blk} {K:aef},K (.int .i64 (DC ts t v)) L->aee 34 [.agg [.sl (aW ts) ts.length capT,.sl (bE cs) cs.length capC],.agg [.str t,.str v]] L K):=hid (by intro t v ht L K q;exact Y8 hts ht q);have kHs:Hid (∀ (t v:List UInt8),am t->∀ {L:List Blk} {K:aef},K (.bool (HD ts l t v)) L->aee 12 [.agg [.sl (aW ts) ts.length capT,.sl (bE cs) cs.length capC],.sl (bh l) l.length cap,.str t,.str v] L K):=hid (by intro t v ht L K q;exact abn hts (by have:=hf.n;omega) (fun a ha=>⟨hreach a ha,by have:=hf.v a ha;omega⟩) ht q);unfold TE at h;rw [hSV] at h;have hml:=If hc (ns:=SV) hvs.1;have hmul:(gl cs SV).length<=1000000000000:=aeM (LV _) hml.1;have hmal:(oL cs SV).length<=1000000000000:=aeM (agK _ _) (aeM (LV _) hml.2);have hmr:=Pk hc (ns:=SV);obtain ⟨MU,hMU⟩:=aea (gl cs SV);obtain ⟨MA,hMA⟩:=aea (oL cs SV);rw [hMU] at hmul hmr kk3 h
 rw [hMA] at hmal kk3 h;have hat:=hid (fun k (q:k<l.length)=>iH (l:=l) q);have hatl:=fZ l;obtain ⟨LA,hLA⟩:=aea (bh l);rw [hLA] at hat hatl kG kk1 kHs ⊢;have hrt:=hid (fun k (q:k<rdn.length)=>dc (r:=rdn) q);have hrtl:=bW rdn;obtain ⟨RA,hRA⟩:=aea (aH rdn);rw [hRA] at hrt hrtl ⊢;have hll:=hf.n;obtain ⟨TA,hTA⟩:=aea (AV.sl (aW ts) ts.length capT);obtain ⟨CA,hCA⟩:=aea (AV.sl (bE cs) cs.length capC);have hto:TA.one=true:=by rw [<- hTA];rfl
 have hco:CA.one=true:=by rw [<- hCA];rfl
 rw [hTA,hCA] at kk2 kk3 kN kHs ⊢;obtain ⟨kn,hkn⟩:=aea (Lh cs SV);rw [hkn] at kk2 h;simp only [iI] at kk1 kG;replace hmr:=hid hmr;replace hreach:=hid hreach;replace hr:=hid hr;clear hSV hvs hS hml hMU hMA hLA hRA hTA hCA hkn S hf hts hc;cases kn with
 | none =>
   simp only [RZ,afV,aga] at kk2;replace h:=hid h;refine aed Dw ?_;exact ab rfl h.out
 | some kn =>
 simp only [RZ,aeP,age] at kk2 h;replace h:=hid h;have hMg:=hid (fun k (q:k<MU.length)=>DI q);have hMl:(MU.map AV.str).length=MU.length:=by simp
 have kCu:Hid (∀ (s:List UInt8) {c:Option Nat} {L:List Blk} {K:aef},K (.bool (MU.contains s)) L->aee 32 [.sl (MU.map AV.str) MU.length c,.str s] L K):=hid (by intro s c L K q;exact Qa hmul q);have kCa:Hid (∀ (s:List UInt8) {c:Option Nat} {L:List Blk} {K:aef},K (.bool (MA.contains s)) L->aee 32 [.sl (MA.map AV.str) MA.length c,.str s] L K):=hid (by intro s c L K q;exact Qa hmal q);obtain ⟨DU,hDU⟩:=aea (MU.map AV.str);obtain ⟨DA,hDA⟩:=aea (MA.map AV.str);rw [hDU] at kCu hMg hMl kk3;rw [hDA] at kCa kk3;clear hDU hDA;refine aed Dw ?_;clear kk1 kk2 kk3;refine ai (fun z T' L'=>∃ j:Nat,z=MU.length - j/\j<=MU.length/\Hid (∀ k,k<j->(bu l (MU.getD k [])).isEmpty=false)/\T'=[(37,.int .i64 (j:Int)),(36,.int .i64 MU.length),(35,.sl DU MU.length none),(11,.sl DA MA.length none),(10,.sl DU MU.length none),(3,.ptr L.length 0),(1,.sl RA rdn.length capR),(2,.sl LA l.length cap)]/\L'=L++[.cells [TA,CA]]) (CutS (b:=by simp)) ⟨0,rfl,aej _,hid (by simp),rfl,rfl⟩ ?_;rintro _ _ _ ⟨j,rfl,hj,hE,rfl,rfl⟩;by_cases hjl:j<MU.length
 ·have g1:(j:Int)<(MU.length:Int):=by omega
  have g2:=aec j (by omega);have e3:=hMg.out j hjl;have e4:j<DU.length:=by omega
  obtain ⟨t,ht⟩:=aea (MU.getD j []);have htr:am t:=hmr.out t (by rw [<- ht];simp [hjl]);have htm:t∈MU:=by rw [<- ht];simp [hjl]
  rw [ht] at e3;obtain ⟨V,hV⟩:=aea (bu l t);have kk1:Hid (Ctr Tryz.prog 29 [.sl LA l.length cap,.str t] (.sl (V.map AV.str) V.length none)):=@hid _ (by intro L K q;exact kG.out t htr (by rw [hV];exact q));by_cases h0:V=[]
  ·have h':K (.int .i64 65) L:=by
    have:=h.out;rw [if_pos (afL.2 ⟨t,htm,by rw [hV,h0];rfl⟩)] at this;exact this
   replace h':=hid h';subst h0;clear hE ht htm hV h kG;refine wk ?_;exact ab rfl h'.out
  ·have hvl:¬ (V.length:Int)=0:=fun e=>h0 (ae3.1 (by omega))
   have hE2:Hid (∀ k,k<j+1->(bu l (MU.getD k [])).isEmpty=false):=hid (fun k hk=>by
    rcases aer k j with e|e
    ·exact hE.out k e
    ·obtain rfl:k=j:=by omega
     rw [ht,hV];cases V with
     | nil=>exact absurd rfl h0
     | cons _ _=>rfl)
   clear hE ht htm hV h kG h0;refine wk ?_;exact ag _ _ _ (by omega) (CutL (b:=by simp)) ⟨j+1,rfl,hjl,hE2,rfl,rfl⟩
 have hje:j=MU.length:=by omega
 subst hje;have g1:¬ (MU.length:Int)<(MU.length:Int):=by omega
 have hany:(MU.any fun t=>(bu l t).isEmpty)=false:=afe.2 fun t ht=>by
  obtain ⟨k,hk,e⟩:=aeU.1 ht;have:=hE.out k hk;simp only [aew,aev hk,aeP,e] at this;rw [this];decide
 have h1:=h.out;rw [if_neg (by rw [hany];decide)] at h1;replace h1:=hid h1;clear hE hany h kG hMg;refine wk ?_;refine ai (fun z T' L'=>∃ (j:Nat) (X:List Blk),z=l.length - j/\j<=l.length/\Hid (∀ k,k<j->(!MU.contains (aa (l.getD k ([],[])).1) && !MA.contains (aa (l.getD k ([],[])).1))=false)/\T'=[(49,.int .i64 (j:Int)),(48,.int .i64 l.length),(47,.sl LA l.length cap),(11,.sl DA MA.length none),(10,.sl DU MU.length none),(3,.ptr L.length 0),(1,.sl RA rdn.length capR),(2,.sl LA l.length cap)]/\L'=L++(.cells [TA,CA]::X)) (CutS (b:=by simp)) ⟨0,[],rfl,aej _,hid (by simp),rfl,by simp⟩ ?_;rintro _ _ _ ⟨j,X,rfl,hj,hE,rfl,rfl⟩;by_cases hjl:j<l.length
 ·have g3:(j:Int)<(l.length:Int):=by omega
  have g4:=aec j (by omega);have e3:=hat.out j hjl;have e4:j * 2+2<=LA.length:=by omega
  obtain ⟨⟨nm,vs⟩,ha⟩:∃ a,l.getD j ([],[])=a:=⟨_,rfl⟩;have ham:(nm,vs)∈l:=by rw [<- ha];simp [hjl]
  have hnr:am nm:=hreach.out _ ham;rw [ha] at e3;simp only [atA] at e3;have hbx:∀ (a k:Blk),(L++(a::(X++[k])))[L.length+(X.length+1)]?=some k:=fun a k=>by
   rw [aes (by omega),show L.length+(X.length+1) - L.length=X.length+1 by omega,aeN,aes (aeg _)];simp
  obtain ⟨f,hfo⟩:=aea (aa nm);have kk1:Hid (Ctr Tryz.prog 33 [.str nm] (.str f)):=@hid _ (by intro L K q;exact bg hnr (by rw [hfo];exact q));obtain ⟨b1,hb1⟩:=aea (MU.contains f);obtain ⟨b2,hb2⟩:=aea (MA.contains f);have kk2:Hid (∀ {c:Option Nat} {L:List Blk} {K:aef},K (.bool b1) L->aee 32 [.sl DU MU.length c,.str f] L K):=@hid _ (by intro c L K q;exact kCu.out f (by rw [hb1];exact q));have kk3:Hid (∀ {c:Option Nat} {L:List Blk} {K:aef},K (.bool b2) L->aee 32 [.sl DA MA.length c,.str f] L K):=@hid _ (by intro c L K q;exact kCa.out f (by rw [hb2];exact q));by_cases hbb:(!b1 && !b2)=true
  ·have h':K (.int .i64 65) L:=by
    have:=h1.out;rw [if_pos (afL.2 ⟨(nm,vs),ham,by simp only [hfo,hb1,hb2];exact hbb⟩)] at this;exact this
   replace h':=hid h';simp only [aek,ae2] at hbb;obtain ⟨rfl,rfl⟩:=hbb;clear hE ha ham h1 kCu kCa hfo hb1 hb2;refine wk ?_;exact ab rfl h'.out
  ·have hE2:Hid (∀ k,k<j+1->(!MU.contains (aa (l.getD k ([],[])).1) && !MA.contains (aa (l.getD k ([],[])).1))=false):=hid (fun k hk=>by
    rcases aer k j with e|e
    ·exact hE.out k e
    ·obtain rfl:k=j:=by omega
     rw [ha,hfo,hb1,hb2];simpa using hbb)
   clear hE ha ham h1 kCu kCa hfo hb1 hb2;cases b1 with
   | true =>
     refine wk ?_;exact ag _ _ _ (by omega) (CutL (b:=by simp)) ⟨j+1,_,rfl,hjl,hE2,rfl,rfl⟩
   | false =>
     cases b2 with
     | true =>
       refine wk ?_;exact ag _ _ _ (by omega) (CutL (b:=by simp)) ⟨j+1,_,rfl,hjl,hE2,rfl,rfl⟩
     | false=>exact absurd rfl hbb
 have hje:j=l.length:=by omega
 subst hje;have g3:¬ (l.length:Int)<(l.length:Int):=by omega
 have hany:(l.any fun a => !MU.contains (aa a.1) && !MA.contains (aa a.1))=false:=afe.2 fun a ha=>by
  obtain ⟨k,hk,e⟩:=aeU.1 ha;have:=hE.out k hk;simp only [aew,aev hk,aeP,e] at this;rw [this];decide
 have h2:=h1.out;rw [if_neg (by rw [hany];decide)] at h2;replace h2:=hid h2;clear hE hany h1 kCu kCa hat;refine wk ?_;refine ai (fun z T' L'=>∃ (j:Nat) (Z:List Blk),z=rdn.length - j/\j<=rdn.length/\Hid (X.length<=Z.length)/\Hid (uZ ts l rdn=uZ ts l (rdn.drop j))/\T'=[(70,.int .i64 (j:Int)),(69,.int .i64 rdn.length),(68,.sl RA rdn.length capR),(3,.ptr L.length 0),(1,.sl RA rdn.length capR),(2,.sl LA l.length cap)]/\L'=L++(.cells [TA,CA]::Z)) (CutS (b:=by simp)) ⟨0,X,rfl,aej _,hid (aeg _),hid rfl,rfl,rfl⟩ ?_;rintro _ _ _ ⟨j,Z,rfl,hj,hXZ,hE,rfl,rfl⟩;by_cases hjl:j<rdn.length
 ·have g5:(j:Int)<(rdn.length:Int):=by omega
  have g6:=aec j (by omega);have e3:=hrt.out j hjl;have e4:j * 2+2<=RA.length:=by omega
  obtain ⟨⟨nm,v⟩,ha⟩:∃ a,rdn.getD j ([],[])=a:=⟨_,rfl⟩;have ham:(nm,v)∈rdn:=by rw [<- ha];simp [hjl]
  have hnr:am nm:=hr.out _ ham;have hdr:rdn.drop j=(nm,v)::rdn.drop (j+1):=by rw [aeH hjl,<- ha];simp [hjl]
  rw [ha] at e3;simp only [gf] at e3;have hE1:=hE.out;rw [hdr,uZ] at hE1;simp only at hE1;have hbx:∀ (a k:Blk),(L++(a::(Z++[k])))[L.length+(Z.length+1)]?=some k:=fun a k=>by
   rw [aes (by omega),show L.length+(Z.length+1) - L.length=Z.length+1 by omega,aeN,aes (aeg _)];simp
  obtain ⟨kw,hkw⟩:=aea (DC ts nm v);obtain ⟨hb,hhb⟩:=aea (HD ts l nm v);rw [hkw,hhb] at hE1;have kk1:Hid (Ctr Tryz.prog 34 [.agg [TA,CA],.agg [.str nm,.str v]] (.int .i64 kw)):=@hid _ (by intro L K q;exact kN.out nm v hnr (by rw [hkw];exact q));have kk2:Hid (Ctr Tryz.prog 12 [.agg [TA,CA],.sl LA l.length cap,.str nm,.str v] (.bool hb)):=@hid _ (by intro L K q;exact kHs.out nm v hnr (by rw [hhb];exact q));clear ha ham hdr hE kN kHs hkw hhb;by_cases hk0:kw=0;rotate_left
  ·rw [if_pos hk0] at hE1;have h':=h2.out;rw [hE1] at h';replace h':=hid h';clear hE1 h2;refine wk ?_;exact ab rfl h'.out
  subst hk0;rw [if_neg (by simp)] at hE1;cases hb with
  | false =>
    rw [if_pos rfl] at hE1;have h':=h2.out;rw [hE1] at h';replace h':=hid h';clear hE1 h2;refine wk ?_;exact ab rfl h'.out
  | true =>
    rw [if_neg (by decide)] at hE1;have hE2:Hid (uZ ts l rdn=uZ ts l (rdn.drop (j+1))):=hid hE1;clear hE1 h2;refine wk ?_;exact ag _ _ _ (by omega) (CutL (b:=by have:=hXZ.out;simp<;>omega)) ⟨j+1,_,rfl,hjl,hid (by have:=hXZ.out;simp<;>omega),hE2,rfl,rfl⟩
 have hje:j=rdn.length:=by omega
 subst hje;have g5:¬ (rdn.length:Int)<(rdn.length:Int):=by omega
 have h':K (.int .i64 0) L:=by
  have:=h2.out;rw [hE.out,aeC] at this;exact this
 replace h':=hid h';clear hE h2 kN kHs;refine wk ?_;exact ab rfl h'.out
theorem acY {f:FuncId} {caps:List AV} {ts:List Ava} {cap:Option Nat} {q:Ava->Bool} {L:List Blk} (hn:ts.length<=2000000) (hf:∀ (ty:Ava) (K:AV->List Blk->Prop),ty∈ts->K (.bool (q ty)) L->aee f (.agg (gf ty)::caps) L K)
  {K:aef} (h1:(∀ ty∈ts,q ty=false)->K (.int .i64 (-1)) L) (h2:(∃ ty∈ts,q ty=true)->∀ k:Nat,K (.int .i64 k) L) :
  aee 85 [.sl (aH ts) ts.length cap,.func f caps] L K:=by
 replace hf:=hid hf;replace h1:=hid h1;replace h2:=hid h2;have hat:=hid (fun k (q:k<ts.length)=>dc (r:=ts) q);have hal:=bW ts;obtain ⟨X,hX⟩:=aea (aH ts);rw [hX] at hat hal ⊢;clear hX;refine aed di ?_;refine ai (fun n T' L'=>∃ k:Nat,n=ts.length - k/\k<=ts.length/\T'=[(8,.int .i64 (k:Int)),(7,.int .i64 ts.length),(0,.sl X ts.length cap),(1,.func f caps)]/\L=L' /\
  Hid (∀ j,j<k->q (ts.getD j ([],[]))=false)) (CutS (b:=aeg _)) ⟨0,rfl,aej _,rfl,rfl,hid (by simp)⟩ ?_
 rintro _ _ L' ⟨k,rfl,hk,rfl,e,hr⟩;subst e;by_cases hlt:k<ts.length
 ·have g1:(k:Int)<(ts.length:Int):=by omega
  have g2:=aec k (by omega);have e4:k * 2+2<=X.length:=by omega
  have e3:=hat.out k hlt;obtain ⟨ty,hty⟩:=aea (ts.getD k ([],[]));have hm:ty∈ts:=by rw [<- hty];simp [hlt]
  rw [hty] at e3;replace hty:=hid hty;rcases hqk:q ty with _|_
  ·have kk1:Hid (∀ {K:aef},K (.bool false) L->aee f (.agg (gf ty)::caps) L K):=hid fun a=>hf.out ty _ hm (by rw [hqk];exact a)
   have hr2:Hid (∀ j,j<k+1->q (ts.getD j ([],[]))=false):=hid (fun j hj=>by
    rcases aer j k with h|h
    ·exact hr.out j h
    ·have:j=k:=by omega
     subst this;rw [hty.out];exact hqk)
   replace hqk:=hid hqk;simp only [gf] at kk1 e3;clear hr;refine wk ?_;exact ag _ _ _ (by omega) (CutL (b:=by simp)) ⟨k+1,rfl,hlt,rfl,rfl,hr2⟩
  ·have kk1:Hid (∀ {K:aef},K (.bool true) L->aee f (.agg (gf ty)::caps) L K):=hid fun a=>hf.out ty _ hm (by rw [hqk];exact a)
   have hf2:=hid (h2.out ⟨ty,hm,hqk⟩ k);replace hqk:=hid hqk;simp only [gf] at kk1 e3;clear hr h1 h2;refine wk ?_;exact ac hf2.out
 ·have g1:¬ (k:Int)<(ts.length:Int):=by omega
  have hf1:=hid (h1.out fun ty hty=>by
   obtain ⟨j,hj,e⟩:=aeU.1 hty;have:=hr.out j (by omega);simpa [hj,e] using this)
  clear hr h1 h2;refine wk ?_;exact ac hf1.out
theorem adh {f:FuncId} {caps:List AV} {ts:List Ava} {cap:Option Nat} {q:Ava->Bool} {L:List Blk} (hn:ts.length<=2000000) (hf:∀ (ty:Ava) (K:AV->List Blk->Prop),ty∈ts->K (.bool (q ty)) L->aee f (.agg (gf ty)::caps) L K)
  {K:aef} (h:K (.bool (ts.any q)) L) :
  aee 57 [.sl (aH ts) ts.length cap,.func f caps] L K:=by
 replace h:=hid h;refine aed cM ?_;refine acY hn hf (fun hs=>?_) (fun hs k=>?_)
 ·have e:ts.any q=false:=afe.2 fun x hx=>by rw [hs x hx];decide
  rw [e] at h;refine sk ?_;refine wk ?_;exact ac h.out
 ·have e:ts.any q=true:=afL.2 hs;rw [e] at h;have g:(0:Int)<=(k:Int):=by omega
  refine sk ?_;refine wk ?_;exact ac h.out
theorem adO {x:Ava} {t1:AV} {syn:Int} {b1 b2:AV} {n at' av:List UInt8} {p7 p9 p5:Nat} (hx:am x.1) (ha:am at') {L:List Blk} (h7:L[p7]?=some (.cells [t1,.int .i64 syn,b1,b2])) (h9:L[p9]?=some (.cells [.str n])) (h5:L[p5]?=some (.cells [.str at',.str av])) {K:aef} (h:K (.bool (decide (ci syn x.2=some n) && decide (aa x.1=aa at'))) L) :
  aee 58 [.agg (gf x),.ptr p7 0,.ptr p9 0,.ptr p5 0] L K:=by
 have g7:∀ X:List Blk,(L++X)[p7]?=some (.cells [t1,.int .i64 syn,b1,b2]):=fun X=>aeb h7
 have g9:∀ X:List Blk,(L++X)[p9]?=some (.cells [.str n]):=fun X=>aeb h9
 have g5:∀ X:List Blk,(L++X)[p5]?=some (.cells [.str at',.str av]):=fun X=>aeb h5
 obtain ⟨xt,xv⟩:=x;simp only [gf] at hx h ⊢;have kk1:Hid (Ctr Tryz.prog 52 [.int .i64 syn,.str xv] (gj (ci syn xv))):=@hid _ (by intro L K q;exact jq q);have kk2:=@hid _ (fun {L:List Blk} {K:aef}=>gN hx (L:=L) (K:=K));have kk3:=@hid _ (fun {L:List Blk} {K:aef}=>gN ha (L:=L) (K:=K));rcases hn:ci syn xv with _|m
 ·rw [hn] at h kk1;simp only [gj] at kk1;replace h:=hid (show K (.bool false) L from h);clear hn;refine aed kY ?_;exact ab rfl h.out
 ·rw [hn] at h kk1;simp only [gj] at kk1;by_cases hm:m=n
  ·subst hm;have h':K (.bool (decide (aa xt=aa at'))) L:=by rw [decide_eq_true rfl,ae7] at h;exact h
   replace h':=hid h';clear hn h;refine aed kY ?_;exact ab rfl h'.out
  ·have h':K (.bool false) L:=by rw [decide_eq_false (fun e=>hm (Option.some.inj e)),afy] at h;exact h
   replace h':=hid h';clear hn h;refine aed kY ?_;exact ab rfl h'.out
theorem acU {ts:List Typ} {capT:Option Nat} {c2:List AV} {n2:Nat} {cap2 cap:Option Nat} {now:List Ava} {t v:List UInt8} (hts:LI ts) (hn:now.length<=9000) (hr:∀ x∈now,am x.1) (ht:am t) (h:K (.bool (inN ts now (t,v))) L) :
  aee 35 [.agg [.sl (aW ts) ts.length capT,.sl c2 n2 cap2],.sl (aH now) now.length cap,.agg [.str t,.str v]] L K:=by
 have kk1:Hid (Ctr Tryz.prog 51 [.agg [.sl (aW ts) ts.length capT,.sl c2 n2 cap2],.str t] (oH (ef ts t))):=@hid _ (by intro L K q;exact TF hts.1 hts.2.1 ht q);unfold inN at h;unfold oH at kk1;have hsy:((ef ts t).map (·.2.1)).getD 0=((ef ts t).getD gk).2.1:=by cases ef ts t<;>rfl
 simp only at h;rw [hsy] at h;obtain ⟨⟨y1,syn,y3,y4⟩,hy⟩:∃ y,(ef ts t).getD gk=y:=⟨_,rfl⟩;obtain ⟨b,hb⟩:=aea ((ef ts t).isSome);rw [hy,hb] at kk1;rw [hy] at h;simp only [tyC] at kk1;simp only at h;have kk2:Hid (∀ {L:List Blk} {K:aef},(∀ c,K (.tup [.str (bP syn v),.bool c]) L)->aee 52 [.int .i64 syn,.str v] L K):=@hid _ (by
  intro L K q;refine jq ?_;unfold bP at q;rcases hh:ci syn v with _|m
  ·rw [hh] at q;exact q false
  ·rw [hh] at q;exact q true)
 obtain ⟨n,hnv⟩:=aea (bP syn v);rw [hnv] at kk2 h;replace h:=hid h;clear hsy hy hb hnv;refine aed Sa ?_;intro c;clear kk1 kk2;refine wk ?_;refine adh (q:=fun x=>decide (ci syn x.2=some n) && decide (aa x.1=aa t)) (by omega) (fun x K hx hk=>adO (t1:=.str y1) (b1:=.bool y3) (b2:=.bool y4) (av:=v) (hr x hx) ht (by simp) (by simp) (by simp) hk) ?_;refine sk ?_;refine wk ?_;exact ab rfl (by simpa only [agC] using h.out)
theorem SD:∀ ms:List Mdf,AV.frzL (mC ms)=mC ms
 | []=>rfl
 | m::ms=>by
   have ih:=SD ms;rw [show mC (m::ms)=mdC m++mC ms from rfl];simp only [mdC,aeT,aeR,AV.frzL,AV.frz,cy,ih]
theorem SC (l:List Mdf) (o:Int) (t v:List UInt8):mC l++[.int .i64 o,.str t,.sl [.str v] 1 none]=mC (l++[(o,t,[v])]):=by simp [mC,mdC]
theorem XD {ts:List Typ} {capT:Option Nat} {c2:List AV} {n2:Nat} {cap2:Option Nat} {l:List Atr} {cap capW capN:Option Nat} {was now:List Ava} {dr:Bool} (hts:LI ts) (hin:InA ts l) (hl:l.length<=10000) (hv:∀ a∈l,a.2.length<=10000) (hwl:was.length<=40) (hnl:now.length<=40) (hw:∀ a∈was,am a.1) (hn:∀ a∈now,am a.1)
  {R:List Atr×Int} (hR:abm ts l was now dr=R) {L:List Blk} {K:aef} (h:K (.tup [.sl (bh R.1) R.1.length none,.int .i64 R.2]) L) :
  aee 11 [.agg [.sl (aW ts) ts.length capT,.sl c2 n2 cap2],.sl (bh l) l.length cap,.sl (aH was) was.length capW,.sl (aH now) now.length capN,.bool dr] L K:=by
 have kN:Hid (∀ (t v:List UInt8),am t->∀ {L:List Blk} {K:aef},K (.int .i64 (DC ts t v)) L->aee 27 [.agg [.sl (aW ts) ts.length capT,.sl c2 n2 cap2],.agg [.str t,.str v]] L K):=hid (by intro t v ht L K q;exact W1 hts ht q);have kHs:Hid (∀ (t v:List UInt8),am t->∀ {L:List Blk} {K:aef},K (.bool (HD ts l t v)) L->aee 28 [.agg [.sl (aW ts) ts.length capT,.sl c2 n2 cap2],.sl (bh l) l.length cap,.str t,.str v] L K):=hid (by intro t v ht L K q;exact aae hts hin (by omega) (fun a ha=>by have:=hv a ha;omega) ht q);have kI:Hid (∀ (t v:List UInt8),am t->∀ {L:List Blk} {K:aef},K (.bool (inN ts now (t,v))) L->aee 35 [.agg [.sl (aW ts) ts.length capT,.sl c2 n2 cap2],.sl (aH now) now.length capN,.agg [.str t,.str v]] L K):=hid (by intro t v ht L K q;exact acU hts (by omega) hn ht q);have kA:Hid (∀ (ms:List Mdf),ms.length<=80->(∀ m∈ms,am m.2.1/\m.2.2.length<=1000)->∀ {L:List Blk} {K:aef},K (.tup [.sl (bh (TV ts l ms).1) (TV ts l ms).1.length none,.int .i64 (TV ts l ms).2]) L->aee 36 [.agg [(AV.sl (aW ts) ts.length capT).frz,(AV.sl c2 n2 cap2).frz],.sl (AV.frzL (bh l)) l.length none,.sl (mC ms) ms.length none] L K):=hid (by intro ms h1 h2 L K q;simp only [AV.frz,LR,mR];exact aaf hts hin (by omega) (fun a ha=>by have:=hv a ha;omega) (by omega) h2 rfl q);have hwt:=hid (fun k (q:k<was.length)=>dc (r:=was) q);have hwtl:=bW was;have hnt:=hid (fun k (q:k<now.length)=>dc (r:=now) q);have hntl:=bW now;obtain ⟨NA,hNA⟩:=aea (aH now);obtain ⟨WA,hWA⟩:=aea (aH was);obtain ⟨LA,hLA⟩:=aea (bh l);obtain ⟨TA,hTA⟩:=aea (AV.sl (aW ts) ts.length capT);obtain ⟨CA,hCA⟩:=aea (AV.sl c2 n2 cap2);have hto:TA.one=true:=by rw [<- hTA];rfl
 have hco:CA.one=true:=by rw [<- hCA];rfl
 rw [hNA] at hnt hntl kI ⊢;rw [hWA] at hwt hwtl ⊢;rw [hLA] at kHs kA ⊢;rw [hTA,hCA] at kN kHs kI kA ⊢;replace h:=hid h;replace hR:=hid hR;replace hw:=hid hw;replace hn:=hid hn;clear hNA hWA hLA hTA hCA hin hv hts;refine aed LG ?_;refine ai (fun z T' L'=>∃ (j:Nat) (X:List Blk),z=now.length - j/\j<=now.length/\Hid ((now.find? fun a=>decide (DC ts a.1 a.2≠0))=(now.drop j).find? fun a=>decide (DC ts a.1 a.2≠0))/\T'=[(22,.int .i64 (j:Int)),(21,.int .i64 now.length),(20,.sl NA now.length capN),(5,.ptr L.length 0),(1,.sl LA l.length cap),(2,.sl WA was.length capW),(3,.sl NA now.length capN),(4,.bool dr)]/\L'=L++(.cells [TA,CA]::X)) (CutS (b:=by simp)) ⟨0,[],rfl,aej _,hid rfl,rfl,rfl⟩ ?_;rintro _ _ _ ⟨j,X,rfl,hj,hE,rfl,rfl⟩;by_cases hjl:j<now.length
 ·have g1:(j:Int)<(now.length:Int):=by omega
  have g2:=aec j (by omega);have e3:=hnt.out j hjl;have e4:j * 2+2<=NA.length:=by omega
  obtain ⟨⟨nm,v⟩,ha⟩:∃ a,now.getD j ([],[])=a:=⟨_,rfl⟩;have ham:(nm,v)∈now:=by rw [<- ha];simp [hjl]
  have hnr:am nm:=hn.out _ ham;have hdr:now.drop j=(nm,v)::now.drop (j+1):=by rw [aeH hjl,<- ha];simp [hjl]
  rw [ha] at e3;simp only [gf] at e3;have hE1:=hE.out;rw [hdr,agl] at hE1;simp only at hE1;have hbx:∀ (a k:Blk),(L++(a::(X++[k])))[L.length+(X.length+1)]?=some k:=fun a k=>by
   rw [aes (by omega),show L.length+(X.length+1) - L.length=X.length+1 by omega,aeN,aes (aeg _)];simp
  obtain ⟨kw,hkw⟩:=aea (DC ts nm v);have kk1:Hid (Ctr Tryz.prog 27 [.agg [TA,CA],.agg [.str nm,.str v]] (.int .i64 kw)):=@hid _ (by intro L K q;exact kN.out nm v hnr (by rw [hkw];exact q));by_cases hk0:kw=0
  ·have hE2:Hid ((now.find? fun a=>decide (DC ts a.1 a.2≠0))=(now.drop (j+1)).find? fun a=>decide (DC ts a.1 a.2≠0)):=hid (by rw [hE1,hkw,hk0];rfl);subst hk0;clear ha ham hdr hE hE1 kN kHs kI kA hkw h hR;refine wk ?_;exact ag _ _ _ (by omega) (CutL (b:=by simp)) ⟨j+1,_,rfl,hjl,hE2,rfl,rfl⟩
  ·have hR1:=hR.out;unfold abm at hR1;rw [hE1,hkw,show decide (kw≠0)=true by simp [hk0]] at hR1;simp only [hkw] at hR1;have h':K (.tup [.sl [] 0 none,.int .i64 kw]) L:=by
    have:=h.out;rw [<- hR1] at this;exact this
   replace h':=hid h';clear ha ham hdr hE hE1 kN kHs kI kA hkw h hR hR1;refine wk ?_;exact aZ (ab rfl h'.out)
 have hje:j=now.length:=by omega
 subst hje;have g1:¬ (now.length:Int)<(now.length:Int):=by omega
 have hR1:=hR.out;unfold abm at hR1;rw [hE.out,aeC] at hR1;simp only [List.find?_nil] at hR1;replace hR1:=hid hR1;clear hE hR kN;refine wk ?_;refine cz (l:=[]) (n:=0) 15 3 rfl (aeX 3).symm ?_;rw [show (L++Blk.cells [TA,CA]::X).length=L.length+(X.length+1) by simp,show (L++Blk.cells [TA,CA]::X)++[Blk.spare 0 3]=L++(Blk.cells [TA,CA]::(X++[Blk.spare 0 3])) by simp];have hb0:∀ (a k:Blk) (Z:List Blk),(L++(a::(X++(k::Z))))[L.length+(X.length+1)]?=some k:=fun a k Z=>by
  rw [aes (by omega),show L.length+(X.length+1) - L.length=X.length+1 by omega,aeN,aes (aeg _)];simp
 have hb1:∀ (a s k:Blk) (Z:List Blk),(L++(a::(X++(s::(Z++[k])))))[L.length+(X.length+(Z.length+1)+1)]?=some k:=fun a s k Z=>by
  rw [aes (by omega),show L.length+(X.length+(Z.length+1)+1) - L.length=X.length+(Z.length+1)+1 by omega,aeN,aes (by omega),show X.length+(Z.length+1) - X.length=Z.length+1 by omega,aeN,aes (aeg _)];simp
 replace hb0:=hid hb0;replace hb1:=hid hb1;refine ai (fun z T' L'=>∃ (j:Nat) (Z:List Blk) (C:List AV) (y:Nat),z=was.length - j/\j<=was.length/\y<=j/\Hid (∃ W:List Mdf,W=((was.take j).filter fun a=>dr && (HD ts l a.1 a.2 && !inN ts now a)).map (fun a=>(1,a.1,[a.2]))/\C=mC W/\y=W.length)/\T'=[(35,.int .i64 (j:Int)),(34,.int .i64 was.length),(33,.sl WA was.length capW),(15,.gsl C y (L.length+(X.length+1)) 3),(5,.ptr L.length 0),(1,.sl LA l.length cap),(3,.sl NA now.length capN),(4,.bool dr)]/\L'=L++(.cells [TA,CA]::(X++(.spare y 3::Z)))) (CutS (b:=by simp)) ⟨0,[],[],0,rfl,aej _,aeg _,hid ⟨[],rfl,rfl,rfl⟩,rfl,rfl⟩ ?_;rintro _ _ _ ⟨j,Z,C,y,rfl,hj,hy,hC,rfl,rfl⟩;by_cases hjl:j<was.length
 ·have g3:(j:Int)<(was.length:Int):=by omega
  have g4:=aec j (by omega);have e3:=hwt.out j hjl;have e4:j * 2+2<=WA.length:=by omega
  obtain ⟨⟨nm,v⟩,ha⟩:∃ a,was.getD j ([],[])=a:=⟨_,rfl⟩;have ham:(nm,v)∈was:=by rw [<- ha];simp [hjl]
  have hnr:am nm:=hw.out _ ham;have htk:was.take (j+1)=was.take j++[(nm,v)]:=by rw [aeL hjl,<- ha];simp [hjl]
  rw [ha] at e3;simp only [gf] at e3;obtain ⟨hb,hhb⟩:=aea (HD ts l nm v);obtain ⟨ib,hib⟩:=aea (inN ts now (nm,v));have kk1:Hid (Ctr Tryz.prog 28 [.agg [TA,CA],.sl LA l.length cap,.str nm,.str v] (.bool hb)):=@hid _ (by intro L K q;exact kHs.out nm v hnr (by rw [hhb];exact q));have kk2:Hid (Ctr Tryz.prog 35 [.agg [TA,CA],.sl NA now.length capN,.agg [.str nm,.str v]] (.bool ib)):=@hid _ (by intro L K q;exact kI.out nm v hnr (by rw [hib];exact q));have cN:(dr && (hb && !ib))=false->Hid (∃ W:List Mdf,W=((was.take (j+1)).filter fun a=>dr && (HD ts l a.1 a.2 && !inN ts now a)).map (fun a=>(1,a.1,[a.2]))/\C=mC W/\y=W.length):=fun q=>hid (by
   obtain ⟨W,h1,h2,h3⟩:=hC.out;refine ⟨W,?_,h2,h3⟩;rw [htk,agw,agr (by simp only [hhb,hib,q];decide),ag2,aeJ,h1])
  have cY:(dr && (hb && !ib))=true->Hid (∃ W:List Mdf,W=((was.take (j+1)).filter fun a=>dr && (HD ts l a.1 a.2 && !inN ts now a)).map (fun a=>(1,a.1,[a.2]))/\C++[.int .i64 1,.str nm,.sl [.str v] 1 none]=mC W/\y+1=W.length):=fun q=>hid (by
   obtain ⟨W,h1,h2,h3⟩:=hC.out;refine ⟨W++[(1,nm,[v])],?_,?_,by simp [h3]⟩
   ·rw [htk,agw,ags (by simp only [hhb,hib,q]),ag2,ae8,h1];rfl
   ·rw [h2,SC])
  clear ha ham hC htk kHs kI kA hhb hib h hR1;cases dr with
  | false =>
    replace cN:=cN rfl;clear cY;refine wk ?_;exact ag _ _ _ (by omega) (CutL (b:=by simp)) ⟨j+1,_,C,y,rfl,hjl,by omega,cN,rfl,rfl⟩
  | true =>
  cases hb with
  | false =>
    replace cN:=cN rfl;clear cY;refine wk ?_;exact ag _ _ _ (by omega) (CutL (b:=by simp)) ⟨j+1,_,C,y,rfl,hjl,by omega,cN,rfl,rfl⟩
  | true =>
  cases ib with
  | true =>
    replace cN:=cN rfl;clear cY;refine wk ?_;exact ag _ _ _ (by omega) (CutL (b:=by simp)) ⟨j+1,_,C,y,rfl,hjl,by omega,cN,rfl,rfl⟩
  | false =>
    replace cY:=cY rfl;clear cN;refine wk ?_;exact ag _ _ _ (by omega) (CutL (b:=by simp)) ⟨j+1,_,_,_,rfl,hjl,by omega,cY,rfl,rfl⟩
 have hje:j=was.length:=by omega
 subst hje;have g3:¬ (was.length:Int)<(was.length:Int):=by omega
 obtain ⟨U,hU⟩:∃ U:List Mdf,(was.filter fun a=>dr && (HD ts l a.1 a.2 && !inN ts now a)).map (fun a=>(1,a.1,[a.2]))=U:=⟨_,rfl⟩;have hC2:=hC.out;rw [aeE,hU] at hC2;obtain ⟨U,rfl,rfl,rfl⟩:=hC2;have hUr:Hid (∀ m∈U,am m.2.1/\m.2.2.length<=1000):=hid (fun m hm=>by
  rw [<- hU] at hm;obtain ⟨a,ha,rfl⟩:=aey.1 hm;exact ⟨hw.out a (afv.1 ha).1,by simp⟩)
 have hR2:=hR1.out;unfold aci at hR2;rw [hU] at hR2;replace hR2:=hid hR2;clear hU hC hR1 kI;refine wk ?_;refine ai (fun z T' L'=>∃ (j:Nat) (Y:List Blk) (C:List AV) (y:Nat),z=now.length - j/\j<=now.length/\y<=U.length+j/\Hid (Z.length<=Y.length)/\Hid (∃ W:List Mdf,W=U++((now.take j).filter fun a => !HD ts l a.1 a.2).map (fun a=>(0,a.1,[a.2]))/\C=mC W/\y=W.length)/\T'=[(68,.int .i64 (j:Int)),(67,.int .i64 now.length),(66,.sl NA now.length capN),(15,.gsl C y (L.length+(X.length+1)) 3),(5,.ptr L.length 0),(1,.sl LA l.length cap)]/\L'=L++(.cells [TA,CA]::(X++(.spare y 3::Y)))) (CutS (b:=by simp)) ⟨0,Z,mC U,U.length,rfl,aej _,by omega,hid (aeg _),hid ⟨U,by simp,rfl,rfl⟩,rfl,rfl⟩ ?_;rintro _ _ _ ⟨j,Y,C,y,rfl,hj3,hy3,hZY,hC,rfl,rfl⟩;by_cases hjl:j<now.length
 ·have g5:(j:Int)<(now.length:Int):=by omega
  have g6:=aec j (by omega);have e3:=hnt.out j hjl;have e4:j * 2+2<=NA.length:=by omega
  obtain ⟨⟨nm,v⟩,ha⟩:∃ a,now.getD j ([],[])=a:=⟨_,rfl⟩;have ham:(nm,v)∈now:=by rw [<- ha];simp [hjl]
  have hnr:am nm:=hn.out _ ham;have htk:now.take (j+1)=now.take j++[(nm,v)]:=by rw [aeL hjl,<- ha];simp [hjl]
  rw [ha] at e3;simp only [gf] at e3;obtain ⟨hb,hhb⟩:=aea (HD ts l nm v);have kk1:Hid (Ctr Tryz.prog 28 [.agg [TA,CA],.sl LA l.length cap,.str nm,.str v] (.bool hb)):=@hid _ (by intro L K q;exact kHs.out nm v hnr (by rw [hhb];exact q));have cN:(!hb)=false->Hid (∃ W:List Mdf,W=U++((now.take (j+1)).filter fun a => !HD ts l a.1 a.2).map (fun a=>(0,a.1,[a.2]))/\C=mC W/\y=W.length):=fun q=>hid (by
   obtain ⟨W,h1,h2,h3⟩:=hC.out;refine ⟨W,?_,h2,h3⟩;rw [htk,agw,agr (by simp only [hhb,q];decide),ag2,aeJ,h1])
  have cY:(!hb)=true->Hid (∃ W:List Mdf,W=U++((now.take (j+1)).filter fun a => !HD ts l a.1 a.2).map (fun a=>(0,a.1,[a.2]))/\C++[.int .i64 0,.str nm,.sl [.str v] 1 none]=mC W/\y+1=W.length):=fun q=>hid (by
   obtain ⟨W,h1,h2,h3⟩:=hC.out;refine ⟨W++[(0,nm,[v])],?_,?_,by simp [h3]⟩
   ·rw [htk,agw,ags (by simp only [hhb,q]),ag2,ae8,h1,aeu];rfl
   ·rw [h2,SC])
  clear ha ham hC htk kHs kA hhb h hR2 hUr;cases hb with
  | true =>
    replace cN:=cN rfl;clear cY;refine wk ?_;exact ag _ _ _ (by omega) (CutL (b:=by have:=hZY.out;simp<;>omega)) ⟨j+1,_,C,y,rfl,hjl,by omega,hid (by have:=hZY.out;simp<;>omega),cN,rfl,rfl⟩
  | false =>
    replace cY:=cY rfl;clear cN;refine wk ?_;exact ag _ _ _ (by omega) (CutL (b:=by have:=hZY.out;simp<;>omega)) ⟨j+1,_,_,_,rfl,hjl,by omega,hid (by have:=hZY.out;simp<;>omega),cY,rfl,rfl⟩
 have hje:j=now.length:=by omega
 subst hje;have g5:¬ (now.length:Int)<(now.length:Int):=by omega
 obtain ⟨V,hV⟩:∃ V:List Mdf,U++(now.filter fun a => !HD ts l a.1 a.2).map (fun a=>(0,a.1,[a.2]))=V:=⟨_,rfl⟩;have hC2:=hC.out;rw [aeE,hV] at hC2;obtain ⟨V,rfl,rfl,rfl⟩:=hC2;have hVr:∀ m∈V,am m.2.1/\m.2.2.length<=1000:=fun m hm=>by
  rw [<- hV] at hm;rcases aeo.1 hm with hm|hm
  ·exact hUr.out m hm
  ·obtain ⟨a,ha,rfl⟩:=aey.1 hm;exact ⟨hn.out a (afv.1 ha).1,by simp⟩
 have hR3:=hR2.out;rw [hV] at hR3;replace hR3:=hid hR3;replace hVr:=hid hVr;clear hV hC hR2 hUr kHs;refine wk ?_;refine lY ?_;simp only [AV.frzL,AV.frz,SD];refine kA.out V (by omega) hVr.out ?_;rw [hR3.out];refine sk ?_;refine wk ?_;exact aZ (ab (by simp only [AV.frz,AV.frzL,mR,AV.refs,AV.refsL,jz];rfl) (by simp only [AV.frz,AV.frzL,mR];exact h.out))
set_option maxRecDepth 1000000
def unC:List AV->List Cls
 | .str a :: .str b :: .int _ k :: .sl m _ _ :: .sl n _ _::t=>(a,b,k,m.map (fun | .str s=>s|_=>[]),n.map (fun | .str s=>s|_=>[]))::unC t
 | _=>[]
def uz:List Cls:=unC SS
theorem Yl:bE uz=SS:=by kernel_rfl
theorem Lm:uz.length=9:=by kernel_rfl
def acd (cs:List Cls) (j:Nat):Bool:=il (cs.getD j cC).1 && ((cs.take j).all fun c=>decide (aa c.1≠aa (cs.getD j cC).1)) && (decide ((cs.getD j cC).2.1=[]) || (List.range j).any fun w=>decide (aa (cs.getD w cC).1=aa (cs.getD j cC).2.1))
theorem aak:ue uz:=by
 refine ⟨fun j hj=>?_,by rw [Lm];decide,fun c hc=>?_⟩
 ·have h:((List.range 9).all (acd uz))=true:=by kernel_rfl
  have h1:=ael.1 h j (by rw [Lm] at hj;simpa using hj);simp only [acd,aek,ae6,ael,afL,decide_eq_true_eq,List.mem_range] at h1;exact ⟨h1.1.1,h1.1.2,fun hne=>(h1.2.resolve_left hne)⟩
 ·have:uz.all (fun c=>decide (c.1.length<=1000) && decide (c.2.1.length<=1000) && decide (c.2.2.2.1.length<=1000) && decide (c.2.2.2.2.length<=1000) && c.2.2.2.1.all (fun v=>decide (v.length<=1000)) && c.2.2.2.2.all (fun v=>decide (v.length<=1000)))=true:=by kernel_rfl
  have:=ael.1 this c hc;simp only [aek,decide_eq_true_eq,ael] at this;obtain ⟨⟨⟨⟨⟨h1,h2⟩,h3⟩,h4⟩,h5⟩,h6⟩:=this;exact ⟨by unfold am;omega,by unfold am;omega,by omega,by omega,fun v hv=>by have:=h5 v hv;unfold am;omega,fun v hv=>by have:=h6 v hv;unfold am;omega⟩
abbrev cnS:List UInt8:=[99,110]
abbrev snS:List UInt8:=[115,110]
abbrev obS:List UInt8:=[111,98,106,101,99,116,67,108,97,115,115]
abbrev peS:List UInt8:=[112,101,114,115,111,110]
theorem aaG {L0 L1 L2:List Blk} {r:AV} {Q:AV->List Blk->Prop} (hl:L0.length<=L1.length) (hk:(∀ k∈L0,k.refs (fun i=>decide (i<L0.length))=true)->∀ k∈L1,k.refs (fun i=>decide (i<L1.length))=true) (hr:r.refs (fun i=>decide (i<L1.length))=true)
  (h:Q r L1):Fin L0 r (L1++L2) Q:=fun w0 S0 E0 E w v h0 hn hw hR hv=>by
 have hcut:=hR.cut (hk hw);refine ⟨E.res L1.length id,r,L1,Qv h0 hn hl id (fun _ _=>rfl),h,VR.cut (E:=E) (E':=E.res L1.length id) (p:=fun i=>decide (i<L1.length)) (fun _ _ _ x=>x) (fun i c hi hc=>?_) (fun i t hi ht=>?_) r v hr hv,hcut⟩
 ·rw [Env.res_loc (by simpa using hi)];exact hc
 ·rw [Env.res_tok (by simpa using hi)];exact ht
theorem abH {l:List Atr} {cap:Option Nat} (hl:l.length<=1100000) (hz:∀ a∈l,a.2.length<=1100000) {L:List Blk} (hLr:∀ p,∀ k∈L,k.refs p=true) {K:aef} (h:K (.gsl (bh l) l.length L.length 2) (L++[.spare l.length 2])) :
  aee 21 [.sl (bh l) l.length cap] L K:=by
 replace h:=hid h;refine aed PJ ?_;refine cz (l:=[]) (n:=0) 3 2 rfl (aeX 2).symm ?_;refine ai (fun m T' L'=>∃ (k:Nat) (C:List AV) (X:List Blk),m=l.length - k/\k<=l.length/\C=bh (l.take k)/\T'=[(8,.int .i64 (k:Int)),(7,.int .i64 l.length),(6,.sl (bh l) l.length cap),(3,.gsl C k L.length 2)]/\L'=L++(.spare k 2::X)) (CutS (b:=by simp)) ⟨0,[],[],rfl,aej _,rfl,rfl,rfl⟩ ?_;rintro _ _ _ ⟨k,C,X,rfl,hk,hC,rfl,rfl⟩;by_cases hlt:k<l.length
 ·have g1:(k:Int)<(l.length:Int):=by omega
  have g2:=aec k (by omega);have e3:=iH hlt;have e4:k * 2+2<=(bh l).length:=by rw [fZ];omega
  obtain ⟨⟨nm,vs⟩,ha⟩:∃ a,l.getD k ([],[])=a:=⟨_,rfl⟩;have htk:bh (l.take (k+1))=bh (l.take k)++[.str nm,.sl (vs.map AV.str) vs.length none]:=by
   rw [aeL hlt,NZ,show l[k]=(nm,vs) by rw [<- ha];simp [hlt]];rfl
  have hvs:=hz (nm,vs) (by rw [<- ha];simp [hlt]);simp only at hvs;rw [ha] at e3;simp only [atA] at e3;have e0:AV.frzL (vs.map AV.str)=vs.map AV.str:=cy vs;replace htk:=hid htk;replace hC:=hid hC;clear ha hz;refine wk ?_;exact ag _ _ _ (by omega) (CutL (b:=by simp)) ⟨k+1,_,_,rfl,hlt,by rw [htk.out,hC.out],rfl,rfl⟩
 ·have hke:k=l.length:=by omega
  subst hke;have g1:¬ (l.length:Int)<(l.length:Int):=by omega
  rw [aeE] at hC;subst hC;have e0:=mR l;refine wk ?_;rw [show L++Blk.spare l.length 2::X=(L++[Blk.spare l.length 2])++X by simp];exact aaG (by simp) (fun _ k hk=>by
   rcases aeo.1 hk with e|e
   ·exact hLr _ k e
   ·simp only [aeO] at e;subst e;rfl) (by simp [AV.refs,jz]) h.out
theorem Wn:Ld bv [] [(obS,[peS]),(cnS,[[97]])]=([(cnS,[[97]]),(obS,[peS])],0):=by kernel_rfl
theorem Wm:Ld bv [] [(cnS,[[97]]),(obS,[peS]),(snS,[[120]])]=([(cnS,[[97]]),(obS,[peS]),(snS,[[120]])],0):=by kernel_rfl
theorem ac7:abm bv [(cnS,[[97]]),(obS,[peS]),(snS,[[120]])] [(cnS,[97])] [(cnS,[98])] true=([(cnS,[[98]]),(obS,[peS]),(snS,[[120]])],0):=by kernel_rfl
theorem ac6:TE bv uz [(cnS,[97])] [(cnS,[[97]]),(obS,[peS])]=65:=by kernel_rfl
theorem ac5:TE bv uz [(cnS,[98])] [(cnS,[[97]]),(obS,[peS]),(snS,[[120]])]=64:=by kernel_rfl
theorem ac4:TE bv uz [(cnS,[65])] [(cnS,[[97]]),(obS,[peS]),(snS,[[120]])]=0:=by kernel_rfl
theorem Wv:aee 8 [] [] fun v _=>v=.bool true:=by
 have f0:Pv bv [(cnS,[[97]]),(obS,[peS])]:=⟨by have:=P9 (ts:=bv) (VW _) (congrArg Prod.snd Wn);rw [Wn] at this;exact this,by decide,by decide⟩;have f1:Pv bv [(cnS,[[97]]),(obS,[peS]),(snS,[[120]])]:=⟨by have:=P9 (ts:=bv) (VW _) (congrArg Prod.snd Wm);rw [Wm] at this;exact this,by decide,by decide⟩;have rc:∀ b:UInt8,∀ a∈[(cnS,[b])],am (a:Ava).1:=fun b a ha=>by simp only [aeO] at ha;subst ha;unfold am;simp
 obtain ⟨x,hx⟩:=aea (aW bv);obtain ⟨m,hm⟩:=aea (bv.length);obtain ⟨y,hy⟩:=aea (SS);have hxf:AV.frzL x=x:=by rw [<- hx,LR]
 have hyf:AV.frzL y=y:=by rw [<- hy,Ym]
 have hxr:∀ p,AV.refsL p x=true:=fun p=>by rw [<- hx];exact N6 p _
 have hyr:∀ p,AV.refsL p y=true:=fun p=>by rw [<- hy];rfl
 have kk1:Hid (Ctr Tryz.prog 20 [] (.agg [.sl x m none,.sl y 9 none])):=hid fun q=>adg (by rw [hx,hm,hy];exact q)
 have kk2:Hid (Ctr Tryz.prog 19 [.agg [.sl x m none,.sl y 9 none],.sl [.str obS,.sl [.str peS] 1 (some 1),.str cnS,.sl [.str [97]] 1 (some 1)] 2 (some 2)] (.tup [.sl [.str cnS,.sl [.str [97]] 1 none,.str obS,.sl [.str peS] 1 none] 2 none,.int .i64 0])):=@hid _ (by
  intro L K q;refine lY ?_;simp only [AV.frzL,AV.frz,hxf,hyf];rw [<- hx,<- hm];exact Tf (capT:=none) (cap:=none) (c2:=y) (n2:=9) (cap2:=none) (list:=[(obS,[peS]),(cnS,[[97]])]) Qf (by decide) (fun a ha=>by simp only [aex,agB,or_false] at ha;rcases ha with rfl|rfl<;>exact ⟨by unfold am;decide,by decide⟩) Wn q)
 have kT:Hid (∀ {L:List Blk} {K:aef},(∀ p,∀ k∈L,k.refs p=true)->K (.gsl [.str cnS,.sl [.str [97]] 1 none,.str obS,.sl [.str peS] 1 none] 2 L.length 2) (L++[.spare 2 2])->aee 21 [.sl [.str cnS,.sl [.str [97]] 1 none,.str obS,.sl [.str peS] 1 none] 2 none] L K):=@hid _ (by
  intro L K hL q;exact abH (l:=[(cnS,[[97]]),(obS,[peS])]) (by decide) (by decide) hL q)
 have kk3:Hid (∀ {i:Nat} {L:List Blk} {K:aef},K (.tup [.sl [.str cnS,.sl [.str [97]] 1 none,.str obS,.sl [.str peS] 1 none,.str snS,.sl [.str [120]] 1 none] 3 none,.int .i64 0]) L->aee 19 [.agg [.sl x m none,.sl y 9 none],.gsl [.str cnS,.sl [.str [97]] 1 none,.str obS,.sl [.str peS] 1 none,.str snS,.sl [.str [120]] 1 none] 3 i 2] L K):=@hid _ (by
  intro i L K q;refine lY ?_;simp only [AV.frzL,AV.frz,hxf,hyf];rw [<- hx,<- hm];exact Tf (capT:=none) (cap:=none) (c2:=y) (n2:=9) (cap2:=none) (list:=[(cnS,[[97]]),(obS,[peS]),(snS,[[120]])]) Qf (by decide) (fun a ha=>by simp only [aex,agB,or_false] at ha;rcases ha with rfl|rfl|rfl<;>exact ⟨by unfold am;decide,by decide⟩) Wm q)
 have kk4:Hid (Ctr Tryz.prog 11 [.agg [.sl x m none,.sl y 9 none],.sl [.str cnS,.sl [.str [97]] 1 none,.str obS,.sl [.str peS] 1 none,.str snS,.sl [.str [120]] 1 none] 3 none,.sl [.str cnS,.str [97]] 1 (some 1),.sl [.str cnS,.str [98]] 1 (some 1),.bool true] (.tup [.sl [.str cnS,.sl [.str [98]] 1 none,.str obS,.sl [.str peS] 1 none,.str snS,.sl [.str [120]] 1 none] 3 none,.int .i64 0])):=@hid _ (by
  intro L K q;rw [<- hx,<- hm];exact XD (capT:=none) (cap:=none) (c2:=y) (n2:=9) (cap2:=none) (l:=[(cnS,[[97]]),(obS,[peS]),(snS,[[120]])]) (was:=[(cnS,[97])]) (now:=[(cnS,[98])]) Qf f1.i (by decide) (by decide) (by decide) (by decide) (rc 97) (rc 98) ac7 q)
 have fit:∀ (b:UInt8) (l:List Atr) (r:Int),Pv bv l->TE bv uz [(cnS,[b])] l=r->∀ {L:List Blk} {K:aef},K (.int .i64 r) L->aee 9 [.agg [.sl x m none,.sl y 9 none],.sl [.str cnS,.str [b]] 1 (some 1),.sl (bh l) l.length none] L K:=fun b l r h1 h2 L K q=>by
  rw [<- hx,<- hm,<- hy,<- Yl,<- Lm];exact U4 (capT:=none) (capC:=none) (cap:=none) (rdn:=[(cnS,[b])]) Qf aak h1 (by simp) (rc b) (by rw [h2];exact q)
 have kk5:Hid (Ctr Tryz.prog 9 [.agg [.sl x m none,.sl y 9 none],.sl [.str cnS,.str [97]] 1 (some 1),.sl [.str cnS,.sl [.str [97]] 1 none,.str obS,.sl [.str peS] 1 none] 2 none] (.int .i64 65)):=hid fun q=>fit 97 _ _ f0 ac6 q
 have kk6:Hid (Ctr Tryz.prog 9 [.agg [.sl x m none,.sl y 9 none],.sl [.str cnS,.str [98]] 1 (some 1),.sl [.str cnS,.sl [.str [97]] 1 none,.str obS,.sl [.str peS] 1 none,.str snS,.sl [.str [120]] 1 none] 3 none] (.int .i64 64)):=hid fun q=>fit 98 _ _ f1 ac5 q
 have kk7:Hid (Ctr Tryz.prog 9 [.agg [.sl x m none,.sl y 9 none],.sl [.str cnS,.str [65]] 1 (some 1),.sl [.str cnS,.sl [.str [97]] 1 none,.str obS,.sl [.str peS] 1 none,.str snS,.sl [.str [120]] 1 none] 3 none] (.int .i64 0)):=hid fun q=>fit 65 _ _ f1 ac4 q
 clear hxf hyf hx hm hy f0 f1 rc fit;refine aed OI ?_;refine ⟨.gsl [.str cnS,.sl [.str [97]] 1 none,.str obS,.sl [.str peS] 1 none] 2 1 2,[.cells [.sl x m none,.sl y 9 none],.spare 2 2],kT.out (fun p k hk=>by simp only [aeO] at hk;subst hk;simp only [Blk.refs,AV.refsL,AV.refs,hxr,hyr,afD]) ⟨rfl,rfl⟩,?_⟩;refine ⟨⟨aeg _,rfl,rfl⟩,?_⟩;refine (show Yz _ (some (_,_,_)) from ?_);rw [S8];refine ⟨⟨rfl,rfl,rfl,by decide,by decide⟩,?_⟩;refine ⟨⟨⟨aeg _,rfl,rfl⟩,trivial⟩,?_⟩;simp only [afX,List.set_cons_zero,aeT,aeR,Nat.reduceAdd];refine sk ?_;refine wk ?_;exact ac rfl
theorem aal {P:Program} {f:FuncId} {b:Bool} (h:ae P f [] [] fun v _=>v=.bool b) (hk:K (.bool b) L):ae P f [] L K:=fun w0 S0 E w vs hR hv=>by
 have hR0:Rel w ⟨fun _=>False,0⟩ { mem:=E.mem,loc:=fun _=>none,tok:=fun _=>none } [] w:=by
  refine ⟨hR.mem,?_,fun _ _=>rfl,?_,?_,fun _ _=>rfl,?_,?_,?_,fun _ _ _=>rfl,aeg _,rfl,rfl,rfl,hR.glob,hR.gsz⟩
  all_goals intros;simp_all
 have key:∀ {E':Env} {L':List Blk} {w':World},Rel w ⟨fun _=>False,0⟩ E' L' w'->LJ w w':=fun k=>⟨fun b hb=>k.frame b hb (fun x=>x),k.size,k.os,k.tape,k.output⟩
 have hv0:VRL { mem:=E.mem,loc:=fun _=>none,tok:=fun _=>none } [] vs:=by
  simpa only [VRL] using hv
 rcases h w _ _ w vs hR0 hv0 with ⟨h1,h2⟩|⟨E',v,av,L',w',h1,h2,h3,h4,h5⟩
 ·refine .inl ⟨h1,h2.mono fun e w' ⟨E',v,av,L',a,b,c,d,r⟩=>⟨E,v,_,L,a,.refl E,hk,?_,hR.grown (key r)⟩⟩;subst c;simpa only [VR] using d
 ·refine .inr ⟨E,v,_,L,w',h1,.refl E,hk,?_,hR.grown (key h5)⟩;subst h3;simpa only [VR] using h4
theorem Yt (h:K (.bool true) L):aee 8 [] L K:=aal Wv h
end Go.Proofs.YtigifoeopopnbaaGreatDoor.Av
