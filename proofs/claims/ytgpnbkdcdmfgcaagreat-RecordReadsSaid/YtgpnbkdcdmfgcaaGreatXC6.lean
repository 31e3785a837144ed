/- Joined texts of the walk, made small by a program. -/
import Derived.Test.YtgpnbkdcdmfgcaaGreatXC2
import Derived.Test.YtgpnbkdcdmfgcaaGreatXP4
import Derived.Test.YtgpnbkdcdmfgcaaGreatRows
import Derived.KernelRfl
import Derived.Test.YtgpnbkdcdmfgcaaGreatXC1
set_option linter.unusedSimpArgs false
set_option linter.unusedVariables false
namespace Go.Proofs.YtgpnbkdcdmfgcaaGreat.Av
open Go
set_option maxHeartbeats 8000000
set_option maxRecDepth 100000
def lpN (p:Nat→Nd×Nat×Int) (stop:Nat):Nat→Nat→List Nd→List Nd×Nat×Int
 | 0,pos,acc=>(acc,pos,0)
 | F+1,pos,acc=>if stop≤pos then (acc,pos,0) else if (p pos).2.2≠0 then (acc++[(p pos).1],(p pos).2.1,(p pos).2.2) else lpN p stop F (p pos).2.1 (acc++[(p pos).1])
def szN (s:List UInt8) (pos:Nat):Nat×Nat :=
 if 128<(s.getD (pos+1) 0).toNat then (eU ((s.drop (pos+2)).take ((s.getD (pos+1) 0).toNat - 128)),pos+2+((s.getD (pos+1) 0).toNat - 128)) else ((s.getD (pos+1) 0).toNat,pos+2)
def elN:Nat→List UInt8→Nat→Nat→Nd×Nat×Int
 | 0,_,_,pos=>(aB,pos,6)
 | f+1,s,e,pos =>
   if e≤pos then (aB,pos,3) else
   if (s.getD pos 0).toNat % 32=31 then (aB,pos,7) else
   if e≤pos+1 then (aB,pos,3) else
   if (s.getD (pos+1) 0).toNat=128∨132<(s.getD (pos+1) 0).toNat then (aB,pos+2,8) else
   if 128<(s.getD (pos+1) 0).toNat∧e - (pos+2)<(s.getD (pos+1) 0).toNat - 128 then (aB,pos+2,3) else
   if 128<(s.getD (pos+1) 0).toNat∧1048576<(szN s pos).1 then (aB,pos+2,5) else
   if e - (szN s pos).2<(szN s pos).1 then (aB,(szN s pos).2,3) else
   if (s.getD pos 0).toNat / 32 % 2=0 then (.mk (s.getD pos 0).toNat ((s.drop (szN s pos).2).take (szN s pos).1) [],(szN s pos).2+(szN s pos).1,0) else
   (.mk (s.getD pos 0).toNat [] (lpN (elN f s ((szN s pos).2+(szN s pos).1)) ((szN s pos).2+(szN s pos).1) (szN s pos).1 (szN s pos).2 []).1,(lpN (elN f s ((szN s pos).2+(szN s pos).1)) ((szN s pos).2+(szN s pos).1) (szN s pos).1 (szN s pos).2 []).2)
def slN (s:List UInt8) (a e:Nat):List UInt8:=(s.drop a).take (e - a)
theorem Hb {s:List UInt8} {a e:Nat} (he:e≤s.length):(slN s a e).length=e - a:=by simp [slN];omega
theorem yD {s:List UInt8} {a e:Nat} (he:e≤s.length):slN s a e=[]↔e≤a:=by
 rw [← List.length_eq_zero_iff,Hb he];omega
theorem Hc {s:List UInt8} {a e i:Nat} (h:a+i<e):(slN s a e).getD i 0=s.getD (a+i) 0:=by
 simp only [slN,List.getD_eq_getElem?_getD]
 rw [List.getElem?_take_of_lt (by omega),List.getElem?_drop]
theorem CE {s:List UInt8} {a e i:Nat}:(slN s a e).drop i=slN s (a+i) e:=by
 simp only [slN,List.drop_take,List.drop_drop]
 congr 1;omega
theorem Fd {s:List UInt8} {a e i:Nat} (h:a+i≤e):(slN s a e).take i=slN s a (a+i):=by
 simp only [slN,List.take_take]
 congr 1;omega
def ElP (f:Nat) (s:List UInt8) (e pos:Nat):Prop :=
 match dq f (slN s pos e) with
 | .error c=>(elN f s e pos).2.2=c
 | .ok (n,r)=>∃ p,elN f s e pos=(n,p,0)∧pos<p∧p≤e∧r=slN s p e
theorem Hs {f:Nat} {s:List UInt8} {stop:Nat} (hst:stop≤s.length) (ih:∀ pos,pos≤stop→ElP f s stop pos):∀ (F pos:Nat) (acc:List Nd),pos≤stop→stop - pos≤F →
   match fc (dq f) F (slN s pos stop) with
   | .error c=>(lpN (elN f s stop) stop F pos acc).2.2=c
   | .ok ks=>lpN (elN f s stop) stop F pos acc=(acc++ks,stop,0)
 | 0,pos,acc,hp,hF=>by
   have e:slN s pos stop=[]:=(yD hst).2 (by omega)
   rw [e]
   show lpN _ _ 0 pos acc=_
   rw [lpN];simp;omega
 | F+1,pos,acc,hp,hF=>by
   by_cases he:stop≤pos
   · have e:slN s pos stop=[]:=(yD hst).2 he
     rw [e]
     show lpN _ _ (F+1) pos acc=_
     rw [lpN,if_pos he];simp;omega
   · have hne:slN s pos stop≠[]:=fun e=>he ((yD hst).1 e)
     rw [EE hne,lpN,if_neg he]
     have h1:=ih pos hp
     unfold ElP at h1
     rcases hpp:dq f (slN s pos stop) with c|⟨n,r⟩
     · rw [hpp] at h1
       simp only at h1 ⊢
       have hc:=jQ f _ c hpp
       rw [if_pos (by rw [h1];exact hc),h1]
     · rw [hpp] at h1
       obtain ⟨p,h2,h3,h4,rfl⟩:=h1
       simp only
       rw [if_neg (by rw [h2];simp),h2]
       have h5:=Hs hst ih F p (acc++[n]) h4 (by omega)
       simp only
       rcases hm:fc (dq f) F (slN s p stop) with c|ks
       · rw [hm] at h5;exact h5
       · rw [hm] at h5
         simp only at h5 ⊢
         rw [h5];simp
theorem GU:∀ (f:Nat) {s:List UInt8} {e pos:Nat},pos≤e→e≤s.length→ElP f s e pos
 | 0,s,e,pos,hp,he=>by simp [ElP,dq,elN]
 | f+1,s,e,pos,hp,he=>by
   unfold ElP
   rw [dq,elN]
   by_cases h0:e≤pos
   · rw [if_pos ((yD he).2 h0),if_pos h0]
   rw [if_neg (fun h=>h0 ((yD he).1 h)),if_neg h0]
   have g0:(slN s pos e).getD 0 0=s.getD pos 0:=Hc (by omega)
   simp only [g0]
   by_cases h31:(s.getD pos 0).toNat % 32=31
   · rw [if_pos h31,if_pos h31]
   rw [if_neg h31,if_neg h31]
   have hl:=Hb (a:=pos) he
   by_cases h1:e≤pos+1
   · have hb:iK (slN s pos e)=.error 3:=by unfold iK;rw [if_pos (by omega)]
     rw [hb,if_pos h1]
   have g1:(slN s pos e).getD 1 0=s.getD (pos+1) 0:=Hc (by omega)
   obtain ⟨z,hz⟩:∃ z,(s.getD (pos+1) 0).toNat=z:=⟨_,rfl⟩
   rw [if_neg h1]
   simp only [hz]
   by_cases h8:z=128∨132<z
   · have hb:iK (slN s pos e)=.error 8:=by
       unfold iK;rw [if_neg (by omega)]
       simp only [g1,hz]
       rw [if_neg (by omega),if_pos h8]
     rw [hb,if_pos h8]
   rw [if_neg h8]
   by_cases h3:128<z∧e - (pos+2)<z - 128
   · have hb:iK (slN s pos e)=.error 3:=by
       unfold iK;rw [if_neg (by omega)]
       simp only [g1,hz]
       rw [if_neg (by omega),if_neg h8,if_pos (by omega)]
     rw [hb,if_pos h3]
   rw [if_neg h3]
   have hq:szN s pos=if 128<z then (eU ((s.drop (pos+2)).take (z - 128)),pos+2+(z - 128)) else (z,pos+2):=by simp only [szN,hz]
   have hd:((slN s pos e).drop 2).take (z - 128)=(s.drop (pos+2)).take (z - 128):=by
     by_cases h4:128<z
     · rw [CE,Fd (by omega),slN];congr 1;omega
     · rw [show z - 128=0 by omega];simp
   by_cases h5:128<z∧1048576<(szN s pos).1
   · have hb:iK (slN s pos e)=.error 5:=by
       unfold iK;rw [if_neg (by omega)]
       simp only [g1,hz,hd]
       rw [if_neg (by omega),if_neg h8,if_neg (by omega)]
       rw [hq,if_pos h5.1] at h5
       rw [if_pos h5.2]
     rw [hb,if_pos h5]
   rw [if_neg h5]
   have hb:iK (slN s pos e)=.ok ((szN s pos).1,(szN s pos).2 - pos):=by
     unfold iK;rw [if_neg (by omega)]
     simp only [g1,hz,hd]
     rw [hq] at h5 ⊢
     by_cases h4:128<z
     · simp only [if_pos h4] at h5 ⊢
       rw [if_neg (by omega),if_neg h8,if_neg (by omega),if_neg (by omega)]
       congr 2;omega
     · simp only [if_neg h4]
       rw [if_pos (by omega)]
       congr 2;omega
   have hq2:pos+2≤(szN s pos).2∧(szN s pos).2≤e:=by
     rw [hq]
     split
     · simp only;omega
     · simp only;omega
   rw [hb]
   simp only
   obtain ⟨⟨n,q⟩,hnq⟩:∃ x,szN s pos=x:=⟨_,rfl⟩
   rw [hnq] at hq2 ⊢
   simp only at hq2 ⊢
   by_cases h6:e - q<n
   · rw [if_pos (by omega),if_pos h6]
   rw [if_neg (by omega),if_neg h6]
   have hin:((slN s pos e).drop (q - pos)).take n=slN s q (q+n):=by
     rw [CE,show pos+(q - pos)=q by omega,Fd (by omega)]
   have hrest:(slN s pos e).drop (q - pos+n)=slN s (q+n) e:=by rw [CE];congr 1;omega
   have hin2:slN s q (q+n)=(s.drop q).take n:=by rw [slN];congr 1;omega
   rw [hin,hrest]
   by_cases h7:(s.getD pos 0).toNat / 32 % 2=0
   · rw [if_pos h7,if_pos h7]
     exact ⟨q+n,by rw [hin2],by omega,by omega,rfl⟩
   rw [if_neg h7,if_neg h7]
   have hlp:=Hs (f:=f) (s:=s) (stop:=q+n) (by omega) (fun p hp=>GU f hp (by omega)) n q [] (by omega) (by omega)
   rcases hm:fc (dq f) n (slN s q (q+n)) with c|ks
   · rw [hm] at hlp
     exact hlp
   · rw [hm] at hlp
     simp only [List.nil_append] at hlp ⊢
     rw [hlp]
     exact ⟨q+n,rfl,by omega,by omega,rfl⟩
end Go.Proofs.YtgpnbkdcdmfgcaaGreat.Av
set_option maxRecDepth 100000
namespace Go.Proofs.YtgpnbkdcdmfgcaaGreat.Av
open Go
def pR:List SOp :=
 [o1 2 (.alloc [(.int .i64 0),(.str []),(.sl [] 0 (some 0))]),
 o1 3 (.mv (iv 0))]
def pQ:List SOp :=
 [o1 8 (.mv (tm 0)),
 o1 9 (.call 53 [(tm 8)]),
 o1 7 (.mv (tm 9)),
 o1 10 (.extract (tm 7) 0),
 o1 11 (.extract (tm 7) 1),
 o1 12 (.extract (tm 7) 2),
 o1 4 (.alloc [(.int .i64 0),(.str []),(.sl [] 0 (some 0))]),
 o0 (.store 3 (tm 4) (tm 10)),
 o1 5 (.mv (tm 11)),
 o1 6 (.mv (tm 12))]
def pP:List SOp :=
 [o1 13 (.mv (tm 6)),
 o1 14 (.bin .eql (tm 13) (iv 0)),
 o1 15 (.mv (tm 14)),
 .grp none 15 true
 [og 16 15 true (.mv (tm 5)),
 og 17 15 true (.len true (tm 16)),
 og 18 15 true (.bin .gtr (tm 17) (iv 0))]
 19 (tm 18)]
def pO:List SOp :=
 [o1 6 (.mv (iv 4))]
def pN:List SOp :=
 [o1 20 (.mv (tm 6)),
 o1 21 (.bin .neq (tm 20) (iv 0))]
def pM:List SOp :=
 [o1 22 (.build [(.int .i64 0),(.str []),(.sl [] 0 (some 0))] []),
 o1 23 (.mv (tm 6)),
 o0 (.store 3 (tm 2) (tm 22)),
 o1 3 (.mv (tm 23))]
def pL:List SOp :=
 [o1 24 (.load true 3 (tm 4)),
 o0 (.store 3 (tm 2) (tm 24)),
 o1 3 (.mv (iv 0))]
def cP:aK:=⟨25,(.seq (.sreg pR [])
 (.seq (.sreg pQ [true,true,true,false,false,false,false,false,false])
 (.seq (.seq (.sreg pP [true,false,false,false])
 (.cond (tm 19) (.sreg pO [])
 .skip))
 (.seq (.seq (.sreg pN [true,false])
 (.cond (tm 21) (.seq (.sreg pM [true,false,false])
 .ret)
 .skip))
 (.seq (.sreg pL [true,false])
 .ret))))),[(.cell true 3 2),(.tmp 3)]⟩
attribute [push_cast] pR pQ pP pO pN pM pL
theorem fO:aQ Tryz.prog (fun _ _=>1) 36=some cP.raw:=by kernel_rfl
def pX:List SOp :=
 [o1 2 (.alloc [(.int .i64 0),(.str []),(.sl [] 0 (some 0))]),
 o1 3 (.mv (.av (.str []))),
 o1 4 (.mv (iv 0))]
def pW:List SOp :=
 [o1 7 (.mv (tm 0)),
 o1 8 (.build [(.str []),(.int .i64 0),(.int .i64 0)] [(0,(1,(tm 7)))]),
 o1 9 (.box (tm 8)),
 o1 5 (.mv (tm 9))]
def pV:List SOp :=
 [o1 10 (.mv (tm 5)),
 o1 11 (.mv (tm 0)),
 o1 12 (.len true (tm 11)),
 o1 13 (.call 78 [(tm 10),(tm 12),(iv 1)]),
 o1 6 (.alloc [(.int .i64 0),(.str []),(.sl [] 0 (some 0))]),
 o0 (.store 3 (tm 6) (tm 13))]
def pU:List SOp :=
 [o1 14 (.mv (tm 5)),
 o1 15 (.nilchk (tm 14)),
 o1 16 (.faddr 2 (tm 15)),
 o1 17 (.load false 1 (tm 16)),
 o1 18 (.bin .neq (tm 17) (iv 0))]
def pT:List (ah×Kd) :=
 [od 19 (.build [(.int .i64 0),(.str []),(.sl [] 0 (some 0))] []) .pure,
 od 20 (.mv (tm 5)) .pure,
 od 21 (.nilchk (tm 20)) (.read 0 1),
 od 22 (.faddr 2 (tm 21)) .pure,
 od 23 (.load false 1 (tm 22)) (.read 0 1),
 (⟨none,(.store 3 (tm 2) (tm 19)),none⟩,.eff),
 od 3 (.mv (.av (.str []))) .pure]
def lZ:List ah :=
 [⟨(some 4),(.mv (tm 23)),none⟩]
def pS:List (ah×Kd) :=
 [od 24 (.load true 3 (tm 6)) (.read 0 0),
 od 25 (.mv (tm 0)) .pure,
 od 26 (.mv (tm 5)) .pure,
 od 27 (.nilchk (tm 26)) (.read 0 1),
 od 28 (.faddr 1 (tm 27)) .pure,
 od 29 (.load false 1 (tm 28)) (.read 0 1),
 od 30 (.slS (tm 25) (some (tm 29)) none) (.read 0 1),
 (⟨none,(.store 3 (tm 2) (tm 24)),none⟩,.eff)]
def lY:List ah :=
 [⟨(some 3),(.mv (tm 30)),none⟩,
 ⟨(some 4),(.mv (iv 0)),none⟩]
def eK:aK:=⟨31,(.seq (.sreg pX [])
 (.seq (.sreg pW [true,false,false,false])
 (.seq (.sreg pV [true,false,false,false,false])
 (.seq (.seq (.sreg pU [true,false,false,false,false])
 (.cond (tm 18) (.seq (.dregM pT lZ [true,true,false,false,false,false,false])
 .ret)
 .skip))
 (.seq (.dregM pS lY [true,true,false,false,false,false,false,false,false])
 .ret))))),[(.cell true 3 2),(.tmp 3),(.tmp 4)]⟩
attribute [push_cast] pX pW pV pU pT lZ pS lY
theorem mY:aQ Tryz.prog (fun _ _=>1) 53=some eK.raw:=by kernel_rfl
def eH:List SOp :=
 [o1 6 (.alloc [(.int .i64 0),(.str []),(.sl [] 0 (some 0))])]
def eG:List SOp :=
 [o1 14 (.mv (tm 2)),
 o1 15 (.bin .gtr (tm 14) (iv 64))]
def eF:List SOp :=
 [o1 16 (.mv (tm 0)),
 o1 17 (.call 102 [(tm 16),(iv 6)]),
 o0 (.store 3 (tm 6) (tm 17))]
def eE:List SOp :=
 [o1 18 (.mv (tm 0)),
 o1 19 (.nilchk (tm 18)),
 o1 20 (.faddr 1 (tm 19)),
 o1 21 (.load false 1 (tm 20)),
 o1 22 (.mv (tm 1)),
 o1 23 (.bin .geq (tm 21) (tm 22))]
def eD:List SOp :=
 [o1 24 (.mv (tm 0)),
 o1 25 (.call 102 [(tm 24),(iv 3)]),
 o0 (.store 3 (tm 6) (tm 25))]
def eC:List SOp :=
 [o1 26 (.mv (tm 0)),
 o1 27 (.nilchk (tm 26)),
 o1 28 (.faddr 0 (tm 27)),
 o1 29 (.load false 1 (tm 28)),
 o1 30 (.mv (tm 0)),
 o1 31 (.nilchk (tm 30)),
 o1 32 (.faddr 1 (tm 31)),
 o1 33 (.load false 1 (tm 32)),
 o1 34 (.idxS (tm 29) (tm 33)),
 o1 35 (.conv .i64 (tm 34)),
 o1 7 (.mv (tm 35))]
def eB:List SOp :=
 [o1 36 (.mv (tm 7)),
 o1 37 (.bin .rem (tm 36) (iv 32)),
 o1 38 (.bin .eql (tm 37) (iv 31))]
def eA:List SOp :=
 [o1 39 (.mv (tm 0)),
 o1 40 (.call 102 [(tm 39),(iv 7)]),
 o0 (.store 3 (tm 6) (tm 40))]
def ew:List SOp :=
 [o1 41 (.mv (tm 0)),
 o1 42 (.nilchk (tm 41)),
 o1 43 (.faddr 1 (tm 42)),
 o1 44 (.load false 1 (tm 43)),
 o1 45 (.bin .add (tm 44) (iv 1)),
 o1 46 (.mv (tm 1)),
 o1 47 (.bin .geq (tm 45) (tm 46))]
def ev:List SOp :=
 [o1 48 (.mv (tm 0)),
 o1 49 (.call 102 [(tm 48),(iv 3)]),
 o0 (.store 3 (tm 6) (tm 49))]
def ek:List SOp :=
 [o1 50 (.mv (tm 0)),
 o1 51 (.nilchk (tm 50)),
 o1 52 (.faddr 0 (tm 51)),
 o1 53 (.load false 1 (tm 52)),
 o1 54 (.mv (tm 0)),
 o1 55 (.nilchk (tm 54)),
 o1 56 (.faddr 1 (tm 55)),
 o1 57 (.load false 1 (tm 56)),
 o1 58 (.bin .add (tm 57) (iv 1)),
 o1 59 (.idxS (tm 53) (tm 58)),
 o1 60 (.conv .i64 (tm 59)),
 o1 8 (.mv (tm 60))]
def eh:List SOp :=
 [o1 61 (.mv (tm 0)),
 o1 62 (.nilchk (tm 61)),
 o1 63 (.faddr 1 (tm 62)),
 o1 64 (.load false 1 (tm 63)),
 o1 65 (.bin .add (tm 64) (iv 2)),
 o1 66 (.nilchk (tm 61)),
 o1 67 (.faddr 1 (tm 66)),
 o0 (.store 1 (tm 67) (tm 65))]
def eg:List SOp :=
 [o1 68 (.mv (tm 8)),
 o1 69 (.bin .eql (tm 68) (iv 128)),
 o1 70 (.mv (tm 69)),
 .grp none 70 false
 [og 71 70 false (.mv (tm 8)),
 og 72 70 false (.bin .gtr (tm 71) (iv 132))]
 73 (tm 72)]
def ef:List SOp :=
 [o1 74 (.mv (tm 0)),
 o1 75 (.call 102 [(tm 74),(iv 8)]),
 o0 (.store 3 (tm 6) (tm 75))]
def ee:List SOp :=
 [o1 76 (.mv (tm 8)),
 o1 77 (.bin .gtr (tm 76) (iv 128))]
def ed:List SOp :=
 [o1 78 (.mv (tm 8)),
 o1 79 (.bin .sub (tm 78) (iv 128)),
 o1 9 (.mv (tm 79))]
def d9:List SOp :=
 [o1 80 (.mv (tm 1)),
 o1 81 (.mv (tm 0)),
 o1 82 (.nilchk (tm 81)),
 o1 83 (.faddr 1 (tm 82)),
 o1 84 (.load false 1 (tm 83)),
 o1 85 (.bin .sub (tm 80) (tm 84)),
 o1 86 (.mv (tm 9)),
 o1 87 (.bin .lss (tm 85) (tm 86))]
def d8:List SOp :=
 [o1 88 (.mv (tm 0)),
 o1 89 (.call 102 [(tm 88),(iv 3)]),
 o0 (.store 3 (tm 6) (tm 89))]
def d7:List SOp :=
 [o1 91 (.mv (tm 0)),
 o1 92 (.nilchk (tm 91)),
 o1 93 (.faddr 0 (tm 92)),
 o1 94 (.load false 1 (tm 93)),
 o1 95 (.mv (tm 0)),
 o1 96 (.nilchk (tm 95)),
 o1 97 (.faddr 1 (tm 96)),
 o1 98 (.load false 1 (tm 97)),
 o1 99 (.mv (tm 9)),
 o1 100 (.call 103 [(tm 94),(tm 98),(tm 99)]),
 o1 90 (.mv (tm 100)),
 o1 101 (.extract (tm 90) 0),
 o1 102 (.extract (tm 90) 1),
 o1 10 (.mv (tm 101)),
 o1 11 (.mv (tm 102))]
def d6:List SOp :=
 [o1 103 (.mv (tm 10)),
 o1 104 (.bin .gtr (tm 103) (.av (.int .u64 1048576)))]
def dZ:List SOp :=
 [o1 105 (.mv (tm 0)),
 o1 106 (.call 102 [(tm 105),(iv 5)]),
 o0 (.store 3 (tm 6) (tm 106))]
def dY:List SOp :=
 [o1 107 (.mv (tm 10)),
 o1 108 (.conv .i64 (tm 107)),
 o1 8 (.mv (tm 108))]
def dX:List SOp :=
 [o1 109 (.mv (tm 0)),
 o1 110 (.nilchk (tm 109)),
 o1 111 (.faddr 1 (tm 110)),
 o1 112 (.load false 1 (tm 111)),
 o1 113 (.mv (tm 9)),
 o1 114 (.bin .add (tm 112) (tm 113)),
 o1 115 (.nilchk (tm 109)),
 o1 116 (.faddr 1 (tm 115)),
 o0 (.store 1 (tm 116) (tm 114))]
def dW:List SOp :=
 [o1 117 (.mv (tm 1)),
 o1 118 (.mv (tm 0)),
 o1 119 (.nilchk (tm 118)),
 o1 120 (.faddr 1 (tm 119)),
 o1 121 (.load false 1 (tm 120)),
 o1 122 (.bin .sub (tm 117) (tm 121)),
 o1 123 (.mv (tm 8)),
 o1 124 (.bin .lss (tm 122) (tm 123))]
def dV:List SOp :=
 [o1 125 (.mv (tm 0)),
 o1 126 (.call 102 [(tm 125),(iv 3)]),
 o0 (.store 3 (tm 6) (tm 126))]
def dU:List SOp :=
 [o1 127 (.mv (tm 0)),
 o1 128 (.nilchk (tm 127)),
 o1 129 (.faddr 1 (tm 128)),
 o1 130 (.load false 1 (tm 129)),
 o1 131 (.mv (tm 8)),
 o1 132 (.bin .add (tm 130) (tm 131)),
 o1 12 (.mv (tm 132))]
def dT:List SOp :=
 [o1 133 (.mv (tm 7)),
 o1 134 (.build [(.int .i64 0),(.str []),(.sl [] 0 (some 0))] [(0,(1,(tm 133)))]),
 o1 13 (.alloc [(.int .i64 0),(.str []),(.sl [] 0 (some 0))]),
 o0 (.store 3 (tm 13) (tm 134))]
def dS:List SOp :=
 [o1 135 (.mv (tm 7)),
 o1 136 (.bin .quo (tm 135) (iv 32)),
 o1 137 (.bin .rem (tm 136) (iv 2)),
 o1 138 (.bin .eql (tm 137) (iv 0))]
def dR:List (ah×Kd) :=
 [od 139 (.mv (tm 0)) .pure,
 od 140 (.nilchk (tm 139)) (.read 0 0),
 od 141 (.faddr 0 (tm 140)) .pure,
 od 142 (.load false 1 (tm 141)) (.read 0 0),
 od 143 (.mv (tm 0)) .pure,
 od 144 (.nilchk (tm 143)) (.read 0 0),
 od 145 (.faddr 1 (tm 144)) .pure,
 od 146 (.load false 1 (tm 145)) (.read 0 0),
 od 147 (.mv (tm 12)) .pure]
def dz:List ah :=
 [⟨(some 148),(.slS (tm 142) (some (tm 146)) (some (tm 147))),none⟩,
 ⟨(some 149),(.faddr 1 (tm 13)),none⟩,
 ⟨none,(.store 1 (tm 149) (tm 148)),none⟩]
def dQ:List SOp :=
 [o1 150 (.mv (tm 0)),
 o1 151 (.mv (tm 12)),
 o1 152 (.nilchk (tm 150)),
 o1 153 (.faddr 1 (tm 152)),
 o0 (.store 1 (tm 153) (tm 151))]
def dP:List SOp :=
 [o1 154 (.load true 3 (tm 13)),
 o0 (.store 3 (tm 6) (tm 154))]
def dO:List SOp :=
 [o1 155 (.mv (tm 0)),
 o1 156 (.nilchk (tm 155)),
 o1 157 (.faddr 1 (tm 156)),
 o1 158 (.load false 1 (tm 157)),
 o1 159 (.mv (tm 12)),
 o1 160 (.bin .lss (tm 158) (tm 159)),
 o1 161 (.mv (tm 160)),
 .grp none 161 true
 [og 162 161 true (.mv (tm 0)),
 og 163 161 true (.nilchk (tm 162)),
 og 164 161 true (.faddr 2 (tm 163)),
 og 165 161 true (.load false 1 (tm 164)),
 og 166 161 true (.bin .eql (tm 165) (iv 0))]
 167 (tm 166)]
def dN:List (ah×Kd) :=
 [od 168 (.faddr 2 (tm 13)) .pure,
 od 169 (.load false 1 (tm 168)) (.read 0 1),
 od 170 (.mv (tm 0)) .pure,
 od 171 (.mv (tm 12)) .pure,
 od 172 (.mv (tm 2)) .pure,
 od 173 (.bin .add (tm 172) (iv 1)) .pure,
 od 174 (.call 78 [(tm 170),(tm 171),(tm 173)]) .eff,
 od 175 (.bslice false 3 1 [(.int .i64 0),(.str []),(.sl [] 0 (some 0))] [(0,(3,(tm 174)))]) (.read 0 0)]
def dy:List ah :=
 [⟨(some 176),(.app 1 3 48 [(.int .i64 0),(.str []),(.sl [] 0 (some 0))] (tm 169) (tm 175)),none⟩,
 ⟨(some 177),(.faddr 2 (tm 13)),none⟩,
 ⟨none,(.store 1 (tm 177) (tm 176)),none⟩]
def dM:List SOp :=
 [o1 178 (.load true 3 (tm 13)),
 o0 (.store 3 (tm 6) (tm 178))]
def ag:aK:=⟨179,(.seq (.sreg eH [])
 (.seq (.seq (.sreg eG [true,false])
 (.cond (tm 15) (.seq (.sreg eF [false,false])
 .ret)
 .skip))
 (.seq (.seq (.sreg eE [true,false,false,false,false,false])
 (.cond (tm 23) (.seq (.sreg eD [false,false])
 .ret)
 .skip))
 (.seq (.sdreg eC [.pure,(.read 0 0),.pure,(.read 0 0),.pure,(.read 0 0),.pure,(.read 0 0)] [true,false,false,false,false,false,false,false,false,false,false])
 (.seq (.seq (.sreg eB [true,false,false])
 (.cond (tm 38) (.seq (.sreg eA [false,false])
 .ret)
 .skip))
 (.seq (.seq (.sreg ew [true,false,false,false,false,false,false])
 (.cond (tm 47) (.seq (.sreg ev [false,false])
 .ret)
 .skip))
 (.seq (.sdreg ek [.pure,(.read 0 0),.pure,(.read 0 0),.pure,(.read 0 0),.pure,(.read 0 0),.pure] [true,false,false,false,false,false,false,false,false,false,false,false])
 (.seq (.sreg eh [false,false,false,false,false,false,false])
 (.seq (.seq (.sreg eg [true,false,false,false])
 (.cond (tm 73) (.seq (.sreg ef [false,false])
 .ret)
 .skip))
 (.seq (.seq (.sreg ee [true,false])
 (.cond (tm 77) (.seq (.sreg ed [true,false,false])
 (.seq (.seq (.sreg d9 [true,false,false,false,false,false,false,false])
 (.cond (tm 87) (.seq (.sreg d8 [false,false])
 .ret)
 .skip))
 (.seq (.sdreg d7 [.pure,(.read 0 0),.pure,(.read 0 0),.pure,(.read 0 0),.pure,(.read 0 0),.pure,(.read 0 0),.pure,.pure,.pure,.pure] [false,true,false,false,false,false,false,false,false,false,false,false,false,false,false])
 (.seq (.seq (.sreg d6 [true,false])
 (.cond (tm 104) (.seq (.sreg dZ [false,false])
 .ret)
 .skip))
 (.seq (.sreg dY [true,false,false])
 (.sreg dX [false,false,false,false,false,false,false,false]))))))
 .skip))
 (.seq (.seq (.sreg dW [true,false,false,false,false,false,false,false])
 (.cond (tm 124) (.seq (.sreg dV [false,false])
 .ret)
 .skip))
 (.seq (.sreg dU [true,false,false,false,false,false,false])
 (.seq (.sreg dT [true,false,false])
 (.seq (.seq (.sreg dS [true,false,false,false])
 (.cond (tm 138) (.seq (.dregM dR dz [false,false,false,false,false,false,false,false,false,false,false])
 (.seq (.sreg dQ [false,false,false,false])
 (.seq (.sreg dP [false])
 .ret)))
 .skip))
 (.seq (.block 0 (.loop (.seq (.seq (.sreg dO [true,false,false,false,false,false,false,false])
 (.cond (tm 167) .skip
 (.exit 0)))
 (.block 1 (.dregM dN dy [false,false,false,false,false,false,false,false,false,false])))))
 (.seq (.sreg dM [false])
 .ret)))))))))))))))),[(.cell true 3 6)]⟩
attribute [push_cast] eH eG eF eE eD eC eB eA ew ev ek eh eg ef ee ed d9 d8 d7 d6 dZ dY dX dW dV dU dT dS dR dz dQ dP dO dN dy dM
theorem au:aQ Tryz.prog (fun r i=>if r=32∧i=6 then 3 else 1) 78=some ag.raw:=by kernel_rfl
def fx:List SOp :=
 [o1 4 (.alloc [(.int .i64 0),(.str []),(.sl [] 0 (some 0))])]
def fw:List SOp :=
 [o1 5 (.mv (tm 0)),
 o1 6 (.nilchk (tm 5)),
 o1 7 (.faddr 2 (tm 6)),
 o1 8 (.load false 1 (tm 7)),
 o1 9 (.bin .eql (tm 8) (iv 0))]
def fv:List SOp :=
 [o1 10 (.mv (tm 0)),
 o1 11 (.mv (tm 1)),
 o1 12 (.nilchk (tm 10)),
 o1 13 (.faddr 2 (tm 12)),
 o0 (.store 1 (tm 13) (tm 11))]
def fu:List SOp :=
 [o1 14 (.build [(.int .i64 0),(.str []),(.sl [] 0 (some 0))] []),
 o0 (.store 3 (tm 4) (tm 14))]
def en:aK:=⟨15,(.seq (.sreg fx [])
 (.seq (.seq (.sreg fw [true,false,false,false,false])
 (.cond (tm 9) (.sreg fv [false,false,false,false])
 .skip))
 (.seq (.sreg fu [false])
 .ret))),[(.cell true 3 4)]⟩
attribute [push_cast] fx fw fv fu
theorem nx:aQ Tryz.prog (fun _ _=>1) 102=some en.raw:=by kernel_rfl
def wH:List SOp :=
 [o1 6 (.mv (.av (.int .u64 0))),
 o1 7 (.mv (.av (.bool false)))]
def wF:List SOp :=
 [o1 10 (.mv (tm 2)),
 o1 11 (.bin .lss (tm 10) (iv 1)),
 o1 12 (.mv (tm 11)),
 .grp none 12 false
 [og 13 12 false (.mv (tm 2)),
 og 14 12 false (.bin .gtr (tm 13) (iv 8))]
 15 (tm 14),
 o1 16 (.mv (tm 15)),
 .grp none 16 false
 [og 17 16 false (.mv (tm 1)),
 og 18 16 false (.bin .lss (tm 17) (iv 0))]
 19 (tm 18),
 o1 20 (.mv (tm 19)),
 .grp none 20 false
 [og 21 20 false (.mv (tm 0)),
 og 22 20 false (.len true (tm 21)),
 og 23 20 false (.mv (tm 2)),
 og 24 20 false (.bin .lss (tm 22) (tm 23))]
 25 (tm 24),
 o1 26 (.mv (tm 25)),
 .grp none 26 false
 [og 27 26 false (.mv (tm 1)),
 og 28 26 false (.mv (tm 0)),
 og 29 26 false (.len true (tm 28)),
 og 30 26 false (.mv (tm 2)),
 og 31 26 false (.bin .sub (tm 29) (tm 30)),
 og 32 26 false (.bin .gtr (tm 27) (tm 31))]
 33 (tm 32)]
def wE:List SOp :=
 [o1 6 (.mv (.av (.int .u64 0))),
 o1 7 (.mv (.av (.bool false)))]
def wD:List SOp :=
 [o1 8 (.mv (.av (.int .u64 0)))]
def wC:List SOp :=
 [o1 9 (.mv (iv 0))]
def wB:List SOp :=
 [o1 34 (.mv (tm 9)),
 o1 35 (.mv (tm 2)),
 o1 36 (.bin .lss (tm 34) (tm 35))]
def wA:List SOp :=
 [o1 39 (.mv (tm 8)),
 o1 40 (.bin .mul (.av (.int .u64 256)) (tm 39)),
 o1 41 (.mv (tm 0)),
 o1 42 (.mv (tm 1)),
 o1 43 (.mv (tm 9)),
 o1 44 (.bin .add (tm 42) (tm 43)),
 o1 45 (.idxS (tm 41) (tm 44)),
 o1 46 (.conv .u64 (tm 45)),
 o1 47 (.bin .add (tm 40) (tm 46)),
 o1 8 (.mv (tm 47))]
def wy:List SOp :=
 [o1 37 (.mv (tm 9)),
 o1 38 (.bin .add (tm 37) (iv 1)),
 o1 9 (.mv (tm 38))]
def wx:List SOp :=
 [o1 48 (.mv (tm 8)),
 o1 6 (.mv (tm 48)),
 o1 7 (.mv (.av (.bool true)))]
def uZ:aK:=⟨49,(.seq (.sreg wH [])
 (.seq (.seq (.sreg wF [true,false,false,false,false,false,false,false,false,false])
 (.cond (tm 33) (.seq (.sreg wE [])
 .ret)
 .skip))
 (.seq (.sreg wD [])
 (.seq (.seq (.sreg wC [])
 (.block 0 (.loop (.seq (.seq (.sreg wB [true,false,false])
 (.cond (tm 36) .skip
 (.exit 0)))
 (.seq (.block 1 (.sreg wA [true,false,false,false,false,false,false,false,false,false]))
 (.sreg wy [true,false,false]))))))
 (.seq (.sreg wx [true,true,false])
 .ret))))),[(.tmp 6),(.tmp 7)]⟩
attribute [push_cast] wH wF wE wD wC wB wA wy wx
theorem Dr:aQ Tryz.prog (fun _ _=>1) 103=some uZ.raw:=by kernel_rfl
def sn:List SOp :=
 [o1 1 (.box (tm 0)),
 o1 2 (.mv (.av (.bool false)))]
def sj:List SOp :=
 [o1 3 (.faddr 0 (tm 1)),
 o1 4 (.load false 1 (tm 3)),
 o1 5 (.bin .eql (tm 4) (iv 4)),
 o1 2 (.mv (tm 5))]
def np:aK:=⟨6,(.seq (.sreg sn [])
 (.seq (.sreg sj [true,false,false,false])
 .ret)),[(.tmp 2)]⟩
attribute [push_cast] sn sj
theorem Cc:aQ Tryz.prog (fun _ _=>1) 38=some np.raw:=by kernel_rfl
def sE:List SOp :=
 [o1 2 (.alloc [(.int .i64 0),(.sl [] 0 (some 0)),(.sl [] 0 (some 0)),(.sl [] 0 (some 0))]),
 o1 3 (.mv (iv 0))]
def sD:List SOp :=
 [o1 22 (.mv (tm 0)),
 o1 23 (.call 36 [(tm 22)]),
 o1 21 (.mv (tm 23)),
 o1 24 (.extract (tm 21) 0),
 o1 25 (.extract (tm 21) 1),
 o1 4 (.alloc [(.int .i64 0),(.str []),(.sl [] 0 (some 0))]),
 o0 (.store 3 (tm 4) (tm 24)),
 o1 5 (.mv (tm 25))]
def sC:List SOp :=
 [o1 26 (.mv (tm 5)),
 o1 27 (.bin .neq (tm 26) (iv 0))]
def sB:List SOp :=
 [o1 28 (.build [(.int .i64 0),(.sl [] 0 (some 0)),(.sl [] 0 (some 0)),(.sl [] 0 (some 0))] []),
 o1 29 (.mv (tm 5)),
 o0 (.store 4 (tm 2) (tm 28)),
 o1 3 (.mv (tm 29))]
def sA:List SOp :=
 [o1 30 (.faddr 2 (tm 4)),
 o1 31 (.load false 1 (tm 30)),
 o1 6 (.mv (tm 31))]
def sy:List SOp :=
 [o1 32 (.faddr 0 (tm 4)),
 o1 33 (.load false 1 (tm 32)),
 o1 34 (.bin .neq (tm 33) (iv 48)),
 o1 35 (.mv (tm 34)),
 .grp none 35 false
 [og 36 35 false (.mv (tm 6)),
 og 37 35 false (.len false (tm 36)),
 og 38 35 false (.bin .lss (tm 37) (iv 2))]
 39 (tm 38),
 o1 40 (.mv (tm 39)),
 .grp none 40 false
 [og 41 40 false (.mv (tm 6)),
 og 42 40 false (.iaddr 3 (tm 41) (iv 0)),
 og 43 40 false (.faddr 0 (tm 42)),
 og 44 40 false (.load false 1 (tm 43)),
 og 45 40 false (.bin .neq (tm 44) (iv 2))]
 46 (tm 45),
 o1 47 (.mv (tm 46)),
 .grp none 47 false
 [og 48 47 false (.mv (tm 6)),
 og 49 47 false (.iaddr 3 (tm 48) (iv 0)),
 og 50 47 false (.faddr 1 (tm 49)),
 og 51 47 false (.load false 1 (tm 50)),
 og 52 47 false (.len true (tm 51)),
 og 53 47 false (.bin .neq (tm 52) (iv 1))]
 54 (tm 53)]
def sx:List SOp :=
 [o1 55 (.build [(.int .i64 0),(.sl [] 0 (some 0)),(.sl [] 0 (some 0)),(.sl [] 0 (some 0))] []),
 o0 (.store 4 (tm 2) (tm 55)),
 o1 3 (.mv (iv 4))]
def sw:List SOp :=
 [o1 56 (.mv (tm 6)),
 o1 57 (.iaddr 3 (tm 56) (iv 0)),
 o1 58 (.faddr 1 (tm 57)),
 o1 59 (.load false 1 (tm 58)),
 o1 60 (.idxS (tm 59) (iv 0)),
 o1 61 (.conv .i64 (tm 60)),
 o1 62 (.build [(.int .i64 0),(.sl [] 0 (some 0)),(.sl [] 0 (some 0)),(.sl [] 0 (some 0))] [(0,(1,(tm 61)))]),
 o1 7 (.alloc [(.int .i64 0),(.sl [] 0 (some 0)),(.sl [] 0 (some 0)),(.sl [] 0 (some 0))]),
 o0 (.store 4 (tm 7) (tm 62))]
def sv:List SOp :=
 [o1 8 (.mv (iv 1)),
 o1 9 (.mv (iv 1))]
def su:List SOp :=
 [o1 63 (.faddr 0 (tm 7)),
 o1 64 (.load false 1 (tm 63)),
 o1 65 (.bin .eql (tm 64) (iv 4))]
def oQ:List SOp :=
 [o1 8 (.mv (iv 2))]
def oP:List SOp :=
 [o1 66 (.faddr 0 (tm 7)),
 o1 67 (.load false 1 (tm 66)),
 o1 68 (.bin .eql (tm 67) (iv 2))]
def oO:List SOp :=
 [o1 9 (.mv (iv 0))]
def oN:List SOp :=
 [o1 69 (.faddr 0 (tm 7)),
 o1 70 (.load false 1 (tm 69)),
 o1 71 (.bin .lss (tm 70) (iv 1)),
 o1 72 (.mv (tm 71)),
 .grp none 72 false
 [og 73 72 false (.faddr 0 (tm 7)),
 og 74 72 false (.load false 1 (tm 73)),
 og 75 72 false (.bin .gtr (tm 74) (iv 4))]
 76 (tm 75),
 o1 77 (.mv (tm 76)),
 .grp none 77 false
 [og 78 77 false (.mv (tm 6)),
 og 79 77 false (.len false (tm 78)),
 og 80 77 false (.mv (tm 8)),
 og 81 77 false (.bin .add (iv 1) (tm 80)),
 og 82 77 false (.mv (tm 9)),
 og 83 77 false (.bin .add (tm 81) (tm 82)),
 og 84 77 false (.bin .neq (tm 79) (tm 83))]
 85 (tm 84)]
def oM:List SOp :=
 [o1 86 (.build [(.int .i64 0),(.sl [] 0 (some 0)),(.sl [] 0 (some 0)),(.sl [] 0 (some 0))] []),
 o0 (.store 4 (tm 2) (tm 86)),
 o1 3 (.mv (iv 4))]
def oL:List SOp :=
 [o1 10 (.mv (iv 1))]
def oK:List SOp :=
 [o1 87 (.mv (tm 10)),
 o1 88 (.mv (tm 8)),
 o1 89 (.bin .leq (tm 87) (tm 88))]
def oJ:List SOp :=
 [o1 93 (.mv (tm 6)),
 o1 94 (.mv (tm 10)),
 o1 95 (.iaddr 3 (tm 93) (tm 94)),
 o1 96 (.faddr 1 (tm 95)),
 o1 97 (.load false 1 (tm 96)),
 o1 98 (.call 37 [(tm 97)]),
 o1 92 (.mv (tm 98)),
 o1 99 (.extract (tm 92) 0),
 o1 100 (.extract (tm 92) 1),
 o1 11 (.mv (tm 99)),
 o1 12 (.mv (tm 100))]
def oI:List SOp :=
 [o1 101 (.mv (tm 12)),
 o1 102 (.bin .neq (tm 101) (iv 0)),
 o1 103 (.mv (tm 102)),
 .grp none 103 false
 [og 104 103 false (.mv (tm 6)),
 og 105 103 false (.mv (tm 10)),
 og 106 103 false (.iaddr 3 (tm 104) (tm 105)),
 og 107 103 false (.load true 3 (tm 106)),
 og 108 103 false (.call 38 [(tm 107)]),
 og 109 103 false (.un .not (tm 108))]
 110 (tm 109)]
def oH:List SOp :=
 [o1 111 (.build [(.int .i64 0),(.sl [] 0 (some 0)),(.sl [] 0 (some 0)),(.sl [] 0 (some 0))] []),
 o0 (.store 4 (tm 2) (tm 111)),
 o1 3 (.mv (iv 4))]
def oG:List SOp :=
 [o1 112 (.mv (tm 10)),
 o1 113 (.bin .eql (tm 112) (iv 1))]
def oF:List SOp :=
 [o1 114 (.mv (tm 11)),
 o1 115 (.faddr 1 (tm 7)),
 o0 (.store 1 (tm 115) (tm 114))]
def oE:List SOp :=
 [o1 116 (.mv (tm 11)),
 o1 117 (.faddr 2 (tm 7)),
 o0 (.store 1 (tm 117) (tm 116))]
def oD:List SOp :=
 [o1 90 (.mv (tm 10)),
 o1 91 (.bin .add (tm 90) (iv 1)),
 o1 10 (.mv (tm 91))]
def oC:List SOp :=
 [o1 118 (.mv (tm 9)),
 o1 119 (.bin .eql (tm 118) (iv 1))]
def oB:List SOp :=
 [o1 120 (.mv (tm 6)),
 o1 121 (.mv (tm 6)),
 o1 122 (.len false (tm 121)),
 o1 123 (.bin .sub (tm 122) (iv 1)),
 o1 124 (.iaddr 3 (tm 120) (tm 123)),
 o1 125 (.load true 3 (tm 124)),
 o1 13 (.alloc [(.int .i64 0),(.str []),(.sl [] 0 (some 0))]),
 o0 (.store 3 (tm 13) (tm 125))]
def oA:List SOp :=
 [o1 126 (.faddr 0 (tm 13)),
 o1 127 (.load false 1 (tm 126)),
 o1 128 (.bin .neq (tm 127) (iv 48))]
def oz:List SOp :=
 [o1 129 (.build [(.int .i64 0),(.sl [] 0 (some 0)),(.sl [] 0 (some 0)),(.sl [] 0 (some 0))] []),
 o0 (.store 4 (tm 2) (tm 129)),
 o1 3 (.mv (iv 4))]
def oy:List SOp :=
 [o1 130 (.faddr 2 (tm 13)),
 o1 131 (.load false 1 (tm 130)),
 o1 132 (.len false (tm 131)),
 o1 133 (.mv (iv 0))]
def ox:List SOp :=
 [o1 134 (.bin .lss (tm 133) (tm 132))]
def ow:List SOp :=
 [o1 135 (.iaddr 3 (tm 131) (tm 133)),
 o1 136 (.load true 3 (tm 135)),
 o1 15 (.alloc [(.int .i64 0),(.str []),(.sl [] 0 (some 0))]),
 o0 (.store 3 (tm 15) (tm 136))]
def ov:List SOp :=
 [o1 137 (.faddr 0 (tm 15)),
 o1 138 (.load false 1 (tm 137)),
 o1 139 (.bin .neq (tm 138) (iv 48)),
 o1 140 (.mv (tm 139)),
 .grp none 140 false
 [og 141 140 false (.faddr 2 (tm 15)),
 og 142 140 false (.load false 1 (tm 141)),
 og 143 140 false (.len false (tm 142)),
 og 144 140 false (.bin .neq (tm 143) (iv 2))]
 145 (tm 144),
 o1 146 (.mv (tm 145)),
 .grp none 146 false
 [og 147 146 false (.faddr 2 (tm 15)),
 og 148 146 false (.load false 1 (tm 147)),
 og 149 146 false (.iaddr 3 (tm 148) (iv 0)),
 og 150 146 false (.load true 3 (tm 149)),
 og 151 146 false (.call 38 [(tm 150)]),
 og 152 146 false (.un .not (tm 151))]
 153 (tm 152),
 o1 154 (.mv (tm 153)),
 .grp none 154 false
 [og 155 154 false (.faddr 2 (tm 15)),
 og 156 154 false (.load false 1 (tm 155)),
 og 157 154 false (.iaddr 3 (tm 156) (iv 1)),
 og 158 154 false (.faddr 0 (tm 157)),
 og 159 154 false (.load false 1 (tm 158)),
 og 160 154 false (.bin .neq (tm 159) (iv 49))]
 161 (tm 160)]
def ou:List SOp :=
 [o1 162 (.build [(.int .i64 0),(.sl [] 0 (some 0)),(.sl [] 0 (some 0)),(.sl [] 0 (some 0))] []),
 o0 (.store 4 (tm 2) (tm 162)),
 o1 3 (.mv (iv 4))]
def ot:List SOp :=
 [o1 163 (.faddr 2 (tm 15)),
 o1 164 (.load false 1 (tm 163)),
 o1 165 (.iaddr 3 (tm 164) (iv 0)),
 o1 166 (.faddr 1 (tm 165)),
 o1 167 (.load false 1 (tm 166)),
 o1 168 (.build [(.str []),(.sl [] 0 (some 0))] [(0,(1,(tm 167)))]),
 o1 16 (.alloc [(.str []),(.sl [] 0 (some 0))]),
 o0 (.store 2 (tm 16) (tm 168))]
def oq:List SOp :=
 [o1 169 (.faddr 2 (tm 15)),
 o1 170 (.load false 1 (tm 169)),
 o1 171 (.iaddr 3 (tm 170) (iv 1)),
 o1 172 (.faddr 2 (tm 171)),
 o1 173 (.load false 1 (tm 172)),
 o1 174 (.len false (tm 173)),
 o1 175 (.mv (iv 0))]
def oo:List SOp :=
 [o1 176 (.bin .lss (tm 175) (tm 174))]
def om:List SOp :=
 [o1 177 (.iaddr 3 (tm 173) (tm 175)),
 o1 178 (.load true 3 (tm 177)),
 o1 18 (.alloc [(.int .i64 0),(.str []),(.sl [] 0 (some 0))]),
 o0 (.store 3 (tm 18) (tm 178))]
def ol:List SOp :=
 [o1 179 (.load true 3 (tm 18)),
 o1 180 (.call 38 [(tm 179)]),
 o1 181 (.un .not (tm 180))]
def oj:List SOp :=
 [o1 182 (.build [(.int .i64 0),(.sl [] 0 (some 0)),(.sl [] 0 (some 0)),(.sl [] 0 (some 0))] []),
 o0 (.store 4 (tm 2) (tm 182)),
 o1 3 (.mv (iv 4))]
def oi:List SOp :=
 [o1 183 (.faddr 1 (tm 16)),
 o1 184 (.load false 1 (tm 183)),
 o1 185 (.faddr 1 (tm 18)),
 o1 186 (.load false 1 (tm 185)),
 o1 187 (.bslice false 1 1 [(.str [])] [(0,(1,(tm 186)))]),
 o1 188 (.app 1 1 16 [(.str [])] (tm 184) (tm 187)),
 o1 189 (.faddr 1 (tm 16)),
 o0 (.store 1 (tm 189) (tm 188))]
def oh:List SOp :=
 [o1 190 (.bin .add (tm 175) (iv 1)),
 o1 175 (.mv (tm 190))]
def oe:List SOp :=
 [o1 191 (.faddr 3 (tm 7)),
 o1 192 (.load false 1 (tm 191)),
 o1 193 (.load true 2 (tm 16)),
 o1 194 (.bslice false 2 1 [(.str []),(.sl [] 0 (some 0))] [(0,(2,(tm 193)))]),
 o1 195 (.app 1 2 40 [(.str []),(.sl [] 0 (some 0))] (tm 192) (tm 194)),
 o1 196 (.faddr 3 (tm 7)),
 o0 (.store 1 (tm 196) (tm 195))]
def oc:List SOp :=
 [o1 197 (.bin .add (tm 133) (iv 1)),
 o1 133 (.mv (tm 197))]
def ob:List SOp :=
 [o1 199 (.load true 4 (tm 7)),
 o1 200 (.call 9 [(tm 199)]),
 o1 198 (.mv (tm 200)),
 o1 201 (.extract (tm 198) 0),
 o1 202 (.extract (tm 198) 1),
 o1 19 (.mv (tm 201)),
 o1 20 (.mv (tm 202))]
def oa:List SOp :=
 [o1 203 (.mv (tm 20)),
 o1 204 (.bin .neq (tm 203) (iv 0)),
 o1 205 (.mv (tm 204)),
 .grp none 205 false
 [og 206 205 false (.mv (tm 19)),
 og 207 205 false (.mv (tm 0)),
 og 208 205 false (.bin .neq (tm 206) (tm 207))]
 209 (tm 208)]
def n9:List SOp :=
 [o1 210 (.build [(.int .i64 0),(.sl [] 0 (some 0)),(.sl [] 0 (some 0)),(.sl [] 0 (some 0))] []),
 o0 (.store 4 (tm 2) (tm 210)),
 o1 3 (.mv (iv 4))]
def n8:List SOp :=
 [o1 211 (.load true 4 (tm 7)),
 o0 (.store 4 (tm 2) (tm 211)),
 o1 3 (.mv (iv 0))]
def az:aK:=⟨212,(.seq (.sreg sE [])
 (.seq (.sreg sD [true,true,false,false,false,false,false])
 (.seq (.seq (.sreg sC [true,false])
 (.cond (tm 27) (.seq (.sreg sB [true,false,false])
 .ret)
 .skip))
 (.seq (.sreg sA [true,false,false])
 (.seq (.seq (.sreg sy [true,false,false,false,false,false,false,false,false])
 (.cond (tm 54) (.seq (.sreg sx [true,false])
 .ret)
 .skip))
 (.seq (.sreg sw [true,false,false,false,false,false,false,false])
 (.seq (.sreg sv [])
 (.seq (.seq (.sreg su [true,false,false])
 (.cond (tm 65) (.sreg oQ [])
 .skip))
 (.seq (.seq (.sreg oP [true,false,false])
 (.cond (tm 68) (.sreg oO [])
 .skip))
 (.seq (.seq (.sreg oN [true,false,false,false,false,false,false])
 (.cond (tm 85) (.seq (.sreg oM [true,false])
 .ret)
 .skip))
 (.seq (.seq (.sreg oL [])
 (.block 0 (.loop (.seq (.seq (.sreg oK [true,false,false])
 (.cond (tm 89) .skip
 (.exit 0)))
 (.seq (.block 1 (.seq (.sreg oJ [true,true,false,false,false,false,false,false,false,false,false])
 (.seq (.seq (.sreg oI [true,false,false,false])
 (.cond (tm 110) (.seq (.sreg oH [true,false])
 .ret)
 .skip))
 (.seq (.sreg oG [true,false])
 (.cond (tm 113) (.sreg oF [false,false])
 (.sreg oE [false,false]))))))
 (.sreg oD [true,false,false]))))))
 (.seq (.seq (.sreg oC [true,false])
 (.cond (tm 119) (.seq (.sreg oB [true,false,false,false,false,false,false])
 (.seq (.seq (.sreg oA [true,false,false])
 (.cond (tm 128) (.seq (.sreg oz [true,false])
 .ret)
 .skip))
 (.seq (.sreg oy [true,true,true,false])
 (.block 2 (.loop (.seq (.sreg ox [])
 (.seq (.cond (tm 134) .skip
 (.exit 2))
 (.seq (.block 3 (.seq (.sreg ow [true,false,false])
 (.seq (.seq (.sreg ov [true,false,false,false,false,false,false,false,false])
 (.cond (tm 161) (.seq (.sreg ou [true,false])
 .ret)
 .skip))
 (.seq (.sreg ot [true,false,false,false,false,false,false])
 (.seq (.seq (.sreg oq [true,true,true,false,false,false,false])
 (.block 4 (.loop (.seq (.sreg oo [])
 (.seq (.cond (tm 176) .skip
 (.exit 4))
 (.seq (.block 5 (.seq (.sreg om [true,false,false])
 (.seq (.seq (.sreg ol [true,false,false])
 (.cond (tm 181) (.seq (.sreg oj [true,false])
 .ret)
 .skip))
 (.sreg oi [false,false,false,false,false,false,false]))))
 (.sreg oh [true,false])))))))
 (.sreg oe [false,false,false,false,false,false]))))))
 (.sreg oc [true,false])))))))))
 .skip))
 (.seq (.sreg ob [true,true,false,false,false,false,false])
 (.seq (.seq (.sreg oa [true,false,false,false])
 (.cond (tm 209) (.seq (.sreg n9 [true,false])
 .ret)
 .skip))
 (.seq (.sreg n8 [true,false])
 .ret))))))))))))))),[(.cell true 4 2),(.tmp 3)]⟩
attribute [push_cast] sE sD sC sB sA sy sx sw sv su oQ oP oO oN oM oL oK oJ oI oH oG oF oE oD oC oB oA oz oy ox ow ov ou ot oq oo om ol oj oi oh oe oc ob oa n9 n8
theorem bh:aQ Tryz.prog (fun _ _=>1) 14=some az.raw:=by kernel_rfl
set_option maxHeartbeats 8000000
set_option maxRecDepth 100000
theorem Gj {s:List UInt8} {a z:Nat} (hs:s.length≤1100000) (h1:1≤z) (h8:z≤8) (ha:a+z≤s.length) {L:List Blk} {K:AV→List Blk→Prop} (h:K (.tup [.int .u64 (eU ((s.drop a).take z):Nat),.bool true]) L):ad Tryz.prog 103 [.str s,.int .i64 (a:Int),.int .i64 (z:Int)] L K:=by
 replace h:=hid h
 have z1:¬ (z:Int)<1:=by omega
 have z2:¬ (8:Int)<(z:Int):=by omega
 have z3:¬ (a:Int)<0:=by omega
 have z5:¬ (s.length:Int)<(z:Int):=by omega
 have w1:IntKind.i64.wrap ((s.length:Int) - (z:Int))=(s.length:Int) - (z:Int):=ab (by omega) (by omega)
 have z4:¬ (s.length:Int) - (z:Int)<(a:Int):=by omega
 obtain ⟨t,ht⟩:∃ t,(s.drop a).take z=t:=⟨_,rfl⟩
 have htl:t.length=z:=by rw [← ht];simp;omega
 have htg:∀ i,i<z→t.getD i 0=s.getD (a+i) 0:=fun i hi=>by
   rw [← ht]
   simp only [List.getD_eq_getElem?_getD]
   rw [List.getElem?_take_of_lt hi,List.getElem?_drop]
 rw [ht] at h
 clear ht
 replace htg:=hid htg
 refine ac Dr (by simp [uZ]) ?_
 simp only [uZ,aj]
 refine wk ?_
 refine ak (fun m T' L'=>∃ (i x:Nat),m=z - i∧i≤z∧Hid (x=eU (t.take i))∧T'=[(9,.int .i64 (i:Int)),(8,.int .u64 (x:Int)),(0,.str s),(1,.int .i64 (a:Int)),(2,.int .i64 (z:Int))]∧L=L') (CutL (b:=Nat.le_refl _)) ⟨0,0,rfl,Nat.zero_le _,hid rfl,rfl,rfl⟩ ?_
 rintro _ _ _ ⟨i,x,rfl,hi,hx,rfl,rfl⟩
 by_cases hlt:i<z
 · have g1:(i:Int)<(z:Int):=by omega
   have w3:IntKind.i64.wrap ((i:Int)+1)=(i:Int)+1:=ab (by omega) (by omega)
   have w6:IntKind.i64.wrap ((a:Int)+(i:Int))=(a:Int)+(i:Int):=ab (by omega) (by omega)
   obtain ⟨c,hc⟩:∃ c,t.getD i 0=c:=⟨_,rfl⟩
   have hlt2:i<t.length:=by omega
   have e0:((a:Int)+(i:Int)).toNat=a+i:=by omega
   have e3:s.getD (a+i) 0=c:=by rw [← htg.out i hlt,hc]
   have g2:(0:Int)≤(a:Int)+(i:Int):=by omega
   have g3:(a:Int)+(i:Int)<(s.length:Int):=by omega
   have g4:a+i<s.length:=by omega
   have e4:t.take (i+1)=t.take i++[c]:=by rw [List.take_succ_eq_append_getElem hlt2,← hc];simp [hlt2]
   have e5:eU (t.take (i+1))=256 * x+c.toNat:=by rw [e4,Dd,hx.out]
   have hxb:x<72057594037927936:=by
     have h2:=EN (t.take i)
     rw [← hx.out] at h2
     have h3:(t.take i).length≤7:=by simp;omega
     exact Nat.lt_of_lt_of_le h2 (Nat.le_trans (Nat.pow_le_pow_right (by omega) h3) (by decide))
   have hc256:=c.toNat_lt
   have w4:IntKind.u64.wrap (256 * (x:Int))=256 * (x:Int):=fE (by omega) (by omega)
   have w5:IntKind.u64.wrap (c.toNat:Int)=(c.toNat:Int):=fE (by omega) (by omega)
   have w7:IntKind.u64.wrap (256 * (x:Int)+(c.toNat:Int))=((256 * x+c.toNat:Nat):Int):=by rw [fE (by omega) (by omega)];omega
   clear e4 hc hxb
   replace e5:=hid e5
   refine wk ?_
   exact an _ _ _ (by omega) (CutL (b:=Nat.le_refl _)) ⟨i+1,256 * x+c.toNat,rfl,hlt,hid e5.out.symm,rfl,rfl⟩
 · have hke:i=z:=by omega
   subst hke
   have g1:¬ (i:Int)<(i:Int):=by omega
   have h':=h.out
   rw [show eU t=x by rw [hx.out,← htl,List.take_length]] at h'
   replace h':=hid h'
   refine wk ?_
   exact aq h'.out
def rdB (s:List UInt8) (p b:Int):Blk:=.cells [.str s,.int .i64 p,.int .i64 b]
theorem Jj {L:List Blk} {r:Nat} {s:List UInt8} {p b:Int} {q:Nat→Bool} (h:∀ k∈L,k.refs q=true):∀ k∈L.set r (rdB s p b),k.refs q=true:=fun k hk=>by
 rcases List.mem_or_eq_of_mem_set hk with h1|rfl
 · exact h k h1
 · rfl
theorem JP {L:List Blk} {r:Nat} {s:List UInt8} {p e:Int} (hr:L[r]?=some (rdB s p 0)) {K:AV→List Blk→Prop} (h:K (.agg [.int .i64 0,.str [],.sl [] 0 none]) (L.set r (rdB s p e))):ad Tryz.prog 102 [.ptr r 0,.int .i64 e] L K:=by
 replace h:=hid h
 have hrl:r<L.length:=(List.getElem?_eq_some_iff.1 hr).1
 have g1:∀ X:List Blk,(L++X)[r]?=some (.cells [.str s,.int .i64 p,.int .i64 0]):=fun X=>by rw [List.getElem?_append_left hrl];exact hr
 have g2:∀ (X:List Blk) (b:Blk),(L++X).set r b=L.set r b++X:=fun X b=>List.set_append_left _ _ hrl
 have g3:∀ (X:List Blk) (b x:Blk),(L.set r b++x::X)[L.length]?=some x:=fun X b x=>by rw [List.getElem?_append_right (by simp)];simp
 have g4:∀ (X:List Blk) (b x y:Blk),(L.set r b++x::X).set L.length y=L.set r b++y::X:=fun X b x y=>by rw [List.set_append_right _ _ (by simp)];simp
 clear hr
 refine ac nx (by simp [en]) ?_
 simp only [en,aj]
 refine wk ?_
 refine ao ?_
 exact AB (by simp) (fun hk k hm=>Jj (s:=s) (p:=p) (b:=e) hk k hm) rfl h.out
set_option maxHeartbeats 8000000
set_option maxRecDepth 100000
theorem Mm {P:Program} {f:FuncId} {xs:List Opd} {T:Tm} {L:List Blk} {args:List AV} {k:AV→List Blk→Prop} (v:AV) (L2:List Blk) (h:ad P f args L fun av L'=>av=v∧L'=L2) (hx:dG T xs=some args) (hk:k v L2) :
   ∃ v L2,EQv P ⟨none,.call f xs,none⟩ T L v L2∧k v L2:=⟨v,L2,by simp only [EQv,hx];exact h,hk⟩
theorem uO:ndA aB=[.int .i64 0,.str [],.sl [] 0 none]:=by rw [aM];rfl
structure Rdr (R:Int→Int→List Blk) (N r:Nat) (s:List UInt8):Prop where
 len:∀ p b,(R p b).length=N
 lt:r<N
 get0:∀ p b,(R p b)[r]?=some (.cells [.str s,.int .i64 p,.int .i64 b])
 get:∀ p b X,(R p b++X)[r]?=some (.cells [.str s,.int .i64 p,.int .i64 b])
 set0:∀ p b p' b',(R p b).set r (.cells [.str s,.int .i64 p',.int .i64 b'])=R p' b'
 set:∀ p b p' b' X,(R p b++X).set r (.cells [.str s,.int .i64 p',.int .i64 b'])=R p' b'++X
 at0:∀ p b x X,(R p b++x::X)[N]?=some x
 atk:∀ p b X k,(R p b++X)[N+k]?=X[k]?
 st0:∀ p b x y X,(R p b++x::X).set N y=R p b++y::X
 stk:∀ p b X k y,(R p b++X).set (N+k) y=R p b++X.set k y
 keep:∀ {p b p' b'} {q:Nat→Bool},(∀ k∈R p b,k.refs q=true)→∀ k∈R p' b',k.refs q=true
theorem Rdr.mk' {L:List Blk} {r:Nat} {s:List UInt8} {p:Int} (h:L[r]?=some (rdB s p 0)):∃ R N,Rdr R N r s∧L=R p 0∧∀ p' b',L.set r (rdB s p' b')=R p' b':=by
 have hl:r<L.length:=(List.getElem?_eq_some_iff.1 h).1
 refine ⟨fun p b=>L.set r (rdB s p b),L.length,⟨fun p b=>by simp,hl,fun p b=>by rw [List.getElem?_set_self hl];rfl,fun p b X=>?_,fun p b p' b'=>?_,fun p b p' b' X=>?_,fun p b x X=>?_,fun p b X k=>?_,fun p b x y X=>?_,fun p b X k y=>?_,fun {p b p' b' q} hk k hm=>?_⟩,?_,fun p' b'=>rfl⟩
 · rw [List.getElem?_append_left (by simpa using hl),List.getElem?_set_self hl];rfl
 · simp only [List.set_set];rfl
 · rw [List.set_append_left _ _ (by simpa using hl),List.set_set];rfl
 · rw [List.getElem?_append_right (by simp)];simp
 · rw [List.getElem?_append_right (by simp)];simp
 · rw [List.set_append_right _ _ (by simp)];simp
 · rw [List.set_append_right _ _ (by simp)];simp
 · rcases List.mem_or_eq_of_mem_set hm with h1|rfl
   · by_cases hkr:∃ i,i≠r∧L[i]?=some k
     · obtain ⟨i,hi,h2⟩:=hkr
       exact hk k (List.mem_of_getElem? (i:=i) (by rw [List.getElem?_set_ne (Ne.symm hi)];exact h2))
     · obtain ⟨i,h2⟩:=List.getElem?_of_mem h1
       have:i=r:=by
         apply Classical.byContradiction
         intro e
         exact hkr ⟨i,e,h2⟩
       subst this
       rw [h] at h2
       cases h2
       rfl
   · rfl
 · apply List.ext_getElem?
   intro i
   by_cases hi:i=r
   · subst hi;rw [List.getElem?_set_self hl,h]
   · rw [List.getElem?_set_ne (Ne.symm hi)]
theorem MF {f:Nat} {s:List UInt8} {e pos p:Nat} {n:Nd} (hp:pos≤e) (he:e≤s.length) (h:elN f s e pos=(n,p,0)):pos<p∧p≤e:=by
 have h1:=GU f hp he
 unfold ElP at h1
 rcases hpp:dq f (slN s pos e) with c|⟨n',r⟩
 · rw [hpp] at h1
   simp only [h] at h1
   exact absurd h1.symm (jQ f _ c hpp)
 · rw [hpp] at h1
   obtain ⟨p',h2,h3,h4,_⟩:=h1
   rw [h] at h2
   cases h2
   exact ⟨h3,h4⟩
theorem MG:∀ (f:Nat) {s:List UInt8} {e pos:Nat} {dep:Int} {r:Nat} {L:List Blk} (hs:s.length≤1100000) (hd:dep+f=65) (h1:1≤dep) (he:e≤s.length) (hp:pos≤e) (hr:L[r]?=some (rdB s (pos:Int) 0)) {K:AV→List Blk→Prop}
   (h:K (.agg (ndA (elN f s e pos).1)) (L.set r (rdB s ((elN f s e pos).2.1:Nat) (elN f s e pos).2.2))),ad Tryz.prog 78 [.ptr r 0,.int .i64 (e:Int),.int .i64 dep] L K
 | 0,s,e,pos,dep,r,L,hs,hd,h1,he,hp,hr,K,h=>by
   have e1:dep=65:=by omega
   subst e1
   obtain ⟨R,N,hR,rfl,hRL⟩:=Rdr.mk' hr
   rw [hRL,elN] at h
   simp only [uO] at h
   replace h:=hid h
   have kk1:Hid (∀ {p:Int} {X:List Blk} {K:AV→List Blk→Prop},K (.agg [.int .i64 0,.str [],.sl [] 0 none]) (R p 6++X)→ad Tryz.prog 102 [.ptr r 0,.int .i64 6] (R p 0++X) K):=@hid _ (by
     intro p X K q
     exact JP (p:=p) (e:=6) (hR.get p 0 X) (by rw [rdB,hR.set];exact q))
   have r1:=hR.len
   have r2:=hR.at0
   have r3:=hR.st0
   clear hr hRL
   refine ac au (by simp [ag]) ?_
   simp only [ag,aj]
   refine wk ?_
   exact AB (by simp [r1]) hR.keep rfl h.out
 | f+1,s,e,pos,dep,r,L,hs,hd,h1,he,hp,hr,K,h=>by
   have ih:∀ {pos:Nat} {e:Nat} {r:Nat} {L:List Blk} (he:e≤s.length) (hp:pos≤e) (hr:L[r]?=some (rdB s (pos:Int) 0)) {K:AV→List Blk→Prop}
       (h:K (.agg (ndA (elN f s e pos).1)) (L.set r (rdB s ((elN f s e pos).2.1:Nat) (elN f s e pos).2.2))),ad Tryz.prog 78 [.ptr r 0,.int .i64 (e:Int),.int .i64 (dep+1)] L K:=by
     intro pos e r L he hp hr K h
     exact MG f hs (by omega) (by omega) he hp hr h
   replace ih:=@hid _ @ih
   obtain ⟨R,N,hR,rfl,hRL⟩:=Rdr.mk' hr
   rw [hRL] at h
   clear hr hRL
   have kf:∀ e:Int,∃ _:Hid (∀ {p:Int} {X:List Blk} {K:AV→List Blk→Prop},K (.agg [.int .i64 0,.str [],.sl [] 0 none]) (R p e++X)→ad Tryz.prog 102 [.ptr r 0,.int .i64 e] (R p 0++X) K),True:=fun e=>⟨@hid _ (by
     intro p X K q
     exact JP (p:=p) (e:=e) (hR.get p 0 X) (by rw [rdB,hR.set];exact q)),trivial⟩
   replace kf:=hid kf
   have fin:∀ {v:AV} {p b:Int} {X:List Blk},v.refs (fun i=>decide (i<(R (pos:Int) 0).length))=true→K v (R p b)→Fin (R (pos:Int) 0) v (R p b++X) K:=fun {v p b X} hv hk=>AB (by rw [hR.len,hR.len]) hR.keep hv hk
   replace fin:=@hid _ @fin
   have r1:=hR.len
   have r2:=hR.at0
   have r3:=hR.st0
   have r4:=hR.atk
   have r5:=hR.stk
   have r6:=hR.get
   have r7:=hR.set
   have hN:=hid hR
   clear hR
   have g1:¬ (64:Int)<dep:=by omega
   have w0:IntKind.i64.wrap (dep+1)=dep+1:=ab (by omega) (by omega)
   rw [elN] at h
   by_cases h0:e≤pos
   · rw [if_pos h0] at h
     simp only [uO] at h
     replace h:=hid h
     have g2:(e:Int)≤(pos:Int):=by omega
     obtain ⟨kk1,_⟩:=kf.out 3
     clear h0
     refine ac au (by simp [ag]) ?_
     simp only [ag,aj]
     refine wk ?_
     exact fin.out rfl h.out
   rw [if_neg h0] at h
   have g2:¬ (e:Int)≤(pos:Int):=by omega
   have g3:(pos:Int)<(s.length:Int):=by omega
   obtain ⟨c0,hc0⟩:∃ c,s.getD pos 0=c:=⟨_,rfl⟩
   obtain ⟨t,ht⟩:∃ t,c0.toNat=t:=⟨_,rfl⟩
   have ht256:t<256:=by rw [← ht];exact c0.toNat_lt
   simp only [hc0,ht] at h
   have wt:IntKind.i64.wrap (t:Int)=(t:Int):=ab (by omega) (by omega)
   obtain ⟨y,hy⟩:∃ y:Int,((t % 32:Nat):Int)=y:=⟨_,rfl⟩
   have m1:(t:Int).tmod 32=y:=by rw [← hy,Int.tmod_eq_emod_of_nonneg (by omega)];rfl
   obtain ⟨y2,hy2⟩:∃ y:Int,((t / 32:Nat):Int)=y:=⟨_,rfl⟩
   obtain ⟨y3,hy3⟩:∃ y:Int,((t / 32 % 2:Nat):Int)=y:=⟨_,rfl⟩
   have m2:IntKind.i64.wrap ((t:Int).tdiv 32)=y2:=by
     rw [Int.tdiv_eq_ediv_of_nonneg (by omega),← hy2]
     exact ab (by omega) (by omega)
   have m3:y2.tmod 2=y3:=by rw [← hy3,← hy2,Int.tmod_eq_emod_of_nonneg (by omega)];rfl
   have hpl:pos<s.length:=by omega
   by_cases h31:t % 32=31
   · rw [if_pos h31] at h
     simp only [uO] at h
     replace h:=hid h
     have hy':y=31:=by omega
     obtain ⟨kk1,_⟩:=kf.out 7
     clear h31 hy hy2 hy3 h0
     subst hy'
     refine ac au (by simp [ag]) ?_
     simp only [ag,aj]
     refine wk ?_
     exact fin.out rfl h.out
   rw [if_neg h31] at h
   have g4:¬ y=31:=by omega
   clear h31
   have w1:IntKind.i64.wrap ((pos:Int)+1)=(pos:Int)+1:=ab (by omega) (by omega)
   by_cases hp1:e≤pos+1
   · rw [if_pos hp1] at h
     simp only [uO] at h
     replace h:=hid h
     have g5:(e:Int)≤(pos:Int)+1:=by omega
     obtain ⟨kk1,_⟩:=kf.out 3
     clear hp1 hy hy2 hy3 h0
     refine ac au (by simp [ag]) ?_
     simp only [ag,aj]
     refine wk ?_
     exact fin.out rfl h.out
   rw [if_neg hp1] at h
   have g5:¬ (e:Int)≤(pos:Int)+1:=by omega
   have g6:(0:Int)≤(pos:Int)+1:=by omega
   have g7:(pos:Int)+1<(s.length:Int):=by omega
   have g8:((pos:Int)+1).toNat=pos+1:=by omega
   have g9:pos+1<s.length:=by omega
   obtain ⟨c1,hc1⟩:∃ c,s.getD (pos+1) 0=c:=⟨_,rfl⟩
   obtain ⟨z,hz⟩:∃ z,c1.toNat=z:=⟨_,rfl⟩
   have hz256:z<256:=by rw [← hz];exact c1.toNat_lt
   simp only [hc1,hz] at h
   have wz:IntKind.i64.wrap (z:Int)=(z:Int):=ab (by omega) (by omega)
   obtain ⟨p2,hp2⟩:∃ p,pos+2=p:=⟨_,rfl⟩
   have w2:IntKind.i64.wrap ((pos:Int)+2)=(p2:Int):=by rw [ab (by omega) (by omega)];omega
   by_cases h8:z=128∨132<z
   · rw [if_pos h8,hp2] at h
     simp only [uO] at h
     replace h:=hid h
     obtain ⟨kk1,_⟩:=kf.out 8
     by_cases z1:z=128
     · have z2:(z:Int)=128:=by omega
       clear hy hy2 hy3 h0 h8 z1
       refine ac au (by simp [ag]) ?_
       simp only [ag,aj]
       refine wk ?_
       exact fin.out rfl h.out
     · have z2:¬ (z:Int)=128:=by omega
       have z3:(132:Int)<(z:Int):=by omega
       clear hy hy2 hy3 h0 h8 z1
       refine ac au (by simp [ag]) ?_
       simp only [ag,aj]
       refine wk ?_
       exact fin.out rfl h.out
   rw [if_neg h8] at h
   have z2:¬ (z:Int)=128:=by omega
   have z3:¬ (132:Int)<(z:Int):=by omega
   rw [hp2] at h
   have hq:szN s pos=if 128<z then (eU ((s.drop p2).take (z - 128)),p2+(z - 128)) else (z,p2):=by simp only [szN,hc1,hz,hp2]
   have w3:IntKind.i64.wrap ((e:Int) - (p2:Int))=(e:Int) - (p2:Int):=ab (by omega) (by omega)
   obtain ⟨m,hm⟩:∃ m,z - 128=m:=⟨_,rfl⟩
   rw [hm] at h hq
   have hpe:p2≤e:=by omega
   by_cases hA3:128<z∧e - p2<m
   · rw [if_pos hA3] at h
     simp only [uO] at h
     replace h:=hid h
     obtain ⟨kk1,_⟩:=kf.out 3
     have z4:(128:Int)<(z:Int):=by omega
     have wm:IntKind.i64.wrap ((z:Int) - 128)=(m:Int):=by rw [ab (by omega) (by omega)];omega
     have z5:(e:Int) - (p2:Int)<(m:Int):=by omega
     clear hy hy2 hy3 h0 h8 hA3 hm hq
     refine ac au (by simp [ag]) ?_
     simp only [ag,aj]
     refine wk ?_
     exact fin.out rfl h.out
   rw [if_neg hA3] at h
   by_cases hA5:128<z∧1048576<(szN s pos).1
   · rw [if_pos hA5] at h
     rw [hq,if_pos hA5.1] at hA5
     simp only [uO] at h
     replace h:=hid h
     obtain ⟨kk1,_⟩:=kf.out 5
     have z4:(128:Int)<(z:Int):=by omega
     have wm:IntKind.i64.wrap ((z:Int) - 128)=(m:Int):=by rw [ab (by omega) (by omega)];omega
     have z5:¬ (e:Int) - (p2:Int)<(m:Int):=by omega
     obtain ⟨G,hG⟩:∃ G,eU ((s.drop p2).take m)=G:=⟨_,rfl⟩
     have kk2:Hid (∀ {L:List Blk} {K:AV→List Blk→Prop},K (.tup [.int .u64 (G:Int),.bool true]) L→ad Tryz.prog 103 [.str s,.int .i64 (p2:Int),.int .i64 (m:Int)] L K):=@hid _ (by
       intro L K q
       exact Gj hs (by omega) (by omega) (by omega) (by rw [hG];exact q))
     have z6:(1048576:Int)<(G:Int):=by have:=hA5.2;omega
     clear hy hy2 hy3 h0 h8 hA3 hm hq hA5 hG
     refine ac au (by simp [ag]) ?_
     simp only [ag,aj]
     refine wk ?_
     exact fin.out rfl h.out
   rw [if_neg hA5] at h
   obtain ⟨⟨G,p3⟩,hGp⟩:∃ x,szN s pos=x:=⟨_,rfl⟩
   rw [hGp] at h hA5
   simp only at h hA5
   have hb3:p2≤p3∧p3≤e∧G≤1048576:=by
     rw [hq] at hGp
     split at hGp<;>cases hGp<;>omega
   have w4:IntKind.i64.wrap ((e:Int) - (p3:Int))=(e:Int) - (p3:Int):=ab (by omega) (by omega)
   have wG:IntKind.i64.wrap (G:Int)=(G:Int):=ab (by omega) (by omega)
   by_cases h6:e - p3<G
   · rw [if_pos h6] at h
     simp only [uO] at h
     replace h:=hid h
     obtain ⟨kk1,_⟩:=kf.out 3
     have z7:(e:Int) - (p3:Int)<(G:Int):=by omega
     by_cases h128:128<z
     · have z4:(128:Int)<(z:Int):=by omega
       have wm:IntKind.i64.wrap ((z:Int) - 128)=(m:Int):=by rw [ab (by omega) (by omega)];omega
       have z5:¬ (e:Int) - (p2:Int)<(m:Int):=by omega
       rw [if_pos h128,hGp] at hq
       simp only [Prod.mk.injEq] at hq
       have wp:IntKind.i64.wrap ((p2:Int)+(m:Int))=(p3:Int):=by rw [ab (by omega) (by omega)];omega
       have kk2:Hid (∀ {L:List Blk} {K:AV→List Blk→Prop},K (.tup [.int .u64 (G:Int),.bool true]) L→ad Tryz.prog 103 [.str s,.int .i64 (p2:Int),.int .i64 (m:Int)] L K):=@hid _ (by
         intro L K q
         exact Gj hs (by omega) (by omega) (by omega) (by rw [← hq.1];exact q))
       have z6:¬ (1048576:Int)<(G:Int):=by omega
       clear hy hy2 hy3 h0 h8 hA3 hm hq hA5 hGp hb3 h6
       refine ac au (by simp [ag]) ?_
       simp only [ag,aj]
       refine wk ?_
       exact fin.out rfl h.out
     · have z4:¬ (128:Int)<(z:Int):=by omega
       rw [if_neg h128,hGp] at hq
       cases hq
       clear hy hy2 hy3 h0 h8 hA3 hm hA5 hGp hb3 h6
       refine ac au (by simp [ag]) ?_
       simp only [ag,aj]
       refine wk ?_
       exact fin.out rfl h.out
   rw [if_neg h6] at h
   have z7:¬ (e:Int) - (p3:Int)<(G:Int):=by omega
   obtain ⟨q,hqq⟩:∃ q,p3+G=q:=⟨_,rfl⟩
   rw [hqq] at h
   have wq:IntKind.i64.wrap ((p3:Int)+(G:Int))=(q:Int):=by rw [ab (by omega) (by omega)];omega
   have q1:(p3:Int)≤(q:Int):=by omega
   have q2:(q:Int)≤(s.length:Int):=by omega
   have q3:q - p3=G:=by omega
   have q4:(0:Int)≤(p3:Int):=by omega
   have hql:q≤s.length:=by omega
   have hpq:p3≤q:=by omega
   have hGb:G≤1048576:=hb3.2.2
   have hway:(128:Int)<(z:Int)∧IntKind.i64.wrap ((z:Int) - 128)=(m:Int)∧¬ (e:Int) - (p2:Int)<(m:Int)∧IntKind.i64.wrap ((p2:Int)+(m:Int))=(p3:Int)∧¬ (1048576:Int)<(G:Int)∧Hid (∀ {L:List Blk} {K:AV→List Blk→Prop},K (.tup [.int .u64 (G:Int),.bool true]) L→ad Tryz.prog 103 [.str s,.int .i64 (p2:Int),.int .i64 (m:Int)] L K)∨¬ (128:Int)<(z:Int)∧G=z∧p3=p2:=by
     by_cases h128:128<z
     · left
       rw [if_pos h128,hGp] at hq
       simp only [Prod.mk.injEq] at hq
       refine ⟨by omega,by rw [ab (by omega) (by omega)];omega,by omega,by rw [ab (by omega) (by omega)];omega,by omega,@hid _ ?_⟩
       intro L K q
       exact Gj hs (by omega) (by omega) (by omega) (by rw [← hq.1];exact q)
     · right
       rw [if_neg h128,hGp] at hq
       cases hq
       exact ⟨by omega,rfl,rfl⟩
   clear hy hy2 h0 h8 hA3 hm hA5 hGp hb3 h6 hq kf
   by_cases h7:t / 32 % 2=0
   · rw [if_pos h7] at h
     simp only [aM] at h
     have y0:y3=0:=by omega
     obtain ⟨D,hD⟩:∃ D,(s.drop p3).take G=D:=⟨_,rfl⟩
     rw [hD] at h
     replace h:=hid h
     clear hy3 h7
     subst y0
     rcases hway with ⟨z4,wm,z5,wp,z6,kk2⟩|⟨z4,rfl,rfl⟩
     all_goals
       refine ac au (by simp [ag]) ?_
       simp only [ag,aj]
       refine wk ?_
       refine ao ?_
       exact fin.out rfl h.out
   rw [if_neg h7] at h
   have y0:y3=1:=by omega
   clear hy3 h7
   subst y0
   obtain ⟨M,hM⟩:∃ M,lpN (elN f s q) q G p3 []=M:=⟨_,rfl⟩
   rw [hM] at h
   simp only [aM] at h
   replace h:=hid h
   have r8:=hN.out.get0
   replace hqq:=hid hqq
   have hNl:=hN.out.lt
   rcases hway with ⟨z4,wm,z5,wp,z6,kk2⟩|⟨z4,rfl,rfl⟩
   all_goals
     replace hM:=hid hM
     refine ac au (by simp [ag]) ?_
     simp only [ag,aj]
     refine wk ?_
     refine fo (N+1) 2 3 (c:=[.int .i64 (t:Int),.str [],.sl [] 0 (some 0)]) (l:=[]) (n:=0) (by simp [r4]) rfl (Nat.zero_mul 3).symm ?_
     refine ak (fun mm T' L'=>∃ (acc:List Nd) (k p:Nat) (b:Int) (C:List AV) (X:List Blk),((b=0∧∃ F,mm=F+1∧k+F=G∧q - p≤F∧p≤q∧Hid (lpN (elN f s q) q F p acc=M))∨(b≠0∧mm=0∧k≤G∧Hid (M=(acc,p,b))))∧Hid (C=ai acc∧k=acc.length)∧T'=[(13,.ptr (N+1) 0),(12,.int .i64 (q:Int)),(6,.ptr N 0),(0,.ptr r 0),(2,.int .i64 dep)]∧L'=R (p:Int) b++(.cells [.int .i64 0,.str [],.sl [] 0 (some 0)] :: .cells [.int .i64 (t:Int),.str [],.gsl C k (N+2) 3] :: .spare k 3::X)) (CutS (b:=by simp [r1])) ⟨[],0,p3,0,[],[],.inl ⟨rfl,G,rfl,by omega,by omega,hpq,hM⟩,hid ⟨rfl,rfl⟩,rfl,by simp [r1,r5]⟩ ?_
     rintro _ _ _ ⟨acc,k,p,b,C,X,hcase,hCk,rfl,rfl⟩
     clear g1 g2 g3 hc0 ht ht256 wt m1 m2 hpl g4 w1 hp1 g5 g6 g7 g8 g9 hc1 hz hz256 wz hp2 w2 z2 z3 m3 z4 z7 w4 wG wq q1 q4
     have ends:∀ {p:Nat} {b:Int} {acc:List Nd} {X:List Blk},M=(acc,p,b)→Fin (R (pos:Int) 0) (.agg [.int .i64 t,.str [],.gsl (ai acc) acc.length (N+2) 3]) (R (p:Int) b++X) K:=fun {p b acc X} hm=>by
       have h':=h.out
       rw [hm] at h'
       refine ao ?_
       simp only [AV.frz,AV.frzL,aS]
       exact fin.out (by simp only [AV.refs,AV.refsL,cf];rfl) h'
     replace ends:=@hid _ @ends
     rcases hcase with ⟨rfl,F,rfl,hkF,hqF,hpq',hI⟩|⟨hb0,rfl,hkG,hI⟩
     · by_cases hlt:p<q
       · have i1:(p:Int)<(q:Int):=by omega
         obtain ⟨F',rfl⟩:∃ F',F=F'+1:=⟨F - 1,by omega⟩
         obtain ⟨⟨n,p',b'⟩,hel⟩:∃ x,elN f s q p=x:=⟨_,rfl⟩
         have hI2:=hI.out
         rw [lpN,if_neg (by omega),hel] at hI2
         simp only at hI2
         have e0:=aS n.kids
         have ec:ndA n=[.int .i64 n.tag,.str n.data,.sl (ai n.kids) n.kids.length none]:=aP n
         have kk9:Hid (∀ X:List Blk,ad Tryz.prog 78 [.ptr r 0,.int .i64 (q:Int),.int .i64 (dep+1)] (R (p:Int) 0++X) fun av L'=>av=.agg [.int .i64 n.tag,.str n.data,.sl (ai n.kids) n.kids.length none]∧L'=R (p':Int) b'++X):=hid fun X=>by
           refine ih.out hql (by omega) (by rw [r6];rfl) ?_
           rw [hel]
           simp only
           rw [rdB,r7,ec]
           exact ⟨rfl,rfl⟩
         clear ends hI
         replace hI2:=hid hI2
         have hC':C++[.int .i64 n.tag,.str n.data,.sl (ai n.kids) n.kids.length none]=ai (acc++[n]):=by rw [hCk.out.1,dA,ai,ec];rfl
         have hk':k+1=(acc++[n]).length:=by rw [hCk.out.2];simp
         have hkb:k≤1048576:=by omega
         replace hC':=hid hC'
         replace hk':=hid hk'
         replace hel:=hid hel
         clear hCk ec ih
         refine wk ?_
         refine Mm _ _ (kk9.out _) rfl ?_
         refine sk ?_
         refine wk ?_
         by_cases hb:b'=0
         · subst hb
           obtain ⟨o1,o2⟩:=MF hpq' hql hel.out
           refine an (F'+1) _ _ (by omega) (CutL (b:=by simp [r1])) ⟨acc++[n],k+1,p',0,_,_,.inl ⟨rfl,F',rfl,by omega,by omega,o2,hid (by simpa using hI2.out)⟩,hid ⟨hC'.out,hk'.out⟩,rfl,rfl⟩
         · refine an 0 _ _ (by omega) (CutL (b:=by simp [r1])) ⟨acc++[n],k+1,p',b',_,_,.inr ⟨hb,rfl,by omega,hid (by rw [← hI2.out,if_pos hb])⟩,hid ⟨hC'.out,hk'.out⟩,rfl,rfl⟩
       · have hpe':p=q:=by omega
         have i1:¬ (p:Int)<(q:Int):=by omega
         have hI2:=hI.out
         have hlp:lpN (elN f s q) q F p acc=(acc,p,0):=by
           cases F with
           | zero=>rfl
           | succ F=>rw [lpN,if_pos (by omega)]
         rw [hlp] at hI2
         obtain ⟨rfl,rfl⟩:=hCk.out
         clear hlp hI hkF hqF hpe'
         replace hI2:=hid hI2
         refine wk ?_
         exact ends.out hI2.out.symm
     · obtain ⟨rfl,rfl⟩:=hCk.out
       by_cases hlt:p<q
       · have i1:(p:Int)<(q:Int):=by omega
         refine wk ?_
         exact ends.out hI.out
       · have i1:¬ (p:Int)<(q:Int):=by omega
         refine wk ?_
         exact ends.out hI.out
end Go.Proofs.YtgpnbkdcdmfgcaaGreat.Av
