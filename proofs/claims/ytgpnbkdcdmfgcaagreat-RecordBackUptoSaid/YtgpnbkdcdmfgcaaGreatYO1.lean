/- Joined texts of the walk, made small by a program. -/
import Derived.Test.YtgpnbkdcdmfgcaaGreatYP4
import Derived.Test.YtgpnbkdcdmfgcaaGreatRows
import Derived.KernelRfl
import Derived.Test.YtgpnbkdcdmfgcaaGreatYP5
set_option linter.unusedSimpArgs false
set_option linter.unusedVariables false
set_option maxRecDepth 100000
namespace Go.Proofs.YtgpnbkdcdmfgcaaGreat.Av
open Go
def oC:List SOp :=
 [o1 2 (.mv (.av (.str [])))]
def oB:List SOp :=
 [o1 6 (.mv (tm 0)),
 o1 7 (.s2bO (tm 6)),
 o1 3 (.mv (tm 7))]
def oA:List SOp :=
 [o1 8 (.mv (tm 3)),
 o1 9 (.len false (tm 8)),
 o1 10 (.mv (iv 0))]
def oz:List SOp :=
 [o1 11 (.bin .lss (tm 10) (tm 9))]
def oy:List SOp :=
 [o1 12 (.mv (tm 10)),
 o1 13 (.iaddr 1 (tm 8) (tm 10)),
 o1 14 (.load false 1 (tm 13)),
 o1 4 (.mv (tm 12)),
 o1 5 (.mv (tm 14))]
def ox:List SOp :=
 [o1 15 (.mv (tm 5)),
 o1 16 (.bin .geq (tm 15) (.av (.int .u8 65))),
 o1 17 (.mv (tm 16)),
 .grp none 17 true
 [og 18 17 true (.mv (tm 5)),
 og 19 17 true (.bin .leq (tm 18) (.av (.int .u8 90)))]
 20 (tm 19)]
def ow:List SOp :=
 [o1 21 (.mv (tm 3)),
 o1 22 (.mv (tm 4)),
 o1 23 (.mv (tm 5)),
 o1 24 (.bin .add (tm 23) (.av (.int .u8 32))),
 o1 25 (.iaddr 1 (tm 21) (tm 22)),
 o0 (.store 1 (tm 25) (tm 24))]
def ov:List SOp :=
 [o1 26 (.bin .add (tm 10) (iv 1)),
 o1 10 (.mv (tm 26))]
def ou:List SOp :=
 [o1 27 (.mv (tm 3)),
 o1 28 (.b2s (tm 27)),
 o1 2 (.mv (tm 28))]
def kf:aN:=⟨29,(.seq (.sreg oC [])
 (.seq (.sreg oB [true,false,false])
 (.seq (.seq (.sreg oA [])
 (.block 0 (.loop (.seq (.sreg oz [])
 (.seq (.cond (tm 11) .skip
 (.exit 0))
 (.seq (.block 1 (.seq (.sreg oy [true,true,false,false,false])
 (.seq (.sreg ox [true,false,false,false])
 (.cond (tm 20) (.sreg ow [false,false,false,false,false])
 .skip))))
 (.sreg ov [true,false])))))))
 (.seq (.sreg ou [true,false,false])
 .ret)))),[(.tmp 2)]⟩
attribute [push_cast] oC oB oA oz oy ox ow ov ou
theorem vT:aT Tryz.prog (fun r i=>if r=1∧i=1 then 2 else 1) 64=some kf.raw:=by kernel_rfl
def ot:List SOp :=
 [o1 2 (.mv (.av (.str [])))]
def oq:List SOp :=
 [o1 3 (.mv (.av (.sl [] 0 (some 0))))]
def oo:List SOp :=
 [o1 6 (.mv (tm 0)),
 o1 7 (.call 64 [(tm 6)]),
 o1 8 (.s2b (tm 7)),
 o1 9 (.len false (tm 8)),
 o1 10 (.mv (iv 0))]
def om:List SOp :=
 [o1 11 (.bin .lss (tm 10) (tm 9))]
def ol:List SOp :=
 [o1 12 (.iaddr 1 (tm 8) (tm 10)),
 o1 13 (.load false 1 (tm 12)),
 o1 5 (.mv (tm 13))]
def oj:List SOp :=
 [o1 14 (.mv (tm 5)),
 o1 15 (.bin .eql (tm 14) (.av (.int .u8 32))),
 o1 16 (.mv (tm 15)),
 .grp none 16 true
 [og 17 16 true (.mv (tm 3)),
 og 18 16 true (.len false (tm 17)),
 og 19 16 true (.bin .eql (tm 18) (iv 0)),
 og 20 16 true (.mv (tm 19)),
 .grp (some (16,true)) 20 false
 [og 21 20 false (.mv (tm 3)),
 og 22 20 false (.mv (tm 3)),
 og 23 20 false (.len false (tm 22)),
 og 24 20 false (.bin .sub (tm 23) (iv 1)),
 og 25 20 false (.iaddr 1 (tm 21) (tm 24)),
 og 26 20 false (.load false 1 (tm 25)),
 og 27 20 false (.bin .eql (tm 26) (.av (.int .u8 32)))]
 28 (tm 27)]
 29 (tm 28)]
def oi:List SOp :=
 [o1 30 (.mv (tm 3)),
 o1 31 (.mv (tm 5)),
 o1 32 (.bslice false 1 1 [(.int .u8 0)] [(0,(1,(tm 31)))]),
 o1 33 (.app 1 1 1 [(.int .u8 0)] (tm 30) (tm 32)),
 o1 3 (.mv (tm 33))]
def oh:List SOp :=
 [o1 34 (.bin .add (tm 10) (iv 1)),
 o1 10 (.mv (tm 34))]
def oe:List SOp :=
 [o1 35 (.mv (tm 3)),
 o1 36 (.len false (tm 35)),
 o1 37 (.bin .gtr (tm 36) (iv 0)),
 o1 38 (.mv (tm 37)),
 .grp none 38 true
 [og 39 38 true (.mv (tm 3)),
 og 40 38 true (.mv (tm 3)),
 og 41 38 true (.len false (tm 40)),
 og 42 38 true (.bin .sub (tm 41) (iv 1)),
 og 43 38 true (.iaddr 1 (tm 39) (tm 42)),
 og 44 38 true (.load false 1 (tm 43)),
 og 45 38 true (.bin .eql (tm 44) (.av (.int .u8 32)))]
 46 (tm 45)]
def oc:List SOp :=
 [o1 47 (.mv (tm 3)),
 o1 48 (.mv (tm 3)),
 o1 49 (.len false (tm 48)),
 o1 50 (.bin .sub (tm 49) (iv 1)),
 o1 51 (.slV 1 (tm 47) none (some (tm 50)) none),
 o1 3 (.mv (tm 51))]
def lP:List SOp :=
 [o1 52 (.mv (tm 3)),
 o1 53 (.b2s (tm 52)),
 o1 2 (.mv (tm 53))]
def ke:aN:=⟨54,(.seq (.sreg ot [])
 (.seq (.sreg oq [])
 (.seq (.seq (.sreg oo [true,true,true,false,false])
 (.block 0 (.loop (.seq (.sreg om [])
 (.seq (.cond (tm 11) .skip
 (.exit 0))
 (.seq (.block 1 (.seq (.sreg ol [true,false,false])
 (.seq (.seq (.sreg oj [true,false,false,false])
 (.cond (tm 29) (.exit 1)
 .skip))
 (.sreg oi [true,false,false,false,false]))))
 (.sreg oh [true,false])))))))
 (.seq (.seq (.sreg oe [true,false,false,false,false])
 (.cond (tm 46) (.sreg oc [true,false,false,false,false,false])
 .skip))
 (.seq (.sreg lP [true,false,false])
 .ret))))),[(.tmp 2)]⟩
attribute [push_cast] ot oq oo om ol oj oi oh oe oc lP
theorem vS:aT Tryz.prog (fun _ _=>1) 65=some ke.raw:=by kernel_rfl
def oa:List SOp :=
 [o1 2 (.mv (.av (.int .u8 0))),
 o1 3 (.mv (.av (.bool false)))]
def n9:List SOp :=
 [o1 5 (.mv (tm 0)),
 o1 6 (.bin .geq (tm 5) (.av (.int .u8 48))),
 o1 7 (.mv (tm 6)),
 .grp none 7 true
 [og 8 7 true (.mv (tm 0)),
 og 9 7 true (.bin .leq (tm 8) (.av (.int .u8 57)))]
 10 (tm 9),
 o1 4 (.mv (tm 10))]
def n8:List SOp :=
 [o1 11 (.mv (tm 0)),
 o1 12 (.bin .sub (tm 11) (.av (.int .u8 48))),
 o1 2 (.mv (tm 12)),
 o1 3 (.mv (.av (.bool true)))]
def n7:List SOp :=
 [o1 14 (.mv (tm 0)),
 o1 15 (.bin .geq (tm 14) (.av (.int .u8 97))),
 o1 16 (.mv (tm 15)),
 .grp none 16 true
 [og 17 16 true (.mv (tm 0)),
 og 18 16 true (.bin .leq (tm 17) (.av (.int .u8 102)))]
 19 (tm 18),
 o1 13 (.mv (tm 19))]
def nZ:List SOp :=
 [o1 20 (.mv (tm 0)),
 o1 21 (.bin .sub (tm 20) (.av (.int .u8 97))),
 o1 22 (.bin .add (tm 21) (.av (.int .u8 10))),
 o1 2 (.mv (tm 22)),
 o1 3 (.mv (.av (.bool true)))]
def nY:List SOp :=
 [o1 24 (.mv (tm 0)),
 o1 25 (.bin .geq (tm 24) (.av (.int .u8 65))),
 o1 26 (.mv (tm 25)),
 .grp none 26 true
 [og 27 26 true (.mv (tm 0)),
 og 28 26 true (.bin .leq (tm 27) (.av (.int .u8 70)))]
 29 (tm 28),
 o1 23 (.mv (tm 29))]
def nX:List SOp :=
 [o1 30 (.mv (tm 0)),
 o1 31 (.bin .sub (tm 30) (.av (.int .u8 65))),
 o1 32 (.bin .add (tm 31) (.av (.int .u8 10))),
 o1 2 (.mv (tm 32)),
 o1 3 (.mv (.av (.bool true)))]
def nW:List SOp :=
 [o1 2 (.mv (.av (.int .u8 0))),
 o1 3 (.mv (.av (.bool false)))]
def kc:aN:=⟨33,(.seq (.sreg oa [])
 (.seq (.block 0 (.seq (.sreg n9 [true,false,false,false,false])
 (.cond (tm 4) (.seq (.sreg n8 [true,true,false,false])
 .ret)
 (.seq (.sreg n7 [true,false,false,false,false])
 (.cond (tm 13) (.seq (.sreg nZ [true,true,false,false,false])
 .ret)
 (.seq (.sreg nY [true,false,false,false,false])
 (.cond (tm 23) (.seq (.sreg nX [true,true,false,false,false])
 .ret)
 .skip)))))))
 (.seq (.sreg nW [])
 .ret))),[(.tmp 2),(.tmp 3)]⟩
attribute [push_cast] oa n9 n8 n7 nZ nY nX nW
theorem vR:aT Tryz.prog (fun _ _=>1) 128=some kc.raw:=by kernel_rfl
def lO:List SOp :=
 [o1 2 (.mv (.av (.str []))),
 o1 3 (.mv (.av (.bool false)))]
def lN:List SOp :=
 [o1 10 (.mv (tm 0)),
 o1 11 (.len true (tm 10)),
 o1 12 (.bin .rem (tm 11) (iv 2)),
 o1 13 (.bin .eql (tm 12) (iv 1))]
def lM:List SOp :=
 [o1 2 (.mv (.av (.str []))),
 o1 3 (.mv (.av (.bool false)))]
def lL:List SOp :=
 [o1 14 (.mv (tm 0)),
 o1 15 (.len true (tm 14)),
 o1 16 (.bin .quo (tm 15) (iv 2)),
 o1 17 (.mkslice 1 1 [(.int .u8 0)] (iv 0) (tm 16)),
 o1 4 (.mv (tm 17))]
def lK:List SOp :=
 [o1 5 (.mv (iv 0))]
def lJ:List SOp :=
 [o1 18 (.mv (tm 5)),
 o1 19 (.mv (tm 0)),
 o1 20 (.len true (tm 19)),
 o1 21 (.bin .lss (tm 18) (tm 20))]
def lI:List SOp :=
 [o1 25 (.mv (tm 0)),
 o1 26 (.mv (tm 5)),
 o1 27 (.idxS (tm 25) (tm 26)),
 o1 28 (.call 128 [(tm 27)]),
 o1 24 (.mv (tm 28)),
 o1 29 (.extract (tm 24) 0),
 o1 30 (.extract (tm 24) 1),
 o1 6 (.mv (tm 29)),
 o1 7 (.mv (tm 30))]
def lH:List SOp :=
 [o1 32 (.mv (tm 0)),
 o1 33 (.mv (tm 5)),
 o1 34 (.bin .add (tm 33) (iv 1)),
 o1 35 (.idxS (tm 32) (tm 34)),
 o1 36 (.call 128 [(tm 35)]),
 o1 31 (.mv (tm 36)),
 o1 37 (.extract (tm 31) 0),
 o1 38 (.extract (tm 31) 1),
 o1 8 (.mv (tm 37)),
 o1 9 (.mv (tm 38))]
def lG:List SOp :=
 [o1 39 (.mv (tm 7)),
 o1 40 (.un .not (tm 39)),
 o1 41 (.mv (tm 40)),
 .grp none 41 false
 [og 42 41 false (.mv (tm 9)),
 og 43 41 false (.un .not (tm 42))]
 44 (tm 43)]
def lF:List SOp :=
 [o1 2 (.mv (.av (.str []))),
 o1 3 (.mv (.av (.bool false)))]
def jy:List SOp :=
 [o1 45 (.mv (tm 4)),
 o1 46 (.mv (tm 6)),
 o1 47 (.bin .shl (tm 46) (.av (.int .u64 4))),
 o1 48 (.mv (tm 8)),
 o1 49 (.bin .or (tm 47) (tm 48)),
 o1 50 (.bslice false 1 1 [(.int .u8 0)] [(0,(1,(tm 49)))]),
 o1 51 (.app 1 1 1 [(.int .u8 0)] (tm 45) (tm 50)),
 o1 4 (.mv (tm 51))]
def jx:List SOp :=
 [o1 22 (.mv (tm 5)),
 o1 23 (.bin .add (tm 22) (iv 2)),
 o1 5 (.mv (tm 23))]
def jw:List SOp :=
 [o1 52 (.mv (tm 4)),
 o1 53 (.b2s (tm 52)),
 o1 2 (.mv (tm 53)),
 o1 3 (.mv (.av (.bool true)))]
def ix:aN:=⟨54,(.seq (.sreg lO [])
 (.seq (.seq (.sreg lN [true,false,false,false])
 (.cond (tm 13) (.seq (.sreg lM [])
 .ret)
 .skip))
 (.seq (.sreg lL [true,false,false,false,false])
 (.seq (.seq (.sreg lK [])
 (.block 0 (.loop (.seq (.seq (.sreg lJ [true,false,false,false])
 (.cond (tm 21) .skip
 (.exit 0)))
 (.seq (.block 1 (.seq (.sreg lI [true,true,false,false,false,false,false,false,false])
 (.seq (.sreg lH [true,true,false,false,false,false,false,false,false,false])
 (.seq (.seq (.sreg lG [true,false,false,false])
 (.cond (tm 44) (.seq (.sreg lF [])
 .ret)
 .skip))
 (.sreg jy [true,false,false,false,false,false,false,false])))))
 (.sreg jx [true,false,false]))))))
 (.seq (.sreg jw [true,true,false,false])
 .ret))))),[(.tmp 2),(.tmp 3)]⟩
attribute [push_cast] lO lN lM lL lK lJ lI lH lG lF jy jx jw
theorem uo:aT Tryz.prog (fun _ _=>1) 101=some ix.raw:=by kernel_rfl
set_option maxHeartbeats 8000000
set_option maxRecDepth 100000
def z7 (c:UInt8):UInt8:=if 65≤c.toNat∧c.toNat≤90 then c+32 else c
def aD (s:List UInt8):List UInt8:=s.map z7
theorem Eo {c:UInt8} (h1:65≤c.toNat) (h2:c.toNat≤90):((z7 c).toNat:Int)=(c.toNat:Int)+32:=by
 rw [z7,if_pos ⟨h1,h2⟩,UInt8.toNat_add]
 have:(32:UInt8).toNat=32:=rfl
 omega
theorem C0 {c:UInt8} (h:¬ (65≤c.toNat∧c.toNat≤90)):z7 c=c:=by rw [z7,if_neg h]
theorem jO (l:List UInt8):(u8s l).all yo=true:=by
 simp only [u8s,List.all_map,List.all_eq_true]
 intro x _
 have:=x.toNat_lt
 simp [yo]
theorem iC (l:List UInt8):(u8s l).map vI=l:=by
 induction l with
 | nil=>rfl
 | cons x l ih =>
   simp only [u8s,List.map_cons,List.map_map] at ih ⊢
   rw [ih]
   simp [vI]
theorem AN (l:List UInt8) (c:UInt8):u8s (l++[c])=u8s l++[.int .u8 c.toNat]:=by simp [u8s]
theorem At {s:List UInt8} {k:Nat} (h:k<s.length):aD (s.take (k+1))=aD (s.take k)++[z7 (s.getD k 0)]:=by
 rw [List.take_succ_eq_append_getElem h,aD,List.map_append]
 simp [aD,h]
theorem Ew {s:List UInt8} (hs:(s.length:Int)≤140737488351232) {L:List Blk} {K:AV→List Blk→Prop} (h:K (.str (aD s)) L):ad Tryz.prog 64 [.str s] L K:=by
 replace h:=hid h
 refine ae vT (by simp [kf]) ?_
 simp only [kf,an]
 refine wk ?_
 refine ak (fun n T' L'=>∃ (k:Nat) (v:List AV),n=s.length - k∧k≤s.length∧v=u8s (aD (s.take k)++s.drop k)∧T'=[(10,.int .i64 (k:Int)),(9,.int .i64 s.length),(8,.lsl L.length 0 s.length none 1),(3,.lsl L.length 0 s.length none 1),(2,.str [])]∧L'=L++[.bytes v]) (CutS (b:=by simp)) ⟨0,_,rfl,Nat.zero_le _,rfl,rfl,rfl⟩ ?_
 rintro _ _ _ ⟨k,v,rfl,hk,hv,rfl,rfl⟩
 by_cases hlt:k<s.length
 · have h1:(k:Int)<(s.length:Int):=by omega
   have h2:IntKind.i64.wrap ((k:Int)+1)=(k:Int)+1:=af (by omega) (by omega)
   obtain ⟨c,hc⟩:∃ c,s.getD k 0=c:=⟨_,rfl⟩
   have hd:s.drop k=c::s.drop (k+1):=by
     rw [List.drop_eq_getElem_cons hlt,← hc,List.getD_eq_getElem?_getD,List.getElem?_eq_getElem hlt];rfl
   have hlk:(aD (s.take k)).length=k:=by simp [aD];omega
   have hv1:v=u8s (aD (s.take k)) ++ .int .u8 c.toNat::u8s (s.drop (k+1)):=by rw [hv,hd];simp [u8s]
   have hl2:(u8s (aD (s.take k))).length=k:=by simp [u8s,hlk]
   have hvl:v.length=s.length:=by rw [hv];simp [u8s,aD];omega
   have hvk:k<v.length:=by omega
   have hvg:v.getD k .undef=.int .u8 c.toNat:=by rw [hv1];simp [List.getD_eq_getElem?_getD,List.getElem?_append_right,hl2]
   have hsucc:=At hlt
   rw [hc] at hsucc
   have hnew:u8s (aD (s.take (k+1))++s.drop (k+1))=u8s (aD (s.take k)) ++ .int .u8 (z7 c).toNat::u8s (s.drop (k+1)):=by rw [hsucc];simp [u8s]
   have hspl:∀ x,v.take k++x::v.drop (k+1)=u8s (aD (s.take k))++x::u8s (s.drop (k+1)):=fun x=>by
     rw [hv1,List.take_left' hl2,List.drop_append,hl2,List.drop_eq_nil_of_le (by omega),show k+1 - k=1 by omega];rfl
   clear hv hd hlk hsucc
   replace hv1:=hid hv1
   replace hnew:=hid hnew
   replace hspl:=hid hspl
   have hc255:=c.toNat_lt
   by_cases hu:65≤c.toNat∧c.toNat≤90
   · have u1:(65:Int)≤(c.toNat:Int):=by omega
     have u2:(c.toNat:Int)≤90:=by omega
     have u3:=hid (Eo hu.1 hu.2)
     have u4:IntKind.u8.wrap ((c.toNat:Int)+32)=(c.toNat:Int)+32:=dW (by omega) (by omega)
     clear hu
     refine wk ?_
     refine ap _ _ _ (by omega) (CutS (b:=by simp)) ⟨k+1,_,rfl,hlt,?_,rfl,rfl⟩
     rw [hnew.out,u3.out]
     exact hspl.out _
   · have u3:=hid (C0 hu)
     have u5:(decide ((65:Int)≤(c.toNat:Int)) && decide ((c.toNat:Int)≤90))=false:=by simp;omega
     clear hu
     repeat' first
       | refine dR ?_
       | (first|refine db (by kernel_rfl) ?_|refine cg (by kernel_rfl) ?_|refine ch ?_|refine iq ?_|refine dM (fun _=>?_)|refine bj ?_|refine de ?_)
         refine sm ?_
       | (first|refine c7 (by kernel_rfl) ?_|refine dc ?_|refine dd ?_|refine dS (bi ?_))
         refine sl ?_
       | exact dN
       | first|apply dO|apply c8|apply dP|apply c9|apply dQ|apply da
       | refine cm ?_
       | first|refine ci rfl ?_|refine cj rfl ?_|refine aZ rfl ?_ ?_|refine cT rfl (fun _=>?_) (fun _=>?_)|refine cS rfl (fun _=>?_) (fun _=>?_)
       | ((first|refine aX (fun _=>?_) (fun _=>?_)|refine bh (fun _=>?_) (fun _=>?_))<;>try refine sm ?_)
       | refine And.intro trivial ?_
       | refine And.intro (by omega) ?_
       | refine bD rfl (fun _=>?_) (fun _=>?_)
       | refine And.intro ?_ ?_
     all_goals first
       | omega
       | (refine ap _ _ _ (by omega) (CutS (b := by simp)) ⟨k + 1, _, rfl, hlt, ?_, rfl, rfl⟩
          rw [hnew.out,u3.out]
          exact hv1.out)
 · have hke:k=s.length:=by omega
   subst hke
   have h1:¬ (s.length:Int)<(s.length:Int):=by omega
   have hv1:v=u8s (aD s):=by rw [hv];simp
   clear hv
   subst hv1
   have e1:=jO (aD s)
   have e2:=iC (aD s)
   have e4:(u8s (aD s)).length=s.length:=by simp [u8s,aD]
   have e5:(u8s (aD s)).take s.length=u8s (aD s):=by rw [← e4];exact List.take_length
   refine wk ?_
   exact aa rfl h.out
theorem oV {s:List UInt8} (hs:(s.length:Int)≤100000) {L:List Blk} {K:AV→List Blk→Prop} (h:K (.str (aD s)) L):ad Tryz.prog 64 [.str s] L K:=Ew (by omega) h
set_option maxHeartbeats 8000000
set_option maxRecDepth 100000
def jW (c:UInt8):Option Nat:=if 48≤c.toNat∧c.toNat≤57 then some (c.toNat - 48) else if 97≤c.toNat∧c.toNat≤102 then some (c.toNat - 87) else if 65≤c.toNat∧c.toNat≤70 then some (c.toNat - 55) else none
theorem wa {c:UInt8} {x:Nat} (h:jW c=some x):x<16:=by
 unfold jW at h
 split at h
 · cases h;omega
 · split at h
   · cases h;omega
   · split at h
     · cases h;omega
     · cases h
theorem Ae {c:UInt8} {L:List Blk} {K:AV→List Blk→Prop} (h:K (.tup [.int .u8 ((jW c).getD 0:Nat),.bool (jW c).isSome]) L):ad Tryz.prog 128 [.int .u8 c.toNat] L K:=by
 have hc:=c.toNat_lt
 obtain ⟨n,hn⟩:∃ n,c.toNat=n:=⟨_,rfl⟩
 unfold jW at h
 rw [hn] at h hc ⊢
 clear hn
 refine ae vR (by simp [kc]) ?_
 simp only [kc,an]
 by_cases h1:48≤n∧n≤57
 · rw [if_pos h1] at h
   replace h:=hid h
   obtain ⟨a1,a2⟩:=h1
   have b1:(48:Int)≤(n:Int):=by omega
   have b2:(n:Int)≤57:=by omega
   have b3:IntKind.u8.wrap ((n:Int) - 48)=(n:Int) - 48:=dW (by omega) (by omega)
   clear a1 a2
   refine wk ?_
   refine aj ?_
   have:=h.out
   simpa [show ((n - 48:Nat):Int)=(n:Int) - 48 by omega] using this
 · rw [if_neg h1] at h
   have c1:(decide ((48:Int)≤(n:Int)) && decide ((n:Int)≤57))=false:=by simp;omega
   by_cases h2:97≤n∧n≤102
   · rw [if_pos h2] at h
     replace h:=hid h
     obtain ⟨a1,a2⟩:=h2
     have b1:(97:Int)≤(n:Int):=by omega
     have b2:(n:Int)≤102:=by omega
     have b4:IntKind.u8.wrap ((n:Int) - 97)=(n:Int) - 97:=dW (by omega) (by omega)
     have b5:IntKind.u8.wrap ((n:Int) - 97+10)=(n:Int) - 97+10:=dW (by omega) (by omega)
     clear a1 a2 h1
     refine wk ?_
     refine aj ?_
     have:=h.out
     simpa [show ((n - 87:Nat):Int)=(n:Int) - 97+10 by omega] using this
   · rw [if_neg h2] at h
     have c2:(decide ((97:Int)≤(n:Int)) && decide ((n:Int)≤102))=false:=by simp;omega
     by_cases h3:65≤n∧n≤70
     · rw [if_pos h3] at h
       replace h:=hid h
       obtain ⟨a1,a2⟩:=h3
       have b1:(65:Int)≤(n:Int):=by omega
       have b2:(n:Int)≤70:=by omega
       have b4:IntKind.u8.wrap ((n:Int) - 65)=(n:Int) - 65:=dW (by omega) (by omega)
       have b5:IntKind.u8.wrap ((n:Int) - 65+10)=(n:Int) - 65+10:=dW (by omega) (by omega)
       clear a1 a2 h1 h2
       refine wk ?_
       refine aj ?_
       have:=h.out
       simpa [show ((n - 55:Nat):Int)=(n:Int) - 65+10 by omega] using this
     · rw [if_neg h3] at h
       have c3:(decide ((65:Int)≤(n:Int)) && decide ((n:Int)≤70))=false:=by simp;omega
       replace h:=hid h
       clear h1 h2 h3
       repeat' first
         | refine dR ?_
         | (first|refine db (by kernel_rfl) ?_|refine cg (by kernel_rfl) ?_|refine ch ?_|refine iq ?_|refine dM (fun _=>?_)|refine bj ?_|refine de ?_)
           refine sm ?_
         | (first|refine c7 (by kernel_rfl) ?_|refine dc ?_|refine dd ?_|refine dS (bi ?_))
           refine sl ?_
         | exact dN
         | first|apply dO|apply c8|apply dP|apply c9|apply dQ|apply da
         | refine cm ?_
         | first|refine ci rfl ?_|refine cj rfl ?_|refine aZ rfl ?_ ?_|refine cT rfl (fun _=>?_) (fun _=>?_)|refine cS rfl (fun _=>?_) (fun _=>?_)
         | ((first|refine aX (fun _=>?_) (fun _=>?_)|refine bh (fun _=>?_) (fun _=>?_))<;>try refine sm ?_)
         | refine And.intro trivial ?_
         | refine And.intro (by omega) ?_
         | refine bD rfl (fun _=>?_) (fun _=>?_)
         | refine And.intro ?_ ?_
       all_goals first
         | omega
         | (refine aj ?_;simpa using h.out)
def Ad (a b:UInt8):Option UInt8:=match jW a,jW b with
 | some x,some y=>some (UInt8.ofNat (16 * x+y))
 | _,_=>none
def ze (a b:UInt8):AV:=match Ad a b with
 | some c=>.tup [.str [c],.bool true]
 | none=>.tup [.str [],.bool false]
theorem Fk:∀ x y:_root_.Fin 16,IntKind.u8.wrap (((BitVec.ofInt IntKind.u8.bits (IntKind.u8.wrap ((x.val:Int) * 2 ^ min 4 IntKind.u8.bits)) ||| BitVec.ofInt IntKind.u8.bits (y.val:Int)).toNat:Nat):Int)=16 * (x.val:Int)+(y.val:Int):=by decide +kernel
theorem Co {a b:UInt8} {L:List Blk} {K:AV→List Blk→Prop} (h:K (ze a b) L):ad Tryz.prog 101 [.str [a,b]] L K:=by
 have hl:[a,b].length=2:=rfl
 have ha:[a,b].getD 0 0=a:=rfl
 have hb:[a,b].getD 1 0=b:=rfl
 have d1:IntKind.i64.wrap (Int.tdiv 2 2)=1:=by decide
 have d2:Int.tmod 2 2=0:=by decide
 have d3:bF [AV.int IntKind.u8 0] 1=[AV.int IntKind.u8 0]:=rfl
 have d4:IntKind.i64.wrap 1=1:=by decide
 have d5:IntKind.i64.wrap 2=2:=by decide
 replace h:=hid h
 refine ae uo (by simp [ix]) ?_
 simp only [ix,an]
 refine wk ?_
 refine ak (fun n T' L'=>(n=1∧T'=[(5,.int .i64 0),(4,.lsl L.length 0 0 (some 1) 1),(0,.str [a,b])]∧L'=L++[.cells [.int .u8 0]])∨(n=0∧∃ x y:Nat,Hid (jW a=some x)∧Hid (jW b=some y)∧T'=[(5,.int .i64 2),(4,.lsl (L.length+1) 0 1 none 1),(0,.str [a,b])]∧L'=L++[.dead,.cells [.int .u8 ((16 * x+y:Nat):Int)]])) (n0:=1) (T0:=[(5,.int .i64 0),(4,.lsl L.length 0 0 (some 1) 1),(0,.str [a,b])]) (L0:=L++[.cells [.int .u8 0]]) (CutS (b:=by simp)) (.inl ⟨rfl,rfl,rfl⟩) ?_
 rintro _ _ _ (⟨rfl,rfl,rfl⟩|⟨rfl,x,y,hx,hy,rfl,rfl⟩)
 · rcases hx:jW a with _|x
   · have h':=h.out
     simp only [ze,Ad,hx] at h'
     replace h':=hid h'
     have e1:(jW a).getD 0=0:=by rw [hx];rfl
     have e2:(jW a).isSome=false:=by rw [hx];rfl
     clear hx
     have kk1:=@hid _ @Ae
     refine wk ?_
     exact aa rfl h'.out
   · have e1:(jW a).getD 0=x:=by rw [hx];rfl
     have e2:(jW a).isSome=true:=by rw [hx];rfl
     have hx':=hid hx
     rcases hy:jW b with _|y
     · have h':=h.out
       simp only [ze,Ad,hx,hy] at h'
       replace h':=hid h'
       have e3:(jW b).getD 0=0:=by rw [hy];rfl
       have e4:(jW b).isSome=false:=by rw [hy];rfl
       clear hx hy
       have kk1:=@hid _ @Ae
       refine wk ?_
       exact aa rfl h'.out
     · have e3:(jW b).getD 0=y:=by rw [hy];rfl
       have e4:(jW b).isSome=true:=by rw [hy];rfl
       have hy':=hid hy
       have e5:=Fk ⟨x,wa hx⟩ ⟨y,wa hy⟩
       simp only at e5
       clear hx hy
       have kk1:=@hid _ @Ae
       refine wk ?_
       refine ap 0 _ _ (by omega) (CutL (b:=by simp)) (.inr ⟨rfl,x,y,hid rfl,hid rfl,rfl,?_⟩)
       first|rfl|rw [e5]
 · have h':=h.out
   simp only [ze,Ad,hx.out,hy.out] at h'
   replace h':=hid h'
   have lx:=wa hx.out
   have ly:=wa hy.out
   have u1:yo (.int .u8 (16 * (x:Int)+(y:Int)))=true:=rfl
   have u2:vI (.int .u8 (16 * (x:Int)+(y:Int)))=UInt8.ofNat (16 * x+y):=by
     simp only [vI]
     rw [show (16 * (x:Int)+(y:Int)).toNat=16 * x+y by omega]
   refine wk ?_
   exact aa rfl h'.out
set_option maxHeartbeats 8000000
set_option maxRecDepth 100000
def Dl (b:List UInt8):Bool:=b.isEmpty || b.getLast? == some 32
def dr (b:List UInt8) (c:UInt8):List UInt8:=if c=32∧Dl b=true then b else b++[c]
def oR (s:List UInt8):List UInt8:=s.foldl dr []
def yL (b:List UInt8):List UInt8:=if b.getLast?=some 32 then b.dropLast else b
def dH (s:List UInt8):List UInt8:=yL (oR (aD s))
theorem tK (b:List UInt8) (c:UInt8):(dr b c).length≤b.length+1:=by
 unfold dr;split<;>simp
theorem wG {s:List UInt8} {k:Nat} (h:k<s.length):oR (s.take (k+1))=dr (oR (s.take k)) (s.getD k 0):=by
 rw [List.take_succ_eq_append_getElem h,oR,List.foldl_append]
 simp [oR,h]
theorem pf (s:List UInt8):∀ k,(oR (s.take k)).length≤k
 | 0=>by simp [oR]
 | k+1=>by
   have ih:=pf s k
   by_cases h:k<s.length
   · rw [wG h]
     have:=tK (oR (s.take k)) (s.getD k 0)
     omega
   · rw [List.take_of_length_le (by omega),← List.take_of_length_le (l:=s) (i:=k) (by omega)];omega
theorem wF {s:List UInt8} (hs:(s.length:Int)≤100000) {L:List Blk} {K:AV→List Blk→Prop} (h:K (.str (dH s)) L):ad Tryz.prog 65 [.str s] L K:=by
 replace h:=hid h
 refine ae vS (by simp [ke]) ?_
 simp only [ke,an]
 obtain ⟨t,ht⟩:∃ t,aD s=t:=⟨_,rfl⟩
 have htl:(t.length:Int)≤100000:=by rw [← ht];simpa [aD] using hs
 have kk1:=@hid _ (fun L K=>oV hs (L:=L) (K:=K))
 refine wk ?_
 refine cJ (l:=[]) (n:=0) 3 1 rfl (Nat.zero_mul 1).symm ?_
 refine ak (fun n T' L'=>∃ (k:Nat) (b:List UInt8) (v:List AV) (m:Nat),n=t.length - k∧k≤t.length∧b=oR (t.take k)∧v=u8s b∧m=b.length∧T'=[(10,.int .i64 (k:Int)),(9,.int .i64 t.length),(8,.sl (u8s t) t.length none),(3,.gsl v m L.length 1),(2,.str [])]∧L'=L++[.spare m 1]) (CutS (b:=by simp)) ⟨0,[],[],0,rfl,Nat.zero_le _,rfl,rfl,rfl,rfl,rfl⟩ ?_
 rintro _ _ _ ⟨k,b,v,m,rfl,hk,hb,rfl,rfl,rfl,rfl⟩
 replace hb:=hid hb
 by_cases hlt:k<t.length
 · have h1:(k:Int)<(t.length:Int):=by omega
   have h2:IntKind.i64.wrap ((k:Int)+1)=(k:Int)+1:=af (by omega) (by omega)
   have hsucc:=hid (wG hlt)
   obtain ⟨c,hc⟩:∃ c,t.getD k 0=c:=⟨_,rfl⟩
   have hg:(u8s t).getD k .undef=.int .u8 c.toNat:=by simp [u8s,hlt,← hc]
   have hlk:k<(u8s t).length:=by simpa [u8s] using hlt
   rw [hc] at hsucc
   have hbl:b.length≤k:=by rw [hb.out];exact pf t k
   have hstep:∀ b',b'=dr b c→b'=oR (t.take (k+1)):=fun b' e=>by rw [hsucc.out,← hb.out];exact e
   have c32:((c.toNat:Int)=32)↔c=32:=⟨fun e=>UInt8.toNat_inj.1 (by have:(32:UInt8).toNat=32:=rfl;omega),fun e=>by rw [e];rfl⟩
   replace hstep:=hid hstep
   replace c32:=hid c32
   clear hsucc hb hc
   have hub:(u8s b).length=b.length:=by simp [u8s]
   have rest:∀ b',b'=dr b c→b'.length≤b.length+1:=fun b' e=>by rw [e];exact tK b c
   clear rest
   by_cases hc:(c.toNat:Int)=32
   · rcases List.eq_nil_or_concat b with hb0|⟨d,x,hb0⟩
     · have e0:(b.length:Int)=0:=by rw [hb0];rfl
       have e1:=hid (hstep.out b (by rw [dr,if_pos ⟨c32.out.1 hc,by rw [hb0];rfl⟩]))
       clear hb0
       refine wk ?_
       exact ap _ _ _ (by omega) (CutS (b:=by simp)) ⟨k+1,b,_,_,rfl,hlt,e1.out,rfl,rfl,rfl,rfl⟩
     · have e0:¬ (b.length:Int)=0:=by rw [hb0];simp;omega
       have e1:IntKind.i64.wrap ((b.length:Int) - 1)=(d.length:Int):=by rw [af (by omega) (by omega),hb0];simp
       have e2:(u8s b).getD d.length .undef=.int .u8 x.toNat:=by rw [hb0];simp [u8s,List.getD_eq_getElem?_getD]
       have e3:d.length<(u8s b).length:=by rw [hb0];simp [u8s]
       have e4:(d.length:Int)<(b.length:Int):=by rw [hb0];simp;omega
       have x32:x=32↔(x.toNat:Int)=32:=⟨fun e=>by rw [e];rfl,fun e=>UInt8.toNat_inj.1 (by have:(32:UInt8).toNat=32:=rfl;omega)⟩
       have hend:Dl b=true↔x=32:=by rw [hb0];simp [Dl]
       replace hb0:=hid hb0
       replace x32:=hid x32
       replace hend:=hid hend
       by_cases hx:(x.toNat:Int)=32
       · have e5:=hid (hstep.out b (by rw [dr,if_pos ⟨c32.out.1 hc,hend.out.2 (x32.out.2 hx)⟩]))
         refine wk ?_
         exact ap _ _ _ (by omega) (CutS (b:=by simp)) ⟨k+1,b,_,_,rfl,hlt,e5.out,rfl,rfl,rfl,rfl⟩
       · have e5:=hid (hstep.out (b++[c]) (by rw [dr,if_neg fun e=>hx (x32.out.1 (hend.out.1 e.2))]))
         refine wk ?_
         exact ap _ _ _ (by omega) (CutS (b:=by simp)) ⟨k+1,b++[c],_,_,rfl,hlt,e5.out,(by rw [AN,hc]),(by simp),rfl,rfl⟩
   · have e1:=hid (hstep.out (b++[c]) (by rw [dr,if_neg fun e=>hc (c32.out.2 e.1)]))
     refine wk ?_
     exact ap _ _ _ (by omega) (CutS (b:=by simp)) ⟨k+1,b++[c],_,_,rfl,hlt,e1.out,(AN b c).symm,(by simp),rfl,rfl⟩
 · have hke:k=t.length:=by omega
   subst hke
   have h1:¬ (t.length:Int)<(t.length:Int):=by omega
   have hbl:b.length≤t.length:=by rw [hb.out];exact pf t _
   have hub:(u8s b).length=b.length:=by simp [u8s]
   have hfin:yL b=dH s:=by rw [dH,ht,hb.out,List.take_length]
   have e1:=jO b
   have e2:=iC b
   replace hb:=hid hfin
   clear hfin
   rcases List.eq_nil_or_concat b with hb0|⟨d,x,hb0⟩
   · have e0:¬ (0:Int)<(b.length:Int):=by rw [hb0];simp
     have e3:=hid (show b=dH s by rw [← hb.out,hb0];rfl)
     clear hb0
     refine wk ?_
     refine aa rfl ?_
     rw [e3.out];exact h.out
   · have e0:(0:Int)<(b.length:Int):=by rw [hb0];simp;try omega
     have e3:IntKind.i64.wrap ((b.length:Int) - 1)=(d.length:Int):=by rw [af (by omega) (by omega),hb0];simp
     have e4:(u8s b).getD d.length .undef=.int .u8 x.toNat:=by rw [hb0];simp [u8s,List.getD_eq_getElem?_getD]
     have e5:d.length<(u8s b).length:=by rw [hb0];simp [u8s]
     have e6:(d.length:Int)<(b.length:Int):=by rw [hb0];simp;omega
     have e7:(u8s b).take d.length=u8s d:=by rw [hb0];simp [u8s]
     have e10:(u8s d).length=d.length:=by simp [u8s]
     have e8:=jO d
     have e9:=iC d
     have x32:x=32↔(x.toNat:Int)=32:=⟨fun e=>by rw [e];rfl,fun e=>UInt8.toNat_inj.1 (by have:(32:UInt8).toNat=32:=rfl;omega)⟩
     have htr:yL b=if x=32 then d else b:=by rw [hb0];simp [yL]
     replace hb0:=hid hb0
     replace htr:=hid htr
     by_cases hx:(x.toNat:Int)=32
     · have r:=hid (show d=dH s by rw [← hb.out,htr.out,if_pos (x32.2 hx)])
       replace x32:=hid x32
       refine wk ?_
       refine aa rfl ?_
       rw [r.out];exact h.out
     · have r:=hid (show b=dH s by rw [← hb.out,htr.out,if_neg fun e=>hx (x32.1 e)])
       replace x32:=hid x32
       refine wk ?_
       refine aa rfl ?_
       rw [r.out];exact h.out
end Go.Proofs.YtgpnbkdcdmfgcaaGreat.Av
