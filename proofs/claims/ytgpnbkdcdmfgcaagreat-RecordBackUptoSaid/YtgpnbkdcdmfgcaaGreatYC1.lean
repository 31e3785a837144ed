/- Joined texts of the walk, made small by a program. -/
import Derived.Test.YtgpnbkdcdmfgcaaGreatYP5
import Derived.Test.YtgpnbkdcdmfgcaaGreatYO1
import Derived.Test.YtgpnbkdcdmfgcaaGreatYP4
import Derived.Test.YtgpnbkdcdmfgcaaGreatRows
import Derived.KernelRfl
import Derived.Test.YtgpnbkdcdmfgcaaGreatYA1
set_option linter.unusedSimpArgs false
set_option linter.unusedVariables false
namespace Go.Proofs.YtgpnbkdcdmfgcaaGreat.Av
open Go
set_option maxHeartbeats 8000000
set_option maxRecDepth 100000
inductive Nd where
 | mk (tag:Int) (data:List UInt8) (kids:List Nd)
def Nd.tag:Nd→Int
 | .mk t _ _=>t
def Nd.data:Nd→List UInt8
 | .mk _ d _=>d
def Nd.kids:Nd→List Nd
 | .mk _ _ k=>k
abbrev a8:Nd:=.mk 0 [] []
instance:Inhabited Nd:=⟨a8⟩
def b8 (n:Nat):UInt8:=UInt8.ofNat n
def jV (n:Nat):List UInt8 :=
 if n<128 then [b8 n] else if n<256 then [129,b8 n] else if n<65536 then [130,b8 (n / 256),b8 n] else [131,b8 (n / 65536),b8 (n / 256),b8 n]
def gf (p:Nd→List UInt8×Int):List UInt8→List Nd→List UInt8×Int
 | acc,[]=>(acc,0)
 | acc,n::l=>if (p n).2≠0 then ([],(p n).2) else gf p (acc++(p n).1) l
def cz:Nat→Nd→List UInt8×Int
 | 0,.mk t d _=>if 1048576<d.length then ([],5) else (b8 t.toNat::(jV d.length++d),0)
 | h+1,.mk t d ks=>if (gf (cz h) d ks).2≠0 then ([],(gf (cz h) d ks).2) else if 1048576<(gf (cz h) d ks).1.length then ([],5) else (b8 t.toNat::(jV (gf (cz h) d ks).1.length++(gf (cz h) d ks).1),0)
def okN:Nat→Nd→Prop
 | 0,.mk t d ks=>(t=2∨t=4)∧ks=[]∧(d.length:Int)≤140737488351232
 | h+1,.mk t d ks=>((t=2∨t=4)∧ks=[]∧(d.length:Int)≤140737488351232)∨((t=48∨t=49)∧d=[]∧ks.length≤1100000∧∀ k∈ks,okN h k)
def aI (s:List UInt8):Nd:=.mk 4 s []
def gk (s:List UInt8):Nat:=s.foldl (fun n c=>256 * n+c.toNat) 0
def ux (s:List UInt8):Except Int (Nat×Nat) :=
 if s.length<2 then .error 3 else
 let k:=(s.getD 1 0).toNat
 if k<128 then .ok (k,2) else if k=128∨132<k then .error 8 else
 if s.length<k - 126 then .error 3 else
 if 1048576<gk ((s.drop 2).take (k - 128)) then .error 5 else .ok (gk ((s.drop 2).take (k - 128)),k - 126)
def fm (p:List UInt8→Except Int (Nd×List UInt8)):Nat→List UInt8→Except Int (List Nd)
 | _,[]=>.ok []
 | 0,_=>.ok []
 | f+1,s=>match p s with
   | .error e=>.error e
   | .ok (n,r)=>match fm p f r with
     | .error e=>.error e
     | .ok l=>.ok (n::l)
def eB:Nat→List UInt8→Except Int (Nd×List UInt8)
 | 0,_=>.error 6
 | f+1,s=>if s=[] then .error 3 else
   let t:=(s.getD 0 0).toNat
   if t % 32=31 then .error 7 else
   match ux s with
   | .error e=>.error e
   | .ok (size,a)=>if s.length<a+size then .error 3 else
     if t / 32 % 2=0 then .ok (.mk t ((s.drop a).take size) [],s.drop (a+size))
     else match fm (eB f) size ((s.drop a).take size) with
       | .error e=>.error e
       | .ok ks=>.ok (.mk t [] ks,s.drop (a+size))
def vH (s:List UInt8):Except Int Nd:=match eB 64 s with
 | .error e=>.error e
 | .ok (n,r)=>if r=[] then .ok n else .error 4
def jQ (n:Nat):Nat→List UInt8
 | 0=>[]
 | k+1=>jQ (n / 256) k++[b8 n]
def BO (n:Int):Nat→Nat→Nat
 | 0,k=>k
 | f+1,k=>if n.fdiv (2 ^ (8 * k - 1))=0∨n.fdiv (2 ^ (8 * k - 1))=-1 then k else BO n f (k+1)
def Ab (n:Int):List UInt8:=jQ (n % 18446744073709551616).toNat (BO n 7 1)
def D6 (s:List UInt8):Int:=if gk s<2 ^ (8 * s.length - 1) then (gk s:Int) else (gk s:Int) - 2 ^ (8 * s.length)
def zX (s:List UInt8):Option Int:=if 1≤s.length∧s.length≤8∧Ab (D6 s)=s then some (D6 s) else none
mutual
def ndA:Nd→List AV
 | .mk t d ks=>[.int .i64 t,.str d,.sl (ao ks) (Ej ks) none]
def ao:List Nd→List AV
 | []=>[]
 | n::l=>ndA n++ao l
def Ej:List Nd→Nat
 | []=>0
 | _::l=>Ej l+1
end
theorem A4:∀ l:List Nd,Ej l=l.length
 | []=>rfl
 | _::l=>by simp only [Ej,List.length_cons,A4 l]
theorem aW (t:Int) (d:List UInt8) (ks:List Nd):ndA (.mk t d ks)=[.int .i64 t,.str d,.sl (ao ks) ks.length none]:=by rw [ndA,A4]
theorem bV (n:Nd):ndA n=[.int .i64 n.tag,.str n.data,.sl (ao n.kids) n.kids.length none]:=by
 obtain ⟨t,d,ks⟩:=n
 exact aW t d ks
theorem df:∀ l:List Nd,(ao l).length=l.length * 3
 | []=>rfl
 | n::l=>by simp only [ao,List.length_append,df l,bV,List.length_cons,List.length_nil];omega
theorem fZ:∀ l m:List Nd,ao (l++m)=ao l++ao m
 | [],m=>rfl
 | n::l,m=>by simp only [List.cons_append,ao,fZ l m,List.append_assoc]
theorem jR:∀ {l:List Nd} {k:Nat},k<l.length→((ao l).drop (k * 3)).take 3=ndA (l.getD k a8)
 | n::l,0,_=>by simp [ao,bV]
 | n::l,k+1,h=>by
   have ih:=@jR l k (by simpa using h)
   have e:(ao (n::l)).drop ((k+1) * 3)=(ao l).drop (k * 3):=by
     rw [ao,List.drop_append,bV]
     simp only [List.length_cons,List.length_nil]
     rw [List.drop_eq_nil_of_le (by simp;omega),List.nil_append]
     congr 1;omega
   rw [e,ih];rfl
mutual
theorem Ek:∀ n:Nd,AV.frzL (ndA n)=ndA n
 | .mk t d ks=>by
   have ih:=bv ks
   simp only [ndA,AV.frzL,AV.frz,ih]
theorem bv:∀ l:List Nd,AV.frzL (ao l)=ao l
 | []=>rfl
 | n::l=>by
   have h1:=Ek n
   have h2:=bv l
   rw [AV.frzL_eq] at h1 h2 ⊢
   rw [ao,List.map_append,h1,h2]
end
mutual
theorem CW (p:Nat→Bool):∀ n:Nd,AV.refsL p (ndA n)=true
 | .mk t d ks=>by
   have ih:=cX p ks
   simp only [ndA,AV.refsL,AV.refs,ih,Bool.and_true]
theorem cX (p:Nat→Bool):∀ l:List Nd,AV.refsL p (ao l)=true
 | []=>rfl
 | n::l=>by
   have h1:=CW p n
   have h2:=cX p l
   rw [AV.refsL_iff] at h1 h2 ⊢
   intro a ha
   rw [ao,List.mem_append] at ha
   exact ha.elim (h1 a) (h2 a)
end
theorem o5 {n:Nat}:(b8 n).toNat=n % 256:=by simp [b8]
set_option maxHeartbeats 8000000
set_option maxRecDepth 100000
theorem xS (n:Nat):∀ k:Nat,jQ n (k+1)=b8 (n / 256 ^ k)::jQ n k:=by
 intro k
 induction k generalizing n with
 | zero=>simp [jQ]
 | succ k ih =>
   rw [jQ,ih (n / 256),jQ,List.cons_append]
   congr 2
   rw [Nat.div_div_eq_div_mul,Nat.pow_succ,Nat.mul_comm]
theorem wD (n:Nat):∀ k:Nat,(jQ n k).length=k
 | 0=>rfl
 | k+1=>by rw [xS,List.length_cons,wD n k]
theorem zo (s:List UInt8) (c:UInt8):gk (s++[c])=256 * gk s+c.toNat:=by simp [gk]
theorem A9:∀ s:List UInt8,gk s<256 ^ s.length:=by
 intro s
 rw [← List.reverse_reverse s]
 generalize s.reverse=r
 induction r with
 | nil=>simp [gk]
 | cons c r ih =>
   rw [List.reverse_cons,zo,List.length_append,List.length_singleton,Nat.pow_succ]
   have:=c.toNat_lt
   omega
theorem Ei {n:Nat} {c:UInt8} (hn:n<2 ^ 56) :
   IntKind.u64.wrap (BitVec.ofInt 64 (IntKind.u64.wrap ((n:Int) * 256)) ||| BitVec.ofInt 64 (c.toNat:Int)).toNat=((256 * n+c.toNat:Nat):Int):=by
 have hc:=c.toNat_lt
 have e1:IntKind.u64.wrap ((n:Int) * 256)=((n * 256:Nat):Int):=by
   rw [show (n:Int) * 256=((n * 256:Nat):Int) by simp]
   simp only [IntKind.wrap,IntKind.signed,IntKind.bits]
   simp
   omega
 rw [e1]
 have e2:(BitVec.ofInt 64 ((n * 256:Nat):Int) ||| BitVec.ofInt 64 (c.toNat:Int)).toNat=n * 256+c.toNat:=by
   rw [BitVec.toNat_or,BitVec.toNat_ofInt,BitVec.toNat_ofInt]
   have a1:(((n * 256:Nat):Int) % ((2 ^ 64:Nat):Int)).toNat=n * 256:=by omega
   have a2:(((c.toNat:Nat):Int) % ((2 ^ 64:Nat):Int)).toNat=c.toNat:=by omega
   rw [a1,a2]
   have:=Nat.two_pow_add_eq_or_of_lt (i:=8) (b:=c.toNat) (by omega) n
   rw [show 2 ^ 8 * n=n * 256 by omega] at this
   exact this.symm
 rw [e2]
 simp only [IntKind.wrap,IntKind.signed,IntKind.bits]
 simp
 omega
theorem Bw {u l:Nat} (h1:1≤l) (h8:l≤8) (hu:u<256 ^ l) :
   (IntKind.i64.wrap (IntKind.u64.wrap ((u:Int) * 2 ^ (64 - 8 * l)))).fdiv (2 ^ (64 - 8 * l))=if u<2 ^ (8 * l - 1) then (u:Int) else (u:Int) - 2 ^ (8 * l):=by
 have hl:l=1∨l=2∨l=3∨l=4∨l=5∨l=6∨l=7∨l=8:=by omega
 rcases hl with rfl|rfl|rfl|rfl|rfl|rfl|rfl|rfl<;>simp at hu ⊢<;>(try rw [Int.fdiv_eq_ediv_of_nonneg _ (by decide)])<;>simp only [IntKind.wrap,IntKind.signed,IntKind.bits]<;>simp<;>split<;>split<;>omega
theorem Be {s:List UInt8} {n a:Nat} (h:ux s=.ok (n,a)):2≤a∧a≤6∧n≤1048576∧a≤s.length:=by
 unfold ux at h
 simp only at h
 split at h
 · cases h
 rename_i h2
 split at h
 · cases h
   exact ⟨by omega,by omega,by omega,by omega⟩
 split at h
 · cases h
 split at h
 · cases h
 split at h
 · cases h
 · rename_i h5 h6 h7 h8
   cases h
   exact ⟨by omega,by omega,by omega,by omega⟩
theorem Bd {s:List UInt8} {e:Int} (h:ux s=.error e):e≠0:=by
 unfold ux at h
 simp only at h
 repeat' split at h
 all_goals first|(cases h;decide)|cases h
theorem CR {f:Nat} {s:List UInt8} {n:Nd} {r:List UInt8} (h:eB f s=.ok (n,r)):r.length<s.length:=by
 cases f with
 | zero=>cases h
 | succ f =>
   rw [eB] at h
   split at h
   · cases h
   simp only at h
   split at h
   · cases h
   split at h
   · cases h
   rename_i size a hb
   obtain ⟨b1,b2,b3,b4⟩:=Be hb
   split at h
   · cases h
   split at h
   · cases h
     simp;omega
   split at h
   · cases h
   · cases h
     simp;omega
theorem y3 {p:List UInt8→Except Int (Nd×List UInt8)} (hp:∀ s e,p s=.error e→e≠0):∀ (f:Nat) (s:List UInt8) (e:Int),fm p f s=.error e→e≠0
 | 0,[],e,h=>by cases h
 | 0,_::_,e,h=>by cases h
 | f+1,[],e,h=>by cases h
 | f+1,c::s,e,h=>by
   rw [fm] at h
   · split at h
     · rename_i hh;cases h;exact hp _ _ hh
     · split at h
       · rename_i hh;cases h;exact y3 hp f _ _ hh
       · cases h
   · simp
theorem v2:∀ (f:Nat) (s:List UInt8) (e:Int),eB f s=.error e→e≠0
 | 0,s,e,h=>by cases h;decide
 | f+1,s,e,h=>by
   rw [eB] at h
   split at h
   · cases h;decide
   simp only at h
   split at h
   · cases h;decide
   split at h
   · rename_i hh;cases h;exact Bd hh
   split at h
   · cases h;decide
   split at h
   · cases h
   split at h
   · rename_i hh;cases h;exact y3 (v2 f) _ _ _ hh
   · cases h
end Go.Proofs.YtgpnbkdcdmfgcaaGreat.Av
set_option maxRecDepth 100000
namespace Go.Proofs.YtgpnbkdcdmfgcaaGreat.Av
open Go
def pY:List SOp :=
 [o1 4 (.mv (.av (.str [])))]
def pX:List SOp :=
 [o1 7 (.mv (tm 1)),
 o1 8 (.bin .lss (tm 7) (iv 1)),
 o1 9 (.mv (tm 8)),
 .grp none 9 false
 [og 10 9 false (.mv (tm 1)),
 og 11 9 false (.bin .gtr (tm 10) (iv 8))]
 12 (tm 11)]
def pW:List SOp :=
 [o1 4 (.mv (.av (.str [])))]
def pV:List SOp :=
 [o1 13 (.mv (tm 1)),
 o1 14 (.mkslice 1 1 [(.int .u8 0)] (tm 13) (tm 13)),
 o1 5 (.mv (tm 14))]
def pU:List SOp :=
 [o1 15 (.mv (tm 5)),
 o1 16 (.len false (tm 15)),
 o1 17 (.mv (iv 0))]
def pT:List SOp :=
 [o1 18 (.bin .lss (tm 17) (tm 16))]
def pS:List SOp :=
 [o1 19 (.mv (tm 17)),
 o1 6 (.mv (tm 19))]
def pR:List SOp :=
 [o1 20 (.mv (tm 5)),
 o1 21 (.mv (tm 1)),
 o1 22 (.bin .sub (tm 21) (iv 1)),
 o1 23 (.mv (tm 6)),
 o1 24 (.bin .sub (tm 22) (tm 23)),
 o1 25 (.mv (tm 0)),
 o1 26 (.conv .u8 (tm 25)),
 o1 27 (.iaddr 1 (tm 20) (tm 24)),
 o0 (.store 1 (tm 27) (tm 26))]
def pQ:List SOp :=
 [o1 28 (.mv (tm 0)),
 o1 29 (.bin .shr (tm 28) (.av (.int .u64 8))),
 o1 0 (.mv (tm 29))]
def pP:List SOp :=
 [o1 30 (.bin .add (tm 17) (iv 1)),
 o1 17 (.mv (tm 30))]
def ob:List SOp :=
 [o1 31 (.mv (tm 5)),
 o1 32 (.b2s (tm 31)),
 o1 4 (.mv (tm 32))]
def oY:aN:=⟨33,(.seq (.sreg pY [])
 (.seq (.seq (.sreg pX [true,false,false,false])
 (.cond (tm 12) (.seq (.sreg pW [])
 .ret)
 .skip))
 (.seq (.sreg pV [true,false,false])
 (.seq (.seq (.sreg pU [true,true,false])
 (.block 0 (.loop (.seq (.sreg pT [])
 (.seq (.cond (tm 18) .skip
 (.exit 0))
 (.seq (.block 1 (.seq (.sreg pS [true,false])
 (.seq (.sreg pR [false,false,false,false,false,false,false,false])
 (.sreg pQ [true,false,false]))))
 (.sreg pP [true,false])))))))
 (.seq (.sreg ob [true,false,false])
 .ret))))),[(.tmp 4)]⟩
attribute [push_cast] pY pX pW pV pU pT pS pR pQ pP ob
theorem xg:aT Tryz.prog (fun _ _=>1) 40=some oY.raw:=by kernel_rfl
def qa:List SOp :=
 [o1 6 (.mv (.av (.int .u64 0))),
 o1 7 (.mv (.av (.bool false)))]
def p9:List SOp :=
 [o1 11 (.mv (tm 2)),
 o1 12 (.bin .lss (tm 11) (iv 1)),
 o1 13 (.mv (tm 12)),
 .grp none 13 false
 [og 14 13 false (.mv (tm 2)),
 og 15 13 false (.bin .gtr (tm 14) (iv 8))]
 16 (tm 15),
 o1 17 (.mv (tm 16)),
 .grp none 17 false
 [og 18 17 false (.mv (tm 1)),
 og 19 17 false (.bin .lss (tm 18) (iv 0))]
 20 (tm 19),
 o1 21 (.mv (tm 20)),
 .grp none 21 false
 [og 22 21 false (.mv (tm 1)),
 og 23 21 false (.mv (tm 0)),
 og 24 21 false (.len true (tm 23)),
 og 25 21 false (.mv (tm 2)),
 og 26 21 false (.bin .sub (tm 24) (tm 25)),
 og 27 21 false (.bin .gtr (tm 22) (tm 26))]
 28 (tm 27)]
def p8:List SOp :=
 [o1 6 (.mv (.av (.int .u64 0))),
 o1 7 (.mv (.av (.bool false)))]
def p7:List SOp :=
 [o1 8 (.mv (.av (.int .u64 0)))]
def p6:List SOp :=
 [o1 29 (.mv (tm 0)),
 o1 30 (.mv (tm 1)),
 o1 31 (.mv (tm 1)),
 o1 32 (.mv (tm 2)),
 o1 33 (.bin .add (tm 31) (tm 32)),
 o1 34 (.slS (tm 29) (some (tm 30)) (some (tm 33))),
 o1 35 (.s2b (tm 34)),
 o1 36 (.len false (tm 35)),
 o1 37 (.mv (iv 0))]
def p5:List SOp :=
 [o1 38 (.bin .lss (tm 37) (tm 36))]
def p4:List SOp :=
 [o1 39 (.iaddr 1 (tm 35) (tm 37)),
 o1 40 (.load false 1 (tm 39)),
 o1 10 (.mv (tm 40))]
def p3:List SOp :=
 [o1 41 (.mv (tm 8)),
 o1 42 (.bin .shl (tm 41) (.av (.int .u64 8))),
 o1 43 (.mv (tm 10)),
 o1 44 (.conv .u64 (tm 43)),
 o1 45 (.bin .or (tm 42) (tm 44)),
 o1 8 (.mv (tm 45))]
def p0:List SOp :=
 [o1 46 (.bin .add (tm 37) (iv 1)),
 o1 37 (.mv (tm 46))]
def pZ:List SOp :=
 [o1 47 (.mv (tm 8)),
 o1 6 (.mv (tm 47)),
 o1 7 (.mv (.av (.bool true)))]
def eG:aN:=⟨48,(.seq (.sreg qa [])
 (.seq (.seq (.sreg p9 [true,false,false,false,false,false,false,false])
 (.cond (tm 28) (.seq (.sreg p8 [])
 .ret)
 .skip))
 (.seq (.sreg p7 [])
 (.seq (.seq (.sreg p6 [true,true,true,false,false,false,false,false,false])
 (.block 0 (.loop (.seq (.sreg p5 [])
 (.seq (.cond (tm 38) .skip
 (.exit 0))
 (.seq (.block 1 (.seq (.sreg p4 [true,false,false])
 (.sreg p3 [true,false,false,false,false,false])))
 (.sreg p0 [true,false])))))))
 (.seq (.sreg pZ [true,true,false])
 .ret))))),[(.tmp 6),(.tmp 7)]⟩
attribute [push_cast] qa p9 p8 p7 p6 p5 p4 p3 p0 pZ
theorem oZ:aT Tryz.prog (fun _ _=>1) 75=some eG.raw:=by kernel_rfl
def mN:List SOp :=
 [o1 2 (.mv (iv 0)),
 o1 3 (.mv (iv 0)),
 o1 4 (.mv (iv 0))]
def mM:List SOp :=
 [o1 8 (.mv (tm 0)),
 o1 9 (.len true (tm 8)),
 o1 10 (.bin .lss (tm 9) (iv 2))]
def mL:List SOp :=
 [o1 2 (.mv (iv 0)),
 o1 3 (.mv (iv 0)),
 o1 4 (.mv (iv 3))]
def mK:List SOp :=
 [o1 11 (.mv (tm 0)),
 o1 12 (.idxS (tm 11) (iv 1)),
 o1 13 (.conv .i64 (tm 12)),
 o1 5 (.mv (tm 13))]
def mJ:List SOp :=
 [o1 15 (.mv (tm 5)),
 o1 16 (.bin .lss (tm 15) (iv 128)),
 o1 14 (.mv (tm 16))]
def mI:List SOp :=
 [o1 17 (.mv (tm 5)),
 o1 2 (.mv (tm 17)),
 o1 3 (.mv (iv 2)),
 o1 4 (.mv (iv 0))]
def mH:List SOp :=
 [o1 19 (.mv (tm 5)),
 o1 20 (.bin .eql (tm 19) (iv 128)),
 o1 21 (.mv (tm 20)),
 .grp none 21 false
 [og 22 21 false (.mv (tm 5)),
 og 23 21 false (.bin .gtr (tm 22) (iv 132))]
 24 (tm 23),
 o1 18 (.mv (tm 24))]
def mG:List SOp :=
 [o1 2 (.mv (iv 0)),
 o1 3 (.mv (iv 0)),
 o1 4 (.mv (iv 8))]
def mF:List SOp :=
 [o1 26 (.mv (tm 0)),
 o1 27 (.mv (tm 5)),
 o1 28 (.bin .sub (tm 27) (iv 128)),
 o1 29 (.call 75 [(tm 26),(iv 2),(tm 28)]),
 o1 25 (.mv (tm 29)),
 o1 30 (.extract (tm 25) 0),
 o1 31 (.extract (tm 25) 1),
 o1 6 (.mv (tm 30)),
 o1 7 (.mv (tm 31))]
def mE:List SOp :=
 [o1 33 (.mv (tm 7)),
 o1 34 (.un .not (tm 33)),
 o1 32 (.mv (tm 34))]
def kw:List SOp :=
 [o1 2 (.mv (iv 0)),
 o1 3 (.mv (iv 0)),
 o1 4 (.mv (iv 3))]
def ku:List SOp :=
 [o1 36 (.mv (tm 6)),
 o1 37 (.bin .gtr (tm 36) (.av (.int .u64 1048576))),
 o1 35 (.mv (tm 37))]
def kr:List SOp :=
 [o1 2 (.mv (iv 0)),
 o1 3 (.mv (iv 0)),
 o1 4 (.mv (iv 5))]
def kq:List SOp :=
 [o1 38 (.mv (tm 6)),
 o1 39 (.conv .i64 (tm 38)),
 o1 40 (.mv (tm 5)),
 o1 41 (.bin .sub (tm 40) (iv 126)),
 o1 2 (.mv (tm 39)),
 o1 3 (.mv (tm 41)),
 o1 4 (.mv (iv 0))]
def j7:aN:=⟨42,(.seq (.sreg mN [])
 (.seq (.seq (.sreg mM [true,false,false])
 (.cond (tm 10) (.seq (.sreg mL [])
 .ret)
 .skip))
 (.seq (.sreg mK [true,false,false,false])
 (.seq (.block 0 (.seq (.sreg mJ [true,false,false])
 (.cond (tm 14) (.seq (.sreg mI [true,true,true,false])
 .ret)
 (.seq (.sreg mH [true,false,false,false,false])
 (.cond (tm 18) (.seq (.sreg mG [])
 .ret)
 .skip)))))
 (.seq (.sreg mF [true,true,false,false,false,false,false,false,false])
 (.seq (.block 1 (.seq (.sreg mE [true,false,false])
 (.cond (tm 32) (.seq (.sreg kw [])
 .ret)
 (.seq (.sreg ku [true,false,false])
 (.cond (tm 35) (.seq (.sreg kr [])
 .ret)
 .skip)))))
 (.seq (.sreg kq [true,true,true,false,false,false,false])
 .ret))))))),[(.tmp 2),(.tmp 3),(.tmp 4)]⟩
attribute [push_cast] mN mM mL mK mJ mI mH mG mF mE kw ku kr kq
theorem vM:aT Tryz.prog (fun _ _=>1) 99=some j7.raw:=by kernel_rfl
def pO:List SOp :=
 [o1 2 (.alloc [(.int .i64 0),(.str []),(.sl [] 0 (some 0))]),
 o1 3 (.mv (.av (.str []))),
 o1 4 (.mv (iv 0))]
def pN:List SOp :=
 [o1 5 (.mv (tm 0)),
 o1 6 (.call 74 [(tm 5),(iv 1)]),
 o1 7 (.extract (tm 6) 0),
 o1 8 (.extract (tm 6) 1),
 o1 9 (.extract (tm 6) 2),
 o0 (.store 3 (tm 2) (tm 7)),
 o1 3 (.mv (tm 8)),
 o1 4 (.mv (tm 9))]
def eF:aN:=⟨10,(.seq (.sreg pO [])
 (.seq (.sreg pN [true,true,false,false,false,false,false])
 .ret)),[(.cell true 3 2),(.tmp 3),(.tmp 4)]⟩
attribute [push_cast] pO pN
theorem oX:aT Tryz.prog (fun _ _=>1) 50=some eF.raw:=by kernel_rfl
def pF:List SOp :=
 [o1 4 (.alloc [(.int .i64 0),(.str []),(.sl [] 0 (some 0))]),
 o1 5 (.mv (.av (.str []))),
 o1 6 (.mv (iv 0))]
def pE:List SOp :=
 [o1 16 (.mv (tm 1)),
 o1 17 (.bin .gtr (tm 16) (iv 64)),
 o1 15 (.mv (tm 17))]
def pD:List SOp :=
 [o1 18 (.build [(.int .i64 0),(.str []),(.sl [] 0 (some 0))] []),
 o0 (.store 3 (tm 4) (tm 18)),
 o1 5 (.mv (.av (.str []))),
 o1 6 (.mv (iv 6))]
def pC:List SOp :=
 [o1 20 (.mv (tm 0)),
 o1 21 (.bin .eql (tm 20) (.av (.str []))),
 o1 19 (.mv (tm 21))]
def pB:List SOp :=
 [o1 22 (.build [(.int .i64 0),(.str []),(.sl [] 0 (some 0))] []),
 o0 (.store 3 (tm 4) (tm 22)),
 o1 5 (.mv (.av (.str []))),
 o1 6 (.mv (iv 3))]
def pA:List SOp :=
 [o1 24 (.mv (tm 0)),
 o1 25 (.idxS (tm 24) (iv 0)),
 o1 26 (.bin .and (tm 25) (.av (.int .u8 31))),
 o1 27 (.bin .eql (tm 26) (.av (.int .u8 31))),
 o1 23 (.mv (tm 27))]
def pz:List SOp :=
 [o1 28 (.build [(.int .i64 0),(.str []),(.sl [] 0 (some 0))] []),
 o0 (.store 3 (tm 4) (tm 28)),
 o1 5 (.mv (.av (.str []))),
 o1 6 (.mv (iv 7))]
def py:List SOp :=
 [o1 30 (.mv (tm 0)),
 o1 31 (.call 99 [(tm 30)]),
 o1 29 (.mv (tm 31)),
 o1 32 (.extract (tm 29) 0),
 o1 33 (.extract (tm 29) 1),
 o1 34 (.extract (tm 29) 2),
 o1 7 (.mv (tm 32)),
 o1 8 (.mv (tm 33)),
 o1 9 (.mv (tm 34))]
def px:List SOp :=
 [o1 35 (.mv (tm 9)),
 o1 36 (.bin .eql (tm 35) (iv 0)),
 o1 37 (.mv (tm 36)),
 .grp none 37 true
 [og 38 37 true (.mv (tm 7)),
 og 39 37 true (.mv (tm 0)),
 og 40 37 true (.len true (tm 39)),
 og 41 37 true (.mv (tm 8)),
 og 42 37 true (.bin .sub (tm 40) (tm 41)),
 og 43 37 true (.bin .gtr (tm 38) (tm 42))]
 44 (tm 43)]
def pw:List SOp :=
 [o1 9 (.mv (iv 3))]
def mu:List SOp :=
 [o1 45 (.mv (tm 9)),
 o1 46 (.bin .neq (tm 45) (iv 0))]
def mt:List SOp :=
 [o1 47 (.build [(.int .i64 0),(.str []),(.sl [] 0 (some 0))] []),
 o1 48 (.mv (tm 9)),
 o0 (.store 3 (tm 4) (tm 47)),
 o1 5 (.mv (.av (.str []))),
 o1 6 (.mv (tm 48))]
def ms:List (ag×Kd) :=
 [od 49 (.mv (tm 0)) .pure,
 od 50 (.idxS (tm 49) (iv 0)) (.read 0 1),
 od 51 (.conv .i64 (tm 50)) .pure,
 od 52 (.build [(.int .i64 0),(.str []),(.sl [] 0 (some 0))] [(0,(1,(tm 51)))]) .pure,
 od 53 (.mv (tm 0)) .pure,
 od 54 (.mv (tm 8)) .pure,
 od 55 (.mv (tm 8)) .pure,
 od 56 (.mv (tm 7)) .pure,
 od 57 (.bin .add (tm 55) (tm 56)) .pure,
 od 58 (.slS (tm 53) (some (tm 54)) (some (tm 57))) (.read 0 2),
 od 10 (.alloc [(.int .i64 0),(.str []),(.sl [] 0 (some 0))]) .eff,
 (⟨none,(.store 3 (tm 10) (tm 52)),none⟩,.eff)]
def ko:List ag :=
 [⟨(some 11),(.mv (tm 58)),none⟩]
def mr:List SOp :=
 [o1 59 (.mv (tm 0)),
 o1 60 (.idxS (tm 59) (iv 0)),
 o1 61 (.bin .and (tm 60) (.av (.int .u8 32))),
 o1 62 (.bin .eql (tm 61) (.av (.int .u8 0)))]
def mq:List SOp :=
 [o1 63 (.mv (tm 11)),
 o1 64 (.faddr 1 (tm 10)),
 o0 (.store 1 (tm 64) (tm 63))]
def mp:List (ag×Kd) :=
 [od 65 (.load true 3 (tm 10)) (.read 0 0),
 od 66 (.mv (tm 0)) .pure,
 od 67 (.mv (tm 8)) .pure,
 od 68 (.mv (tm 7)) .pure,
 od 69 (.bin .add (tm 67) (tm 68)) .pure,
 od 70 (.slS (tm 66) (some (tm 69)) none) (.read 0 1),
 (⟨none,(.store 3 (tm 4) (tm 65)),none⟩,.eff)]
def kn:List ag :=
 [⟨(some 5),(.mv (tm 70)),none⟩,
 ⟨(some 6),(.mv (iv 0)),none⟩]
def mo:List SOp :=
 [o1 71 (.mv (tm 11)),
 o1 72 (.bin .neq (tm 71) (.av (.str [])))]
def mn:List SOp :=
 [o1 74 (.mv (tm 11)),
 o1 75 (.mv (tm 1)),
 o1 76 (.bin .add (tm 75) (iv 1)),
 o1 77 (.call 74 [(tm 74),(tm 76)]),
 o1 73 (.mv (tm 77)),
 o1 78 (.extract (tm 73) 0),
 o1 79 (.extract (tm 73) 1),
 o1 80 (.extract (tm 73) 2),
 o1 12 (.alloc [(.int .i64 0),(.str []),(.sl [] 0 (some 0))]),
 o0 (.store 3 (tm 12) (tm 78)),
 o1 13 (.mv (tm 79)),
 o1 14 (.mv (tm 80))]
def mm:List SOp :=
 [o1 81 (.mv (tm 14)),
 o1 82 (.bin .neq (tm 81) (iv 0))]
def ml:List SOp :=
 [o1 83 (.build [(.int .i64 0),(.str []),(.sl [] 0 (some 0))] []),
 o1 84 (.mv (tm 14)),
 o0 (.store 3 (tm 4) (tm 83)),
 o1 5 (.mv (.av (.str []))),
 o1 6 (.mv (tm 84))]
def mj:List SOp :=
 [o1 85 (.faddr 2 (tm 10)),
 o1 86 (.load false 1 (tm 85)),
 o1 87 (.load true 3 (tm 12)),
 o1 88 (.bslice false 3 1 [(.int .i64 0),(.str []),(.sl [] 0 (some 0))] [(0,(3,(tm 87)))]),
 o1 89 (.app 1 3 48 [(.int .i64 0),(.str []),(.sl [] 0 (some 0))] (tm 86) (tm 88)),
 o1 90 (.faddr 2 (tm 10)),
 o0 (.store 1 (tm 90) (tm 89))]
def mi:List SOp :=
 [o1 91 (.mv (tm 13)),
 o1 11 (.mv (tm 91))]
def mh:List (ag×Kd) :=
 [od 92 (.load true 3 (tm 10)) (.read 0 0),
 od 93 (.mv (tm 0)) .pure,
 od 94 (.mv (tm 8)) .pure,
 od 95 (.mv (tm 7)) .pure,
 od 96 (.bin .add (tm 94) (tm 95)) .pure,
 od 97 (.slS (tm 93) (some (tm 96)) none) (.read 0 1),
 (⟨none,(.store 3 (tm 4) (tm 92)),none⟩,.eff)]
def kl:List ag :=
 [⟨(some 5),(.mv (tm 97)),none⟩,
 ⟨(some 6),(.mv (iv 0)),none⟩]
def aF:aN:=⟨98,(.seq (.sreg pF [])
 (.seq (.block 0 (.seq (.sreg pE [true,false,false])
 (.cond (tm 15) (.seq (.sreg pD [true,true,false])
 .ret)
 (.seq (.sreg pC [true,false,false])
 (.cond (tm 19) (.seq (.sreg pB [true,true,false])
 .ret)
 (.seq (.sreg pA [true,false,false,false,false])
 (.cond (tm 23) (.seq (.sreg pz [true,true,false])
 .ret)
 .skip)))))))
 (.seq (.sreg py [true,true,true,false,false,false,false,false,false])
 (.seq (.seq (.sreg px [true,false,false,false])
 (.cond (tm 44) (.sreg pw [])
 .skip))
 (.seq (.seq (.sreg mu [true,false])
 (.cond (tm 46) (.seq (.sreg mt [true,true,false,false])
 .ret)
 .skip))
 (.seq (.dregM ms ko [true,true,false,false,false,false,false,false,false,false,false,false])
 (.seq (.seq (.sreg mr [true,false,false,false])
 (.cond (tm 62) (.seq (.sreg mq [false,false])
 (.seq (.dregM mp kn [true,true,false,false,false,false,false,false])
 .ret))
 .skip))
 (.seq (.block 1 (.loop (.seq (.seq (.sreg mo [true,false])
 (.cond (tm 72) .skip
 (.exit 1)))
 (.block 2 (.seq (.sreg mn [true,true,true,false,false,false,false,false,false,false,false])
 (.seq (.seq (.sreg mm [true,false])
 (.cond (tm 82) (.seq (.sreg ml [true,true,false,false])
 .ret)
 .skip))
 (.seq (.sreg mj [false,false,false,false,false,false])
 (.sreg mi [true,false]))))))))
 (.seq (.dregM mh kl [true,true,false,false,false,false,false,false])
 .ret))))))))),[(.cell true 3 4),(.tmp 5),(.tmp 6)]⟩
attribute [push_cast] pF pE pD pC pB pA pz py px pw mu mt ms ko mr mq mp kn mo mn mm ml mj mi mh kl
theorem bC:aT Tryz.prog (fun _ _=>1) 74=some aF.raw:=by kernel_rfl
def pM:List SOp :=
 [o1 2 (.alloc [(.int .i64 0),(.str []),(.sl [] 0 (some 0))]),
 o1 3 (.mv (iv 0))]
def pL:List SOp :=
 [o1 8 (.mv (tm 0)),
 o1 9 (.call 50 [(tm 8)]),
 o1 7 (.mv (tm 9)),
 o1 10 (.extract (tm 7) 0),
 o1 11 (.extract (tm 7) 1),
 o1 12 (.extract (tm 7) 2),
 o1 4 (.alloc [(.int .i64 0),(.str []),(.sl [] 0 (some 0))]),
 o0 (.store 3 (tm 4) (tm 10)),
 o1 5 (.mv (tm 11)),
 o1 6 (.mv (tm 12))]
def pK:List SOp :=
 [o1 13 (.mv (tm 6)),
 o1 14 (.bin .eql (tm 13) (iv 0)),
 o1 15 (.mv (tm 14)),
 .grp none 15 true
 [og 16 15 true (.mv (tm 5)),
 og 17 15 true (.bin .neq (tm 16) (.av (.str [])))]
 18 (tm 17)]
def pJ:List SOp :=
 [o1 6 (.mv (iv 4))]
def pI:List SOp :=
 [o1 19 (.mv (tm 6)),
 o1 20 (.bin .neq (tm 19) (iv 0))]
def pH:List SOp :=
 [o1 21 (.build [(.int .i64 0),(.str []),(.sl [] 0 (some 0))] []),
 o1 22 (.mv (tm 6)),
 o0 (.store 3 (tm 2) (tm 21)),
 o1 3 (.mv (tm 22))]
def pG:List SOp :=
 [o1 23 (.load true 3 (tm 4)),
 o0 (.store 3 (tm 2) (tm 23)),
 o1 3 (.mv (iv 0))]
def dh:aN:=⟨24,(.seq (.sreg pM [])
 (.seq (.sreg pL [true,true,true,false,false,false,false,false,false])
 (.seq (.seq (.sreg pK [true,false,false,false])
 (.cond (tm 18) (.sreg pJ [])
 .skip))
 (.seq (.seq (.sreg pI [true,false])
 (.cond (tm 20) (.seq (.sreg pH [true,false,false])
 .ret)
 .skip))
 (.seq (.sreg pG [true,false])
 .ret))))),[(.cell true 3 2),(.tmp 3)]⟩
attribute [push_cast] pM pL pK pJ pI pH pG
theorem gh:aT Tryz.prog (fun _ _=>1) 34=some dh.raw:=by kernel_rfl
def mD:List SOp :=
 [o1 2 (.mv (.av (.str [])))]
def mC:List SOp :=
 [o1 4 (.mv (tm 0)),
 o1 5 (.bin .lss (tm 4) (iv 128))]
def mB:List SOp :=
 [o1 6 (.mv (tm 0)),
 o1 7 (.conv .u64 (tm 6)),
 o1 8 (.call 40 [(tm 7),(iv 1)]),
 o1 2 (.mv (tm 8))]
def mA:List SOp :=
 [o1 3 (.mv (iv 1))]
def mz:List SOp :=
 [o1 9 (.mv (tm 0)),
 o1 10 (.mv (tm 3)),
 o1 11 (.bin .mul (iv 8) (tm 10)),
 o1 12 (.bin .shr (tm 9) (tm 11)),
 o1 13 (.bin .gtr (tm 12) (iv 0))]
def my:List SOp :=
 [o1 14 (.mv (tm 3)),
 o1 15 (.bin .add (tm 14) (iv 1)),
 o1 3 (.mv (tm 15))]
def mw:List SOp :=
 [o1 16 (.mv (tm 3)),
 o1 17 (.bin .add (iv 128) (tm 16)),
 o1 18 (.conv .u64 (tm 17)),
 o1 19 (.call 40 [(tm 18),(iv 1)]),
 o1 20 (.mv (tm 0)),
 o1 21 (.conv .u64 (tm 20)),
 o1 22 (.mv (tm 3)),
 o1 23 (.call 40 [(tm 21),(tm 22)]),
 o1 24 (.bin .add (tm 19) (tm 23)),
 o1 2 (.mv (tm 24))]
def j6:aN:=⟨25,(.seq (.sreg mD [])
 (.seq (.seq (.sreg mC [true,false])
 (.cond (tm 5) (.seq (.sreg mB [true,false,false,false])
 .ret)
 .skip))
 (.seq (.sreg mA [])
 (.seq (.block 0 (.loop (.seq (.seq (.sreg mz [true,false,false,false,false])
 (.cond (tm 13) .skip
 (.exit 0)))
 (.block 1 (.sreg my [true,false,false])))))
 (.seq (.sreg mw [true,false,false,false,false,false,false,false,false,false])
 .ret))))),[(.tmp 2)]⟩
attribute [push_cast] mD mC mB mA mz my mw
theorem vL:aT Tryz.prog (fun _ _=>1) 69=some j6.raw:=by kernel_rfl
def uN:List SOp :=
 [o1 1 (.box (tm 0)),
 o1 2 (.mv (.av (.str []))),
 o1 3 (.mv (iv 0))]
def uM:List SOp :=
 [o1 4 (.load true 3 (tm 1)),
 o1 5 (.call 44 [(tm 4),(iv 1)]),
 o1 6 (.extract (tm 5) 0),
 o1 7 (.extract (tm 5) 1),
 o1 2 (.mv (tm 6)),
 o1 3 (.mv (tm 7))]
def uj:aN:=⟨8,(.seq (.sreg uN [])
 (.seq (.sreg uM [true,true,false,false,false,false])
 .ret)),[(.tmp 2),(.tmp 3)]⟩
attribute [push_cast] uN uM
theorem yB:aT Tryz.prog (fun _ _=>1) 26=some uj.raw:=by kernel_rfl
def uJ:List SOp :=
 [o1 2 (.box (tm 0)),
 o1 4 (.mv (.av (.str []))),
 o1 5 (.mv (iv 0))]
def uI:List SOp :=
 [o1 12 (.mv (tm 1)),
 o1 13 (.bin .gtr (tm 12) (iv 64)),
 o1 11 (.mv (tm 13))]
def uH:List SOp :=
 [o1 4 (.mv (.av (.str []))),
 o1 5 (.mv (iv 6))]
def uG:List SOp :=
 [o1 15 (.faddr 0 (tm 2)),
 o1 16 (.load false 1 (tm 15)),
 o1 17 (.bin .lss (tm 16) (iv 0)),
 o1 18 (.mv (tm 17)),
 .grp none 18 false
 [og 19 18 false (.faddr 0 (tm 2)),
 og 20 18 false (.load false 1 (tm 19)),
 og 21 18 false (.bin .gtr (tm 20) (iv 255))]
 22 (tm 21),
 o1 23 (.mv (tm 22)),
 .grp none 23 false
 [og 24 23 false (.faddr 0 (tm 2)),
 og 25 23 false (.load false 1 (tm 24)),
 og 26 23 false (.bin .and (tm 25) (iv 31)),
 og 27 23 false (.bin .eql (tm 26) (iv 31))]
 28 (tm 27),
 o1 14 (.mv (tm 28))]
def uF:List SOp :=
 [o1 4 (.mv (.av (.str []))),
 o1 5 (.mv (iv 7))]
def uE:List SOp :=
 [o1 30 (.faddr 0 (tm 2)),
 o1 31 (.load false 1 (tm 30)),
 o1 32 (.bin .and (tm 31) (iv 32)),
 o1 33 (.bin .neq (tm 32) (iv 0)),
 o1 34 (.mv (tm 33)),
 .grp none 34 true
 [og 35 34 true (.faddr 1 (tm 2)),
 og 36 34 true (.load false 1 (tm 35)),
 og 37 34 true (.bin .neq (tm 36) (.av (.str [])))]
 38 (tm 37),
 o1 39 (.mv (tm 38)),
 .grp none 39 false
 [og 40 39 false (.faddr 0 (tm 2)),
 og 41 39 false (.load false 1 (tm 40)),
 og 42 39 false (.bin .and (tm 41) (iv 32)),
 og 43 39 false (.bin .eql (tm 42) (iv 0)),
 og 44 39 false (.mv (tm 43)),
 .grp (some (39,false)) 44 true
 [og 45 44 true (.faddr 2 (tm 2)),
 og 46 44 true (.load false 1 (tm 45)),
 og 47 44 true (.len false (tm 46)),
 og 48 44 true (.bin .gtr (tm 47) (iv 0))]
 49 (tm 48)]
 50 (tm 49),
 o1 29 (.mv (tm 50))]
def uD:List SOp :=
 [o1 4 (.mv (.av (.str []))),
 o1 5 (.mv (iv 4))]
def uC:List SOp :=
 [o1 51 (.faddr 1 (tm 2)),
 o1 52 (.load false 1 (tm 51)),
 o1 53 (.s2bG (tm 52)),
 o1 6 (.mv (tm 53))]
def uB:List SOp :=
 [o1 54 (.faddr 2 (tm 2)),
 o1 55 (.load false 1 (tm 54)),
 o1 56 (.len false (tm 55)),
 o1 57 (.mv (iv 0))]
def uA:List SOp :=
 [o1 58 (.bin .lss (tm 57) (tm 56))]
def sE:List SOp :=
 [o1 59 (.iaddr 3 (tm 55) (tm 57)),
 o1 60 (.load true 3 (tm 59)),
 o1 8 (.alloc [(.int .i64 0),(.str []),(.sl [] 0 (some 0))]),
 o0 (.store 3 (tm 8) (tm 60))]
def sD:List SOp :=
 [o1 62 (.load true 3 (tm 8)),
 o1 63 (.mv (tm 1)),
 o1 64 (.bin .add (tm 63) (iv 1)),
 o1 65 (.call 44 [(tm 62),(tm 64)]),
 o1 61 (.mv (tm 65)),
 o1 66 (.extract (tm 61) 0),
 o1 67 (.extract (tm 61) 1),
 o1 9 (.mv (tm 66)),
 o1 10 (.mv (tm 67))]
def sC:List SOp :=
 [o1 68 (.mv (tm 10)),
 o1 69 (.bin .neq (tm 68) (iv 0))]
def sB:List SOp :=
 [o1 70 (.mv (tm 10)),
 o1 4 (.mv (.av (.str []))),
 o1 5 (.mv (tm 70))]
def sA:List SOp :=
 [o1 71 (.mv (tm 6)),
 o1 72 (.mv (tm 9)),
 o1 73 (.app 1 1 1 [(.int .u8 0)] (tm 71) (tm 72)),
 o1 6 (.mv (tm 73))]
def sy:List SOp :=
 [o1 74 (.bin .add (tm 57) (iv 1)),
 o1 57 (.mv (tm 74))]
def sx:List SOp :=
 [o1 75 (.mv (tm 6)),
 o1 76 (.len false (tm 75)),
 o1 77 (.bin .gtr (tm 76) (iv 1048576))]
def sw:List SOp :=
 [o1 4 (.mv (.av (.str []))),
 o1 5 (.mv (iv 5))]
def sv:List SOp :=
 [o1 78 (.faddr 0 (tm 2)),
 o1 79 (.load false 1 (tm 78)),
 o1 80 (.conv .u64 (tm 79)),
 o1 81 (.call 40 [(tm 80),(iv 1)]),
 o1 82 (.mv (tm 6)),
 o1 83 (.len false (tm 82)),
 o1 84 (.call 69 [(tm 83)]),
 o1 85 (.bin .add (tm 81) (tm 84)),
 o1 86 (.mv (tm 6)),
 o1 87 (.b2s (tm 86)),
 o1 88 (.bin .add (tm 85) (tm 87)),
 o1 4 (.mv (tm 88)),
 o1 5 (.mv (iv 0))]
def d9:aN:=⟨89,(.seq (.sreg uJ [])
 (.seq (.block 0 (.seq (.sreg uI [true,false,false])
 (.cond (tm 11) (.seq (.sreg uH [])
 .ret)
 (.seq (.sreg uG [true,false,false,false,false,false,false,false])
 (.cond (tm 14) (.seq (.sreg uF [])
 .ret)
 (.seq (.sreg uE [true,false,false,false,false,false,false,false,false])
 (.cond (tm 29) (.seq (.sreg uD [])
 .ret)
 .skip)))))))
 (.seq (.sreg uC [true,false,false,false])
 (.seq (.seq (.sreg uB [true,true,true,false])
 (.block 1 (.loop (.seq (.sreg uA [])
 (.seq (.cond (tm 58) .skip
 (.exit 1))
 (.seq (.block 2 (.seq (.sreg sE [true,false,false])
 (.seq (.sreg sD [true,true,false,false,false,false,false,false,false])
 (.seq (.seq (.sreg sC [true,false])
 (.cond (tm 69) (.seq (.sreg sB [true,true,false])
 .ret)
 .skip))
 (.sreg sA [true,false,false,false])))))
 (.sreg sy [true,false])))))))
 (.seq (.seq (.sreg sx [true,false,false])
 (.cond (tm 77) (.seq (.sreg sw [])
 .ret)
 .skip))
 (.seq (.sdreg sv [.pure,(.read 0 0),.pure,(.read 0 0),.pure,(.read 0 0),(.read 0 0),.pure,.pure,(.read 0 0)] [true,true,false,false,false,false,false,false,false,false,false,false,false])
 .ret)))))),[(.tmp 4),(.tmp 5)]⟩
attribute [push_cast] uJ uI uH uG uF uE uD uC uB uA sE sD sC sB sA sy sx sw sv
theorem j5:aT Tryz.prog (fun r i=>if r=7∧i=2 then 5 else 1) 44=some d9.raw:=by kernel_rfl
def uS:List SOp :=
 [o1 2 (.mv (.av (.str [])))]
def uR:List SOp :=
 [o1 3 (.mv (iv 1))]
def uQ:List SOp :=
 [o1 4 (.mv (tm 3)),
 o1 5 (.bin .lss (tm 4) (iv 8)),
 o1 6 (.mv (tm 5)),
 .grp none 6 true
 [og 7 6 true (.mv (tm 0)),
 og 8 6 true (.mv (tm 3)),
 og 9 6 true (.bin .mul (iv 8) (tm 8)),
 og 10 6 true (.bin .sub (tm 9) (iv 1)),
 og 11 6 true (.bin .shr (tm 7) (tm 10)),
 og 12 6 true (.bin .neq (tm 11) (iv 0))]
 13 (tm 12),
 o1 14 (.mv (tm 13)),
 .grp none 14 true
 [og 15 14 true (.mv (tm 0)),
 og 16 14 true (.mv (tm 3)),
 og 17 14 true (.bin .mul (iv 8) (tm 16)),
 og 18 14 true (.bin .sub (tm 17) (iv 1)),
 og 19 14 true (.bin .shr (tm 15) (tm 18)),
 og 20 14 true (.bin .neq (tm 19) (iv (-1)))]
 21 (tm 20)]
def uP:List SOp :=
 [o1 22 (.mv (tm 3)),
 o1 23 (.bin .add (tm 22) (iv 1)),
 o1 3 (.mv (tm 23))]
def uO:List SOp :=
 [o1 24 (.mv (tm 0)),
 o1 25 (.conv .u64 (tm 24)),
 o1 26 (.mv (tm 3)),
 o1 27 (.call 40 [(tm 25),(tm 26)]),
 o1 2 (.mv (tm 27))]
def uk:aN:=⟨28,(.seq (.sreg uS [])
 (.seq (.sreg uR [])
 (.seq (.block 0 (.loop (.seq (.seq (.sreg uQ [true,false,false,false,false,false])
 (.cond (tm 21) .skip
 (.exit 0)))
 (.block 1 (.sreg uP [true,false,false])))))
 (.seq (.sreg uO [true,false,false,false,false])
 .ret)))),[(.tmp 2)]⟩
attribute [push_cast] uS uR uQ uP uO
theorem yC:aT Tryz.prog (fun _ _=>1) 19=some uk.raw:=by kernel_rfl
def mW:List SOp :=
 [o1 2 (.mv (iv 0)),
 o1 3 (.mv (.av (.bool false)))]
def mV:List SOp :=
 [o1 9 (.mv (tm 0)),
 o1 10 (.mv (tm 0)),
 o1 11 (.len true (tm 10)),
 o1 12 (.call 75 [(tm 9),(iv 0),(tm 11)]),
 o1 8 (.mv (tm 12)),
 o1 13 (.extract (tm 8) 0),
 o1 14 (.extract (tm 8) 1),
 o1 4 (.mv (tm 13)),
 o1 5 (.mv (tm 14))]
def mU:List SOp :=
 [o1 15 (.mv (tm 5)),
 o1 16 (.un .not (tm 15))]
def mT:List SOp :=
 [o1 2 (.mv (iv 0)),
 o1 3 (.mv (.av (.bool false)))]
def mS:List SOp :=
 [o1 17 (.mv (tm 0)),
 o1 18 (.len true (tm 17)),
 o1 19 (.bin .mul (iv 8) (tm 18)),
 o1 20 (.bin .sub (iv 64) (tm 19)),
 o1 6 (.mv (tm 20))]
def mR:List SOp :=
 [o1 21 (.mv (tm 4)),
 o1 22 (.mv (tm 6)),
 o1 23 (.bin .shl (tm 21) (tm 22)),
 o1 24 (.conv .i64 (tm 23)),
 o1 25 (.mv (tm 6)),
 o1 26 (.bin .shr (tm 24) (tm 25)),
 o1 7 (.mv (tm 26))]
def mQ:List SOp :=
 [o1 27 (.mv (tm 7)),
 o1 28 (.call 19 [(tm 27)]),
 o1 29 (.mv (tm 0)),
 o1 30 (.bin .neq (tm 28) (tm 29))]
def mP:List SOp :=
 [o1 2 (.mv (iv 0)),
 o1 3 (.mv (.av (.bool false)))]
def mO:List SOp :=
 [o1 31 (.mv (tm 7)),
 o1 2 (.mv (tm 31)),
 o1 3 (.mv (.av (.bool true)))]
def j8:aN:=⟨32,(.seq (.sreg mW [])
 (.seq (.sreg mV [true,true,false,false,false,false,false,false,false])
 (.seq (.seq (.sreg mU [true,false])
 (.cond (tm 16) (.seq (.sreg mT [])
 .ret)
 .skip))
 (.seq (.sreg mS [true,false,false,false,false])
 (.seq (.sreg mR [true,false,false,false,false,false,false])
 (.seq (.seq (.sreg mQ [true,false,false,false])
 (.cond (tm 30) (.seq (.sreg mP [])
 .ret)
 .skip))
 (.seq (.sreg mO [true,true,false])
 .ret))))))),[(.tmp 2),(.tmp 3)]⟩
attribute [push_cast] mW mV mU mT mS mR mQ mP mO
theorem vN:aT Tryz.prog (fun _ _=>1) 51=some j8.raw:=by kernel_rfl
def uL:List SOp :=
 [o1 4 (.alloc [(.int .i64 0),(.str []),(.sl [] 0 (some 0))])]
def uK:List SOp :=
 [o1 5 (.mv (tm 0)),
 o1 6 (.mv (tm 1)),
 o1 7 (.call 43 [(tm 6)]),
 o1 8 (.build [(.int .i64 0),(.str []),(.sl [] 0 (some 0))] [(0,(1,(tm 5))),(2,(1,(tm 7)))]),
 o0 (.store 3 (tm 4) (tm 8))]
def ui:aN:=⟨9,(.seq (.sreg uL [])
 (.seq (.sreg uK [false,false,false,false])
 .ret)),[(.cell true 3 4)]⟩
attribute [push_cast] uL uK
theorem yA:aT Tryz.prog (fun _ _=>1) 24=some ui.raw:=by kernel_rfl
def su:List SOp :=
 [o1 2 (.mv (.av (.sl [] 0 (some 0))))]
def sr:List SOp :=
 [o1 3 (.mv (.av (.sl [] 0 (some 0))))]
def sq:List SOp :=
 [o1 6 (.mv (tm 0)),
 o1 7 (.len false (tm 6)),
 o1 8 (.mv (iv 0))]
def sn:List SOp :=
 [o1 9 (.bin .lss (tm 8) (tm 7))]
def sj:List SOp :=
 [o1 10 (.iaddr 3 (tm 6) (tm 8)),
 o1 11 (.load true 3 (tm 10)),
 o1 5 (.alloc [(.int .i64 0),(.str []),(.sl [] 0 (some 0))]),
 o0 (.store 3 (tm 5) (tm 11))]
def si:List (ag×Kd) :=
 [od 12 (.mv (tm 3)) .pure,
 od 13 (.faddr 0 (tm 5)) .pure,
 od 14 (.load false 1 (tm 13)) (.read 0 0),
 od 15 (.faddr 1 (tm 5)) .pure,
 od 16 (.load false 1 (tm 15)) (.read 0 0),
 od 17 (.faddr 2 (tm 5)) .pure,
 od 18 (.load false 1 (tm 17)) (.read 0 0),
 od 19 (.call 43 [(tm 18)]) (.read 0 0),
 od 20 (.build [(.int .i64 0),(.str []),(.sl [] 0 (some 0))] [(0,(1,(tm 14))),(1,(1,(tm 16))),(2,(1,(tm 19)))]) .pure,
 od 21 (.bslice false 3 1 [(.int .i64 0),(.str []),(.sl [] 0 (some 0))] [(0,(3,(tm 20)))]) (.read 0 0)]
def pu:List ag :=
 [⟨(some 22),(.app 1 3 48 [(.int .i64 0),(.str []),(.sl [] 0 (some 0))] (tm 12) (tm 21)),none⟩,
 ⟨(some 3),(.mv (tm 22)),none⟩]
def sh:List SOp :=
 [o1 23 (.bin .add (tm 8) (iv 1)),
 o1 8 (.mv (tm 23))]
def sg:List SOp :=
 [o1 24 (.mv (tm 3)),
 o1 2 (.mv (tm 24))]
def rG:aN:=⟨25,(.seq (.sreg su [])
 (.seq (.sreg sr [])
 (.seq (.seq (.sreg sq [])
 (.block 0 (.loop (.seq (.sreg sn [])
 (.seq (.cond (tm 9) .skip
 (.exit 0))
 (.seq (.block 1 (.seq (.sreg sj [true,false,false])
 (.dregM si pu [true,false,false,false,false,false,false,false,false,false,false,false])))
 (.sreg sh [true,false])))))))
 (.seq (.sreg sg [true,false])
 .ret)))),[(.tmp 2)]⟩
attribute [push_cast] su sr sq sn sj si pu sh sg
theorem xz:aT Tryz.prog (fun _ _=>1) 43=some rG.raw:=by kernel_rfl
def sG:List SOp :=
 [o1 4 (.alloc [(.int .i64 0),(.str []),(.sl [] 0 (some 0))])]
def sF:List SOp :=
 [o1 5 (.mv (tm 0)),
 o1 6 (.mv (tm 1)),
 o1 7 (.build [(.int .i64 0),(.str []),(.sl [] 0 (some 0))] [(0,(1,(tm 5))),(1,(1,(tm 6)))]),
 o0 (.store 3 (tm 4) (tm 7))]
def rH:aN:=⟨8,(.seq (.sreg sG [])
 (.seq (.sreg sF [false,false,false])
 .ret)),[(.cell true 3 4)]⟩
attribute [push_cast] sG sF
theorem xA:aT Tryz.prog (fun _ _=>1) 18=some rH.raw:=by kernel_rfl
def kP:List SOp :=
 [o1 2 (.alloc [(.int .i64 0),(.str []),(.sl [] 0 (some 0))])]
def kO:List SOp :=
 [o1 3 (.mv (tm 0)),
 o1 4 (.call 18 [(iv 4),(tm 3)]),
 o0 (.store 3 (tm 2) (tm 4))]
def iu:aN:=⟨5,(.seq (.sreg kP [])
 (.seq (.sreg kO [false,false])
 .ret)),[(.cell true 3 2)]⟩
attribute [push_cast] kP kO
theorem ul:aT Tryz.prog (fun _ _=>1) 21=some iu.raw:=by kernel_rfl
def bT:List SOp :=
 [o1 4 (.mv (.av (.sl [] 0 (some 0))))]
def bS:List SOp :=
 [o1 5 (.mv (.av (.sl [] 0 (some 0))))]
def bR:List SOp :=
 [o1 8 (.mv (tm 0)),
 o1 9 (.len false (tm 8)),
 o1 10 (.mv (iv 0))]
def bQ:List SOp :=
 [o1 11 (.bin .lss (tm 10) (tm 9))]
def bP:List SOp :=
 [o1 12 (.iaddr 2 (tm 8) (tm 10)),
 o1 13 (.load true 2 (tm 12)),
 o1 7 (.alloc [(.str []),(.sl [] 0 (some 0))]),
 o0 (.store 2 (tm 7) (tm 13))]
def bO:List SOp :=
 [o1 14 (.mv (tm 5)),
 o1 15 (.mv (tm 1)),
 o1 16 (.load true 2 (tm 7)),
 o1 17 (.callv (tm 15) [(tm 16)]),
 o1 18 (.bslice false 3 1 [(.int .i64 0),(.str []),(.sl [] 0 (some 0))] [(0,(3,(tm 17)))]),
 o1 19 (.app 1 3 48 [(.int .i64 0),(.str []),(.sl [] 0 (some 0))] (tm 14) (tm 18)),
 o1 5 (.mv (tm 19))]
def bN:List SOp :=
 [o1 20 (.bin .add (tm 10) (iv 1)),
 o1 10 (.mv (tm 20))]
def bM:List SOp :=
 [o1 21 (.mv (tm 5)),
 o1 4 (.mv (tm 21))]
def a6:aN:=⟨22,(.seq (.sreg bT [])
 (.seq (.sreg bS [])
 (.seq (.seq (.sreg bR [])
 (.block 0 (.loop (.seq (.sreg bQ [])
 (.seq (.cond (tm 11) .skip
 (.exit 0))
 (.seq (.block 1 (.seq (.sreg bP [true,false,false])
 (.sreg bO [true,false,false,false,false,false,false])))
 (.sreg bN [true,false])))))))
 (.seq (.sreg bM [true,false])
 .ret)))),[(.tmp 4)]⟩
attribute [push_cast] bT bS bR bQ bP bO bN bM
theorem dx:aT Tryz.prog (fun _ _=>1) 22=some a6.raw:=by kernel_rfl
def cx:List SOp :=
 [o1 4 (.mv (.av (.sl [] 0 (some 0))))]
def cw:List SOp :=
 [o1 5 (.mv (.av (.sl [] 0 (some 0))))]
def cv:List SOp :=
 [o1 8 (.mv (tm 0)),
 o1 9 (.len false (tm 8)),
 o1 10 (.mv (iv 0))]
def cu:List SOp :=
 [o1 11 (.bin .lss (tm 10) (tm 9))]
def cr:List SOp :=
 [o1 12 (.iaddr 1 (tm 8) (tm 10)),
 o1 13 (.load false 1 (tm 12)),
 o1 7 (.mv (tm 13))]
def cq:List SOp :=
 [o1 14 (.mv (tm 5)),
 o1 15 (.mv (tm 1)),
 o1 16 (.mv (tm 7)),
 o1 17 (.callv (tm 15) [(tm 16)]),
 o1 18 (.bslice false 3 1 [(.int .i64 0),(.str []),(.sl [] 0 (some 0))] [(0,(3,(tm 17)))]),
 o1 19 (.app 1 3 48 [(.int .i64 0),(.str []),(.sl [] 0 (some 0))] (tm 14) (tm 18)),
 o1 5 (.mv (tm 19))]
def co:List SOp :=
 [o1 20 (.bin .add (tm 10) (iv 1)),
 o1 10 (.mv (tm 20))]
def cn:List SOp :=
 [o1 21 (.mv (tm 5)),
 o1 4 (.mv (tm 21))]
def bg:aN:=⟨22,(.seq (.sreg cx [])
 (.seq (.sreg cw [])
 (.seq (.seq (.sreg cv [])
 (.block 0 (.loop (.seq (.sreg cu [])
 (.seq (.cond (tm 11) .skip
 (.exit 0))
 (.seq (.block 1 (.seq (.sreg cr [true,false,false])
 (.sreg cq [true,false,false,false,false,false,false])))
 (.sreg co [true,false])))))))
 (.seq (.sreg cn [true,false])
 .ret)))),[(.tmp 4)]⟩
attribute [push_cast] cx cw cv cu cr cq co cn
theorem dL:aT Tryz.prog (fun _ _=>1) 25=some bg.raw:=by kernel_rfl
def fT:List SOp :=
 [o1 1 (.box (tm 0)),
 o1 2 (.alloc [(.int .i64 0),(.str []),(.sl [] 0 (some 0))])]
def fS:List (ag×Kd) :=
 [od 3 (.faddr 0 (tm 1)) .pure,
 od 4 (.load false 1 (tm 3)) (.read 0 0),
 od 5 (.call 21 [(tm 4)]) (.read 0 0),
 od 6 (.faddr 1 (tm 1)) .pure,
 od 7 (.load false 1 (tm 6)) (.read 0 0)]
def fk:List ag :=
 [⟨(some 8),(.call 25 [(tm 7),(.av (.func 21 []))]),none⟩,
 ⟨(some 9),(.call 24 [(iv 49),(tm 8)]),none⟩,
 ⟨(some 10),(.bslice false 3 2 [(.int .i64 0),(.str []),(.sl [] 0 (some 0)),(.int .i64 0),(.str []),(.sl [] 0 (some 0))] [(0,(3,(tm 5))),(3,(3,(tm 9)))]),none⟩,
 ⟨(some 11),(.call 24 [(iv 48),(tm 10)]),none⟩,
 ⟨none,(.store 3 (tm 2) (tm 11)),none⟩]
def eb:aN:=⟨12,(.seq (.sreg fT [])
 (.seq (.dregM fS fk [false,false,false,false,false,false,false,false,false])
 .ret)),[(.cell true 3 2)]⟩
attribute [push_cast] fT fS fk
theorem pp:aT Tryz.prog (fun _ _=>1) 23=some eb.raw:=by kernel_rfl
def jp:List SOp :=
 [o1 1 (.box (tm 0)),
 o1 2 (.mv (.av (.str []))),
 o1 3 (.mv (iv 0))]
def jo:List SOp :=
 [o1 11 (.faddr 0 (tm 1)),
 o1 12 (.load false 1 (tm 11)),
 o1 13 (.bin .lss (tm 12) (iv 1)),
 o1 14 (.mv (tm 13)),
 .grp none 14 false
 [og 15 14 false (.faddr 0 (tm 1)),
 og 16 14 false (.load false 1 (tm 15)),
 og 17 14 false (.bin .gtr (tm 16) (iv 4))]
 18 (tm 17)]
def jn:List SOp :=
 [o1 2 (.mv (.av (.str []))),
 o1 3 (.mv (iv 24))]
def jm:List SOp :=
 [o1 19 (.faddr 0 (tm 1)),
 o1 20 (.load false 1 (tm 19)),
 o1 21 (.call 19 [(tm 20)]),
 o1 22 (.call 18 [(iv 2),(tm 21)]),
 o1 23 (.bslice false 3 1 [(.int .i64 0),(.str []),(.sl [] 0 (some 0))] [(0,(3,(tm 22)))]),
 o1 4 (.mv (tm 23))]
def jl:List SOp :=
 [o1 24 (.faddr 1 (tm 1)),
 o1 25 (.load false 1 (tm 24)),
 o1 26 (.bslice false 1 1 [(.sl [] 0 (some 0))] [(0,(1,(tm 25)))]),
 o1 5 (.mv (tm 26))]
def jk:List SOp :=
 [o1 27 (.faddr 0 (tm 1)),
 o1 28 (.load false 1 (tm 27)),
 o1 29 (.bin .eql (tm 28) (iv 4))]
def jj:List SOp :=
 [o1 30 (.mv (tm 5)),
 o1 31 (.faddr 2 (tm 1)),
 o1 32 (.load false 1 (tm 31)),
 o1 33 (.bslice false 1 1 [(.sl [] 0 (some 0))] [(0,(1,(tm 32)))]),
 o1 34 (.app 1 1 24 [(.sl [] 0 (some 0))] (tm 30) (tm 33)),
 o1 5 (.mv (tm 34))]
def ji:List SOp :=
 [o1 35 (.mv (tm 5)),
 o1 36 (.len false (tm 35)),
 o1 37 (.mv (iv 0))]
def jh:List SOp :=
 [o1 38 (.bin .lss (tm 37) (tm 36))]
def jg:List SOp :=
 [o1 39 (.iaddr 1 (tm 35) (tm 37)),
 o1 40 (.load false 1 (tm 39)),
 o1 7 (.mv (tm 40))]
def gY:List SOp :=
 [o1 42 (.mv (tm 7)),
 o1 43 (.call 20 [(tm 42)]),
 o1 41 (.mv (tm 43)),
 o1 44 (.extract (tm 41) 0),
 o1 45 (.extract (tm 41) 1),
 o1 8 (.mv (tm 44)),
 o1 9 (.mv (tm 45))]
def gX:List SOp :=
 [o1 46 (.mv (tm 9)),
 o1 47 (.bin .neq (tm 46) (iv 0))]
def gW:List SOp :=
 [o1 48 (.mv (tm 9)),
 o1 2 (.mv (.av (.str []))),
 o1 3 (.mv (tm 48))]
def gV:List SOp :=
 [o1 49 (.mv (tm 4)),
 o1 50 (.mv (tm 8)),
 o1 51 (.call 21 [(tm 50)]),
 o1 52 (.bslice false 3 1 [(.int .i64 0),(.str []),(.sl [] 0 (some 0))] [(0,(3,(tm 51)))]),
 o1 53 (.app 1 3 48 [(.int .i64 0),(.str []),(.sl [] 0 (some 0))] (tm 49) (tm 52)),
 o1 4 (.mv (tm 53))]
def gU:List SOp :=
 [o1 54 (.bin .add (tm 37) (iv 1)),
 o1 37 (.mv (tm 54))]
def gT:List SOp :=
 [o1 55 (.faddr 0 (tm 1)),
 o1 56 (.load false 1 (tm 55)),
 o1 57 (.bin .neq (tm 56) (iv 2))]
def gS:List SOp :=
 [o1 58 (.faddr 3 (tm 1)),
 o1 59 (.load false 1 (tm 58)),
 o1 60 (.call 22 [(tm 59),(.av (.func 23 []))]),
 o1 10 (.mv (tm 60))]
def gR:List SOp :=
 [o1 61 (.mv (tm 4)),
 o1 62 (.mv (tm 10)),
 o1 63 (.call 24 [(iv 48),(tm 62)]),
 o1 64 (.bslice false 3 1 [(.int .i64 0),(.str []),(.sl [] 0 (some 0))] [(0,(3,(tm 63)))]),
 o1 65 (.app 1 3 48 [(.int .i64 0),(.str []),(.sl [] 0 (some 0))] (tm 61) (tm 64)),
 o1 4 (.mv (tm 65))]
def gQ:List SOp :=
 [o1 66 (.mv (tm 4)),
 o1 67 (.call 24 [(iv 48),(tm 66)]),
 o1 68 (.call 26 [(tm 67)]),
 o1 69 (.extract (tm 68) 0),
 o1 70 (.extract (tm 68) 1),
 o1 2 (.mv (tm 69)),
 o1 3 (.mv (tm 70))]
def di:aN:=⟨71,(.seq (.sreg jp [])
 (.seq (.seq (.sreg jo [true,false,false,false,false])
 (.cond (tm 18) (.seq (.sreg jn [])
 .ret)
 .skip))
 (.seq (.sreg jm [true,false,false,false,false,false])
 (.seq (.sreg jl [true,false,false,false])
 (.seq (.seq (.sreg jk [true,false,false])
 (.cond (tm 29) (.sreg jj [true,false,false,false,false,false])
 .skip))
 (.seq (.seq (.sreg ji [])
 (.block 0 (.loop (.seq (.sreg jh [])
 (.seq (.cond (tm 38) .skip
 (.exit 0))
 (.seq (.block 1 (.seq (.sreg jg [true,false,false])
 (.seq (.sreg gY [true,true,false,false,false,false,false])
 (.seq (.seq (.sreg gX [true,false])
 (.cond (tm 47) (.seq (.sreg gW [true,true,false])
 .ret)
 .skip))
 (.sreg gV [true,false,false,false,false,false])))))
 (.sreg gU [true,false])))))))
 (.seq (.seq (.sreg gT [true,false,false])
 (.cond (tm 57) (.seq (.sreg gS [true,false,false,false])
 (.sreg gR [true,false,false,false,false,false]))
 .skip))
 (.seq (.sreg gQ [true,true,false,false,false,false,false])
 .ret)))))))),[(.tmp 2),(.tmp 3)]⟩
attribute [push_cast] jp jo jn jm jl jk jj ji jh jg gY gX gW gV gU gT gS gR gQ
theorem il:aT Tryz.prog (fun _ _=>1) 8=some di.raw:=by kernel_rfl
set_option maxHeartbeats 8000000
set_option maxRecDepth 100000
theorem yQ:∀ n,bF [AV.int IntKind.u8 0] n=List.replicate n (AV.int .u8 0)
 | 0=>rfl
 | n+1=>by rw [bF,yQ n,List.replicate_succ];rfl
theorem Cp (c:UInt8) (s:List UInt8):u8s (c::s)=.int .u8 c.toNat::u8s s:=rfl
theorem wl (s:List UInt8):(u8s s).all yo=true:=by
 rw [List.all_eq_true]
 intro a ha
 simp only [u8s,List.mem_map] at ha
 obtain ⟨c,_,rfl⟩:=ha
 rfl
theorem zK (s:List UInt8):(u8s s).map vI=s:=by
 simp only [u8s,List.map_map]
 refine (List.map_congr_left fun c _=>?_).trans (List.map_id _)
 simp [vI]
theorem vW (s:List UInt8):(u8s s).length=s.length:=by simp [u8s]
def vJ (n k i:Nat):List AV:=List.replicate (k - i) (AV.int .u8 0)++u8s (jQ n i)
theorem yT {n k i:Nat} (h:i≤k):(vJ n k i).length=k:=by
 rw [vJ,List.length_append,List.length_replicate,vW,wD];omega
theorem zP (A:List AV) (x v:AV) (s:List AV):aV (A++x::s) A.length [v]=A++v::s:=by simp [aV]
theorem BE {n k i:Nat} (h:i<k):aV (vJ n k i) (k - 1 - i) [.int .u8 ((n / 256 ^ i % 256:Nat):Int)]=vJ n k (i+1):=by
 obtain ⟨j,rfl⟩:∃ j,k=i+1+j:=⟨k - i - 1,by omega⟩
 have e1:i+1+j - i=j+1:=by omega
 have e2:i+1+j - 1 - i=j:=by omega
 have e3:i+1+j - (i+1)=j:=by omega
 rw [vJ,vJ,e1,e2,e3,xS,Cp,o5,List.replicate_succ',List.append_assoc]
 have:=zP (List.replicate j (AV.int .u8 0)) (.int .u8 0) (.int .u8 ((n / 256 ^ i % 256:Nat):Int)) (u8s (jQ n i))
 rw [List.length_replicate] at this
 exact this
theorem wE {n k:Nat} (h1:1≤k) (h8:k≤8) (hn:n<18446744073709551616) {L:List Blk} {K:AV→List Blk→Prop} (h:K (.str (jQ n k)) L):ad Tryz.prog 40 [.int .u64 (n:Int),.int .i64 (k:Int)] L K:=by
 replace h:=hid h
 have g1:¬ (k:Int)<1:=by omega
 have g2:¬ (8:Int)<(k:Int):=by omega
 have e0:bF [AV.int IntKind.u8 0] k=vJ n k 0:=by simp [yQ,vJ,jQ,u8s]
 refine ae xg (by simp [oY]) ?_
 simp only [oY,an]
 refine wk ?_
 refine ak (fun m T' L'=>∃ (i x:Nat) (C:List AV),m=k - i∧i≤k∧Hid (x=n / 256 ^ i)∧Hid (C=vJ n k i)∧C.length=k∧T'=[(17,.int .i64 (i:Int)),(16,.int .i64 (k:Int)),(5,.lsl L.length 0 k (some k) 1),(0,.int .u64 (x:Int)),(1,.int .i64 (k:Int))]∧L'=L++[.cells C]) (CutS (b:=by simp)) ⟨0,n,_,rfl,Nat.zero_le _,hid (by simp),hid rfl,yT (Nat.zero_le _),rfl,rfl⟩ ?_
 rintro _ _ _ ⟨i,x,C,rfl,hi,hx,hC,hCl,rfl,rfl⟩
 by_cases hlt:i<k
 · have g3:(i:Int)<(k:Int):=by omega
   have w1:IntKind.i64.wrap ((i:Int)+1)=(i:Int)+1:=af (by omega) (by omega)
   have w2:IntKind.i64.wrap ((k:Int) - 1)=(k:Int) - 1:=af (by omega) (by omega)
   have w3:IntKind.i64.wrap ((k:Int) - 1 - (i:Int))=(k:Int) - 1 - (i:Int):=af (by omega) (by omega)
   have g4:(0:Int)≤(k:Int) - 1 - (i:Int):=by omega
   have g5:(k:Int) - 1 - (i:Int)<(k:Int):=by omega
   have e1:((k:Int) - 1 - (i:Int)).toNat=k - 1 - i:=by omega
   have hxn:x≤n:=by rw [hx.out];exact Nat.div_le_self _ _
   have e2:=BE (n:=n) hlt
   rw [← hC.out] at e2
   obtain ⟨z,hz⟩:∃ z:Int,((n / 256 ^ i % 256:Nat):Int)=z:=⟨_,rfl⟩
   have w4:IntKind.u8.wrap (x:Int)=z:=by
     rw [← hz,← hx.out]
     simp only [IntKind.wrap,IntKind.signed,IntKind.bits]
     simp
   have w5:((x:Int)).fdiv (2 ^ min 8 IntKind.u64.bits)=((x / 256:Nat):Int):=by
     rw [show (2:Int) ^ min 8 IntKind.u64.bits=256 by decide,Int.fdiv_eq_ediv_of_nonneg _ (by decide)];rfl
   rw [hz] at e2
   have e2':C.take (k - 1 - i)++AV.int .u8 z::C.drop (k - 1 - i+1)=vJ n k (i+1):=by
     rw [← e2];simp [aV]
   clear e2 hz
   have e3:(vJ n k (i+1)).length=k:=yT hlt
   have e4:x / 256=n / 256 ^ (i+1):=by rw [hx.out,Nat.div_div_eq_div_mul,Nat.pow_succ]
   have g6:k - 1 - i<C.length:=by omega
   replace e4:=hid e4
   refine wk ?_
   exact ap _ _ _ (by omega) (CutL (b:=by simp)) ⟨i+1,x / 256,_,rfl,hlt,hid e4.out,hid rfl,e3,rfl,rfl⟩
 · have hke:i=k:=by omega
   subst hke
   have g3:¬ (i:Int)<(i:Int):=by omega
   have hC2:=hC.out
   rw [vJ,Nat.sub_self] at hC2
   have hC3:C=u8s (jQ n i):=by simpa using hC2
   have e1:C.all yo=true:=by rw [hC3];exact wl _
   have e2:C.map vI=jQ n i:=by rw [hC3];exact zK _
   have e3:C.take i=C:=by rw [← hCl,List.take_length]
   clear hC2 hC3
   refine wk ?_
   exact aa rfl h.out
theorem Ba {s:List UInt8} {a z:Int} (ha:0≤a) (hz:z≤9223372036854775807) (hs:(s.length:Int)≤9223372036854775807) (hno:¬ (1≤z∧z≤8∧a+z≤s.length)) {L:List Blk} {K:AV→List Blk→Prop} (h:K (.tup [.int .u64 0,.bool false]) L):ad Tryz.prog 75 [.str s,.int .i64 a,.int .i64 z] L K:=by
 replace h:=hid h
 refine ae oZ (by simp [eG]) ?_
 simp only [eG,an]
 by_cases z1:z<1
 · clear hno
   refine wk ?_
   exact aj h.out
 by_cases z2:8<z
 · clear hno
   refine wk ?_
   exact aj h.out
 have z3:¬ a<0:=by omega
 have w1:IntKind.i64.wrap ((s.length:Int) - z)=(s.length:Int) - z:=af (by omega) (by omega)
 have z4:(s.length:Int) - z<a:=by omega
 clear hno
 refine wk ?_
 exact aj h.out
theorem Dg {s:List UInt8} {a z:Nat} (hs:s.length≤1100000) (h1:1≤z) (h8:z≤8) (ha:a+z≤s.length) {L:List Blk} {K:AV→List Blk→Prop} (h:K (.tup [.int .u64 (gk ((s.drop a).take z):Nat),.bool true]) L):ad Tryz.prog 75 [.str s,.int .i64 (a:Int),.int .i64 (z:Int)] L K:=by
 replace h:=hid h
 have z1:¬ (z:Int)<1:=by omega
 have z2:¬ (8:Int)<(z:Int):=by omega
 have z3:¬ (a:Int)<0:=by omega
 have w1:IntKind.i64.wrap ((s.length:Int) - (z:Int))=(s.length:Int) - (z:Int):=af (by omega) (by omega)
 have z4:¬ (s.length:Int) - (z:Int)<(a:Int):=by omega
 have w2:IntKind.i64.wrap ((a:Int)+(z:Int))=(a:Int)+(z:Int):=af (by omega) (by omega)
 have e1:((a:Int)+(z:Int)).toNat=a+z:=by omega
 obtain ⟨t,ht⟩:∃ t,(s.drop a).take z=t:=⟨_,rfl⟩
 have htl:t.length=z:=by rw [← ht];simp;omega
 rw [ht] at h
 have e2:(s.drop a).take (a+z - a)=t:=by rw [← ht];congr 1;omega
 clear ht
 refine ae oZ (by simp [eG]) ?_
 simp only [eG,an]
 refine wk ?_
 refine ak (fun m T' L'=>∃ (i x:Nat),m=z - i∧i≤z∧Hid (x=gk (t.take i))∧T'=[(37,.int .i64 (i:Int)),(36,.int .i64 (z:Int)),(35,.sl (u8s t) z none),(8,.int .u64 (x:Int))]∧L=L') (CutL (b:=Nat.le_refl _)) ⟨0,0,rfl,Nat.zero_le _,hid rfl,rfl,rfl⟩ ?_
 rintro _ _ _ ⟨i,x,rfl,hi,hx,rfl,rfl⟩
 by_cases hlt:i<z
 · have g1:(i:Int)<(z:Int):=by omega
   have w3:IntKind.i64.wrap ((i:Int)+1)=(i:Int)+1:=af (by omega) (by omega)
   obtain ⟨c,hc⟩:∃ c,t.getD i 0=c:=⟨_,rfl⟩
   have hlt2:i<t.length:=by omega
   have e3:(u8s t).getD i .undef=.int .u8 (c.toNat:Int):=by rw [← hc];simp [u8s,hlt2]
   have e4:t.take (i+1)=t.take i++[c]:=by rw [List.take_succ_eq_append_getElem hlt2,← hc];simp [hlt2]
   have e5:gk (t.take (i+1))=256 * x+c.toNat:=by rw [e4,zo,hx.out]
   have hxb:x<2 ^ 56:=by
     have h2:=A9 (t.take i)
     rw [← hx.out] at h2
     have h3:(t.take i).length≤7:=by simp;omega
     exact Nat.lt_of_lt_of_le h2 (Nat.le_trans (Nat.pow_le_pow_right (by omega) h3) (by decide))
   have w4:IntKind.u64.wrap (BitVec.ofInt IntKind.u64.bits (IntKind.u64.wrap ((x:Int) * 2 ^ min 8 IntKind.u64.bits)) ||| BitVec.ofInt IntKind.u64.bits (c.toNat:Int)).toNat=((256 * x+c.toNat:Nat):Int):=Ei hxb
   have w5:IntKind.u64.wrap (c.toNat:Int)=(c.toNat:Int):=rn (by omega) (by have:=c.toNat_lt;omega)
   have g2:i<(u8s t).length:=by rw [vW];exact hlt2
   clear e4 hc
   replace e5:=hid e5
   refine wk ?_
   exact ap _ _ _ (by omega) (CutL (b:=Nat.le_refl _)) ⟨i+1,256 * x+c.toNat,rfl,hlt,hid e5.out.symm,rfl,rfl⟩
 · have hke:i=z:=by omega
   subst hke
   have g1:¬ (i:Int)<(i:Int):=by omega
   have h':=h.out
   rw [show gk t=x by rw [hx.out,← htl,List.take_length]] at h'
   replace h':=hid h'
   refine wk ?_
   exact aj h'.out
theorem vZ {n:Nat} (hn:n<18446744073709551616) {L:List Blk} {K:AV→List Blk→Prop} (h:K (.str [b8 n]) L):ad Tryz.prog 40 [.int .u64 (n:Int),.int .i64 1] L K :=
 wE (k:=1) (by omega) (by omega) hn (by simpa [jQ] using h)
theorem y8 {n:Nat} (hn:n≤1048576) {L:List Blk} {K:AV→List Blk→Prop} (h:K (.str (jV n)) L):ad Tryz.prog 69 [.int .i64 (n:Int)] L K:=by
 unfold jV at h
 have w1:IntKind.u64.wrap (n:Int)=(n:Int):=rn (by omega) (by omega)
 refine ae vL (by simp [j6]) ?_
 simp only [j6,an]
 by_cases h1:n<128
 · rw [if_pos h1] at h
   replace h:=hid h
   have g1:(n:Int)<128:=by omega
   clear h1
   have kk1:=@hid _ (fun L K=>vZ (n:=n) (by omega) (L:=L) (K:=K))
   refine wk ?_
   exact aj h.out
 rw [if_neg h1] at h
 have g1:¬ (n:Int)<128:=by omega
 obtain ⟨k,hk⟩:∃ k:Nat,(if n<256 then 1 else if n<65536 then 2 else 3)=k:=⟨_,rfl⟩
 have h':K (.str (b8 (128+k)::jQ n k)) L:=by
   split at h
   · rename_i e;rw [if_pos e] at hk;subst hk;simpa [jQ,show b8 129=129 from rfl] using h
   · rename_i e
     rw [if_neg e] at hk
     split at h
     · rename_i e2;rw [if_pos e2] at hk;subst hk;simpa [jQ,show b8 130=130 from rfl] using h
     · rename_i e2
       rw [if_neg e2] at hk;subst hk
       simpa [jQ,Nat.div_div_eq_div_mul,show b8 131=131 from rfl] using h
 have hk1:1≤k∧k≤3∧n / 2 ^ (8 * k)=0∧∀ j,1≤j→j<k→0<n / 2 ^ (8 * j):=by
   rw [← hk]
   split
   · refine ⟨by omega,by omega,by simp;omega,fun j a b=>by omega⟩
   · split
     · refine ⟨by omega,by omega,by simp;omega,fun j a b=>?_⟩
       have:j=1:=by omega
       subst this;simp;omega
     · refine ⟨by omega,by omega,by simp;omega,fun j a b=>?_⟩
       have:j=1∨j=2:=by omega
       rcases this with rfl|rfl<;>simp<;>omega
 obtain ⟨k1,k3,kz,kp⟩:=hk1
 replace h:=hid h'
 clear hk h' h1
 replace kz:=hid kz
 replace kp:=hid kp
 refine wk ?_
 refine ak (fun m T' L'=>∃ (i:Nat),m=k - i∧1≤i∧i≤k∧T'=[(3,.int .i64 (i:Int)),(0,.int .i64 (n:Int))]∧L=L') (CutL (b:=Nat.le_refl _)) ⟨1,rfl,Nat.le_refl _,k1,rfl,rfl⟩ ?_
 rintro _ _ _ ⟨i,rfl,hi1,hi,rfl,rfl⟩
 have w2:IntKind.i64.wrap ((i:Int)+1)=(i:Int)+1:=af (by omega) (by omega)
 have w3:IntKind.i64.wrap (8 * (i:Int))=8 * (i:Int):=af (by omega) (by omega)
 have w4:IntKind.i64.wrap (128+(i:Int))=128+(i:Int):=af (by omega) (by omega)
 have w5:IntKind.u64.wrap (128+(i:Int))=((128+i:Nat):Int):=by
   rw [rn (by omega) (by omega)];simp
 have e1:(n:Int).fdiv (2 ^ min (8 * (i:Int)).toNat IntKind.i64.bits)=((n / 2 ^ (8 * i):Nat):Int):=by
   rw [show min (8 * (i:Int)).toNat IntKind.i64.bits=8 * i by simp [IntKind.bits];omega]
   rw [Int.fdiv_eq_ediv_of_nonneg _ (Int.le_of_lt (Int.pow_pos (by decide)))]
   norm_cast
 have g2:(0:Int)≤8 * (i:Int):=by omega
 obtain ⟨q,hq⟩:∃ q,n / 2 ^ (8 * i)=q:=⟨_,rfl⟩
 rw [hq] at e1
 by_cases hlt:i<k
 · have hp:0<q:=by rw [← hq];exact kp.out i hi1 hlt
   have g3:(0:Int)<(q:Int):=by omega
   clear hq
   refine wk ?_
   exact ap _ _ _ (by omega) (CutL (b:=Nat.le_refl _)) ⟨i+1,rfl,by omega,hlt,rfl,rfl⟩
 · have hke:i=k:=by omega
   subst hke
   have hp:q=0:=by rw [← hq];exact kz.out
   subst hp
   have g3:¬ (0:Int)<((0:Nat):Int):=by decide
   have hpl:=wD n i
   clear hq hlt
   have kk1:=@hid _ (fun L K=>vZ (n:=128+i) (by omega) (L:=L) (K:=K))
   have kk2:=@hid _ (fun L K=>wE (n:=n) (k:=i) (by omega) (by omega) (by omega) (L:=L) (K:=K))
   refine wk ?_
   exact aj h.out
def Gq:Except Int (Nat×Nat)→AV
 | .error e=>.tup [.int .i64 0,.int .i64 0,.int .i64 e]
 | .ok (n,a)=>.tup [.int .i64 (n:Int),.int .i64 (a:Int),.int .i64 0]
theorem zx {s:List UInt8} (hs:s.length≤1100000) {L:List Blk} {K:AV→List Blk→Prop} (h:K (Gq (ux s)) L):ad Tryz.prog 99 [.str s] L K:=by
 unfold ux at h
 refine ae vM (by simp [j7]) ?_
 simp only [j7,an]
 by_cases h2:s.length<2
 · rw [if_pos h2] at h
   replace h:=hid h
   have g1:(s.length:Int)<2:=by omega
   clear h2
   refine wk ?_
   exact aj h.out
 rw [if_neg h2] at h
 have g1:¬ (s.length:Int)<2:=by omega
 have g2:(1:Int)<(s.length:Int):=by omega
 have g3:1<s.length:=by omega
 obtain ⟨c,hc⟩:∃ c,s.getD 1 0=c:=⟨_,rfl⟩
 obtain ⟨k,hk⟩:∃ k,c.toNat=k:=⟨_,rfl⟩
 simp only [hc,hk] at h
 have hk256:k<256:=by rw [← hk];exact c.toNat_lt
 have w1:IntKind.i64.wrap (k:Int)=(k:Int):=af (by omega) (by omega)
 by_cases h3:k<128
 · rw [if_pos h3] at h
   replace h:=hid h
   have g4:(k:Int)<128:=by omega
   clear h3 h2
   refine wk ?_
   exact aj h.out
 rw [if_neg h3] at h
 have g4:¬ (k:Int)<128:=by omega
 by_cases h4:k=128∨132<k
 · rw [if_pos h4] at h
   replace h:=hid h
   obtain ⟨b,hb⟩:∃ b,decide ((k:Int)=128∨(132:Int)<(k:Int))=b:=⟨_,rfl⟩
   have hbt:b=true:=by rw [← hb,decide_eq_true_iff];omega
   subst hbt
   clear h4 h3 h2
   refine wk ?_
   exact aj h.out
 rw [if_neg h4] at h
 have g5:¬ (k:Int)=128:=by omega
 have g6:¬ (132:Int)<(k:Int):=by omega
 have w2:IntKind.i64.wrap ((k:Int) - 128)=((k - 128:Nat):Int):=by rw [af (by omega) (by omega)];omega
 have w3:IntKind.i64.wrap ((k:Int) - 126)=((k - 126:Nat):Int):=by rw [af (by omega) (by omega)];omega
 by_cases h5:s.length<k - 126
 · rw [if_pos h5] at h
   replace h:=hid h
   have kk1:Hid (∀ {L:List Blk} {K:AV→List Blk→Prop},K (.tup [.int .u64 0,.bool false]) L→ad Tryz.prog 75 [.str s,.int .i64 2,.int .i64 ((k - 128:Nat):Int)] L K):=@hid _ (by intro L K q;exact Ba (by omega) (by omega) (by omega) (by omega) q)
   clear h5 h4 h3 h2
   refine wk ?_
   exact aj h.out
 rw [if_neg h5] at h
 obtain ⟨n,hn⟩:∃ n,gk ((s.drop 2).take (k - 128))=n:=⟨_,rfl⟩
 have kk1:Hid (∀ {L:List Blk} {K:AV→List Blk→Prop},K (.tup [.int .u64 (n:Int),.bool true]) L→ad Tryz.prog 75 [.str s,.int .i64 2,.int .i64 ((k - 128:Nat):Int)] L K):=@hid _ (by intro L K q;exact Dg (a:=2) (z:=k - 128) (by omega) (by omega) (by omega) (by omega) (by rw [hn];exact q))
 rw [hn] at h
 by_cases h6:1048576<n
 · rw [if_pos h6] at h
   replace h:=hid h
   have g7:(1048576:Int)<(n:Int):=by omega
   clear h6 h5 h4 h3 h2 hn
   refine wk ?_
   exact aj h.out
 · rw [if_neg h6] at h
   replace h:=hid h
   have g7:¬ (1048576:Int)<(n:Int):=by omega
   have w4:IntKind.i64.wrap (n:Int)=(n:Int):=af (by omega) (by omega)
   clear h6 h5 h4 h3 h2 hn
   refine wk ?_
   exact aj h.out
theorem Ac {n:Int} (h0 : -9223372036854775808≤n) (h1:n<9223372036854775808) {L:List Blk} {K:AV→List Blk→Prop} (h:K (.str (Ab n)) L):ad Tryz.prog 19 [.int .i64 n] L K:=by
 obtain ⟨k,hk⟩:∃ k,BO n 7 1=k:=⟨_,rfl⟩
 rw [Ab,hk] at h
 replace h:=hid h
 have w0:IntKind.u64.wrap n=((n % 18446744073709551616).toNat:Int):=by
   simp only [IntKind.wrap,IntKind.signed,IntKind.bits]
   simp
   omega
 have hm:(n % 18446744073709551616).toNat<18446744073709551616:=by omega
 obtain ⟨m,hmm⟩:∃ m,(n % 18446744073709551616).toNat=m:=⟨_,rfl⟩
 rw [hmm] at w0 hm h
 clear hmm
 refine ae yC (by simp [uk]) ?_
 simp only [uk,an]
 refine wk ?_
 refine ak (fun m T' L'=>∃ (i:Nat),m=8 - i∧1≤i∧i≤8∧Hid (BO n (8 - i) i=k)∧T'=[(3,.int .i64 (i:Int)),(0,.int .i64 n)]∧L=L') (CutL (b:=Nat.le_refl _)) ⟨1,rfl,Nat.le_refl _,by omega,hid hk,rfl,rfl⟩ ?_
 rintro _ _ _ ⟨i,rfl,hi1,hi,hI,rfl,rfl⟩
 have w2:IntKind.i64.wrap ((i:Int)+1)=(i:Int)+1:=af (by omega) (by omega)
 have w3:IntKind.i64.wrap (8 * (i:Int))=8 * (i:Int):=af (by omega) (by omega)
 have w4:IntKind.i64.wrap (8 * (i:Int) - 1)=8 * (i:Int) - 1:=af (by omega) (by omega)
 have e1:min (8 * (i:Int) - 1).toNat IntKind.i64.bits=8 * i - 1:=by simp [IntKind.bits];omega
 have g2:(0:Int)≤8 * (i:Int) - 1:=by omega
 obtain ⟨q,hq⟩:∃ q,n.fdiv (2 ^ (8 * i - 1))=q:=⟨_,rfl⟩
 by_cases hlt:i<8∧q≠0∧q ≠ -1
 · obtain ⟨c1,c2,c3⟩:=hlt
   have hI2:=hI.out
   rw [show 8 - i=(7 - i)+1 by omega,BO,hq,if_neg (by simp [c2,c3])] at hI2
   have g3:(i:Int)<8:=by omega
   replace hI2:=hid hI2
   clear hI
   refine wk ?_
   exact ap _ _ _ (by omega) (CutL (b:=Nat.le_refl _)) ⟨i+1,rfl,by omega,by omega,hid (by rw [show 8 - (i+1)=7 - i by omega];exact hI2.out),rfl,rfl⟩
 · have hik:i=k:=by
     have hI2:=hI.out
     by_cases h8:i=8
     · subst h8
       exact hI2
     · rw [show 8 - i=(7 - i)+1 by omega,BO,hq,if_pos (by omega)] at hI2
       exact hI2
   subst hik
   clear hI
   by_cases h8:(i:Int)<8
   · by_cases hq0:q=0
     · clear hlt
       subst hq0
       have kk1:=@hid _ (fun L K=>wE (n:=m) (k:=i) hi1 (by omega) hm (L:=L) (K:=K))
       refine wk ?_
       exact aj h.out
     · have hq1:q=-1:=by omega
       clear hlt
       subst hq1
       have kk1:=@hid _ (fun L K=>wE (n:=m) (k:=i) hi1 (by omega) hm (L:=L) (K:=K))
       refine wk ?_
       exact aj h.out
   · clear hlt
     have kk1:=@hid _ (fun L K=>wE (n:=m) (k:=i) hi1 (by omega) hm (L:=L) (K:=K))
     refine wk ?_
     exact aj h.out
def Gn (o:Option Int):AV:=match o with
 | some k=>.tup [.int .i64 k,.bool true]
 | none=>.tup [.int .i64 0,.bool false]
theorem xY {s:List UInt8} (hs:s.length≤1100000) {L:List Blk} {K:AV→List Blk→Prop} (h:K (Gn (zX s)) L):ad Tryz.prog 51 [.str s] L K:=by
 unfold zX at h
 refine ae vN (by simp [j8]) ?_
 simp only [j8,an]
 by_cases hl:1≤s.length∧s.length≤8
 rotate_left
 · rw [if_neg (fun e=>hl ⟨e.1,e.2.1⟩)] at h
   replace h:=hid h
   have kk1:Hid (∀ {L:List Blk} {K:AV→List Blk→Prop},K (.tup [.int .u64 0,.bool false]) L→ad Tryz.prog 75 [.str s,.int .i64 0,.int .i64 (s.length:Int)] L K):=@hid _ (by intro L K q;exact Ba (by omega) (by omega) (by omega) (by omega) q)
   clear hl
   refine wk ?_
   exact aj h.out
 obtain ⟨l,hll⟩:∃ l,s.length=l:=⟨_,rfl⟩
 obtain ⟨u,hu⟩:∃ u,gk s=u:=⟨_,rfl⟩
 have hub:u<256 ^ l:=by rw [← hu,← hll];exact A9 s
 have hsh:=Bw (u:=u) (by omega) (show l≤8 by omega) hub
 have kk1:Hid (∀ {L:List Blk} {K:AV→List Blk→Prop},K (.tup [.int .u64 (u:Int),.bool true]) L→ad Tryz.prog 75 [.str s,.int .i64 0,.int .i64 (l:Int)] L K):=@hid _ (by
   intro L K q
   rw [← hll]
   refine Dg (a:=0) (z:=s.length) (by omega) (by omega) (by omega) (by omega) ?_
   rw [List.drop_zero,List.take_length,hu]
   exact q)
 obtain ⟨n,hn⟩:∃ n,D6 s=n:=⟨_,rfl⟩
 have hnn:(if u<2 ^ (8 * l - 1) then (u:Int) else (u:Int) - 2 ^ (8 * l))=n:=by rw [← hn,D6,hu,hll]
 rw [hnn] at hsh
 have w1:IntKind.i64.wrap (8 * (l:Int))=8 * (l:Int):=af (by omega) (by omega)
 have w2:IntKind.i64.wrap (64 - 8 * (l:Int))=64 - 8 * (l:Int):=af (by omega) (by omega)
 have e1:min (64 - 8 * (l:Int)).toNat IntKind.u64.bits=64 - 8 * l:=by simp [IntKind.bits];omega
 have e2:min (64 - 8 * (l:Int)).toNat IntKind.i64.bits=64 - 8 * l:=by simp [IntKind.bits];omega
 have g1:(0:Int)≤64 - 8 * (l:Int):=by omega
 have hnb : -9223372036854775808≤n∧n<9223372036854775808:=by
   have hl':l=1∨l=2∨l=3∨l=4∨l=5∨l=6∨l=7∨l=8:=by omega
   rw [← hnn]
   rcases hl' with rfl|rfl|rfl|rfl|rfl|rfl|rfl|rfl<;>simp at hub ⊢<;>split<;>omega
 rw [hn] at h
 by_cases hi:Ab n=s
 · rw [if_pos ⟨hl.1,hl.2,hi⟩] at h
   replace h:=hid h
   have kk2:Hid (∀ {L:List Blk} {K:AV→List Blk→Prop},K (.str s) L→ad Tryz.prog 19 [.int .i64 n] L K):=@hid _ (by intro L K q;exact Ac hnb.1 hnb.2 (by rw [hi];exact q))
   clear hi hn hnn hub hu hl
   refine wk ?_
   exact aj h.out
 · rw [if_neg (fun e=>hi e.2.2)] at h
   replace h:=hid h
   obtain ⟨x,hx⟩:∃ x,Ab n=x:=⟨_,rfl⟩
   have kk2:Hid (∀ {L:List Blk} {K:AV→List Blk→Prop},K (.str x) L→ad Tryz.prog 19 [.int .i64 n] L K):=@hid _ (by intro L K q;exact Ac hnb.1 hnb.2 (by rw [hx];exact q))
   rw [hx] at hi
   clear hx hn hnn hub hu hl
   refine wk ?_
   exact aj h.out
set_option maxHeartbeats 8000000
set_option maxRecDepth 100000
theorem C1 {t:Int} {d:List UInt8} {L:List Blk} {K:AV→List Blk→Prop} (h:K (.agg (ndA (.mk t d []))) L):ad Tryz.prog 18 [.int .i64 t,.str d] L K:=by
 rw [aW] at h
 replace h:=hid h
 refine ae xA (by simp [rH]) ?_
 simp only [rH,an]
 refine wk ?_
 exact au (aa rfl h.out)
theorem zM {d:List UInt8} {L:List Blk} {K:AV→List Blk→Prop} (h:K (.agg (ndA (aI d))) L):ad Tryz.prog 21 [.str d] L K:=by
 rw [aI,aW] at h
 replace h:=hid h
 have kk1:Hid (∀ {L:List Blk} {K:AV→List Blk→Prop},K (.agg [.int .i64 4,.str d,.sl [] 0 none]) L→ad Tryz.prog 18 [.int .i64 4,.str d] L K):=@hid _ (by intro L K q;exact C1 (by rw [aW];exact q))
 refine ae ul (by simp [iu]) ?_
 simp only [iu,an]
 refine wk ?_
 exact au (aa rfl h.out)
theorem wK {l:List Nd} {cap:Option Nat} (hl:l.length≤1100000) (H:∀ n∈l,∀ {cap:Option Nat} {L:List Blk} {K:AV→List Blk→Prop},K (.sl (ao n.kids) n.kids.length none) L→ad Tryz.prog 43 [.sl (ao n.kids) n.kids.length cap] L K)
   {L:List Blk} {K:AV→List Blk→Prop} (h:K (.sl (ao l) l.length none) L):ad Tryz.prog 43 [.sl (ao l) l.length cap] L K:=by
 replace h:=hid h
 replace H:=@hid _ @H
 refine ae xz (by simp [rG]) ?_
 simp only [rG,an]
 refine wk ?_
 refine cJ (l:=[]) (n:=0) 3 3 rfl (Nat.zero_mul 3).symm ?_
 refine ak (fun m T' L'=>∃ (k:Nat) (C:List AV) (X:List Blk),m=l.length - k∧k≤l.length∧C=ao (l.take k)∧T'=[(8,.int .i64 (k:Int)),(7,.int .i64 l.length),(6,.sl (ao l) l.length cap),(3,.gsl C k L.length 3)]∧L'=L++(.spare k 3::X)) (CutS (b:=by simp)) ⟨0,[],[],rfl,Nat.zero_le _,rfl,rfl,rfl⟩ ?_
 rintro _ _ _ ⟨k,C,X,rfl,hk,hC,rfl,rfl⟩
 by_cases hlt:k<l.length
 · have g1:(k:Int)<(l.length:Int):=by omega
   have g2:IntKind.i64.wrap ((k:Int)+1)=(k:Int)+1:=af (by omega) (by omega)
   have e3:=jR hlt
   have e4:k * 3+3≤(ao l).length:=by rw [df];omega
   obtain ⟨⟨t,d,ks⟩,ha⟩:∃ a,l.getD k a8=a:=⟨_,rfl⟩
   have htk:ao (l.take (k+1))=ao (l.take k)++[.int .i64 t,.str d,.sl (ao ks) ks.length none]:=by
     rw [List.take_succ_eq_append_getElem hlt,fZ,show l[k]=.mk t d ks by rw [← ha];simp [hlt],ao,aW]
     rfl
   have kk1:Hid (∀ {L:List Blk} {K:AV→List Blk→Prop},K (.sl (ao ks) ks.length none) L→ad Tryz.prog 43 [.sl (ao ks) ks.length none] L K):=@hid _ (by
     intro L K q
     exact H.out (.mk t d ks) (by rw [← ha];simp [hlt]) q)
   rw [ha,aW] at e3
   have e0:=bv ks
   replace htk:=hid htk
   replace hC:=hid hC
   clear ha
   refine wk ?_
   exact ap _ _ _ (by omega) (CutL (b:=by simp)) ⟨k+1,_,_,rfl,hlt,by rw [htk.out,hC.out],rfl,rfl⟩
 · have hke:k=l.length:=by omega
   subst hke
   have g1:¬ (l.length:Int)<(l.length:Int):=by omega
   rw [List.take_length] at hC
   subst hC
   have e0:=bv l
   refine wk ?_
   refine au ?_
   simp only [AV.frz,e0]
   exact aa (by simp only [AV.refs,cX]) h.out
theorem y2 {cap:Option Nat} {L:List Blk} {K:AV→List Blk→Prop} (h:K (.sl [] 0 none) L):ad Tryz.prog 43 [.sl [] 0 cap] L K:=wK (l:=[]) (by simp) (fun n hn=>by cases hn) h
theorem A2:∀ (h:Nat) {l:List Nd} {cap:Option Nat} (hl:l.length≤1100000) (ho:∀ n∈l,okN h n) {L:List Blk} {K:AV→List Blk→Prop} (hK:K (.sl (ao l) l.length none) L),ad Tryz.prog 43 [.sl (ao l) l.length cap] L K
 | 0,l,cap,hl,ho,L,K,hK=>wK hl (fun n hn=>by
     intro cap L K q
     obtain ⟨t,d,ks⟩:=n
     obtain ⟨_,rfl,_⟩:=ho _ hn
     exact y2 q) hK
 | h+1,l,cap,hl,ho,L,K,hK=>wK hl (fun n hn=>by
     intro cap L K q
     obtain ⟨t,d,ks⟩:=n
     rcases ho _ hn with ⟨_,rfl,_⟩|⟨_,_,hk,hk2⟩
     · exact y2 q
     · exact A2 h (l:=ks) (by omega) hk2 q) hK
theorem AP {h:Nat} {t:Int} {l:List Nd} {cap:Option Nat} (hl:l.length≤1100000) (ho:∀ n∈l,okN h n) {L:List Blk} {K:AV→List Blk→Prop} (hK:K (.agg (ndA (.mk t [] l))) L):ad Tryz.prog 24 [.int .i64 t,.sl (ao l) l.length cap] L K:=by
 rw [aW] at hK
 replace hK:=hid hK
 have e0:=bv l
 refine ae yA (by simp [ui]) ?_
 simp only [ui,an]
 have kk1:=@hid _ (fun L K=>A2 h (cap:=cap) hl ho (L:=L) (K:=K))
 refine wk ?_
 refine au ?_
 simp only [AV.frz,AV.frzL,e0]
 exact aa (by simp only [AV.refs,AV.refsL,cX];rfl) hK.out
theorem v8 (n:Nat):(jV n).length≤4:=by
 unfold jV
 repeat' split
 all_goals simp
theorem yU:∀ (h:Nat) (n:Nd),(cz h n).2=0→(cz h n).1.length≤1048581
 | 0,.mk t d ks,h=>by
   rw [cz] at h ⊢
   split at h
   · cases h
   rename_i e
   have:=v8 d.length
   rw [if_neg e];simp;omega
 | k+1,.mk t d ks,h=>by
   rw [cz] at h ⊢
   split at h
   · rename_i e;exact absurd h e
   rename_i e
   rw [if_neg e]
   split at h
   · cases h
   rename_i e2
   have:=v8 (gf (cz k) d ks).1.length
   rw [if_neg e2];simp;omega
theorem xR {t:Int} {d:List UInt8} {dep:Int} (h:Nat) (ht:t=2∨t=4) (hd:(d.length:Int)≤140737488351232) (h0:1≤dep) (h64:dep≤64) {cap:Option Nat} {L:List Blk} {K:AV→List Blk→Prop} (hK:K (.tup [.str (cz h (.mk t d [])).1,.int .i64 (cz h (.mk t d [])).2]) L) :
   ad Tryz.prog 44 [.agg [.int .i64 t,.str d,.sl [] 0 cap],.int .i64 dep] L K:=by
 have hp:∀ h,cz h (.mk t d [])=if 1048576<d.length then ([],5) else (b8 t.toNat::(jV d.length++d),0):=fun h=>by
   cases h with
   | zero=>rfl
   | succ h=>rw [cz,if_neg (by simp [gf])];rfl
 rw [hp] at hK
 have g1:¬ (64:Int)<dep:=by omega
 have g2:¬ t<0:=by omega
 have g3:¬ (255:Int)<t:=by omega
 have g4:IntKind.i64.wrap (BitVec.ofInt IntKind.i64.bits t &&& BitVec.ofInt IntKind.i64.bits 31).toNat=t:=by rcases ht with rfl|rfl<;>decide
 have g5:¬ t=31:=by omega
 have g6:IntKind.i64.wrap (BitVec.ofInt IntKind.i64.bits t &&& BitVec.ofInt IntKind.i64.bits 32).toNat=0:=by rcases ht with rfl|rfl<;>decide
 have w0:IntKind.u64.wrap t=(t.toNat:Int):=by rcases ht with rfl|rfl<;>decide
 have htn:t.toNat<18446744073709551616:=by omega
 have e0:=wl d
 have e1:=zK d
 have e3:(u8s d).take d.length=u8s d:=by rw [← vW d,List.take_length]
 by_cases hl:1048576<d.length
 · rw [if_pos hl] at hK
   replace hK:=hid hK
   have g7:(1048576:Int)<(d.length:Int):=by omega
   clear hp hl ht
   refine ae j5 (by simp [d9]) ?_
   simp only [d9,an]
   refine wk ?_
   refine ak (fun m T' L'=>∃ (X:List Blk),m=0∧T'=[(57,.int .i64 0),(56,.int .i64 0),(6,.gsl (u8s d) d.length (L.length+1) 1),(2,.ptr L.length 0)]∧L'=L++[.cells [.int .i64 t,.str d,.sl [] 0 cap],.spare d.length 1]) (CutS (b:=by simp)) ⟨[],rfl,rfl,rfl⟩ ?_
   rintro _ _ _ ⟨X,rfl,rfl,rfl⟩
   refine wk ?_
   exact aa rfl hK.out
 · rw [if_neg hl] at hK
   replace hK:=hid hK
   have g7:¬ (1048576:Int)<(d.length:Int):=by omega
   have g8:=v8 d.length
   clear hp ht
   refine ae j5 (by simp [d9]) ?_
   simp only [d9,an]
   refine wk ?_
   refine ak (fun m T' L'=>∃ (X:List Blk),m=0∧T'=[(57,.int .i64 0),(56,.int .i64 0),(6,.gsl (u8s d) d.length (L.length+1) 1),(2,.ptr L.length 0)]∧L'=L++[.cells [.int .i64 t,.str d,.sl [] 0 cap],.spare d.length 1]) (CutS (b:=by simp)) ⟨[],rfl,rfl,rfl⟩ ?_
   rintro _ _ _ ⟨X,rfl,rfl,rfl⟩
   have kk1:=@hid _ (fun L K=>vZ htn (L:=L) (K:=K))
   have kk2:=@hid _ (fun L K=>y8 (n:=d.length) (by omega) (L:=L) (K:=K))
   refine wk ?_
   exact aa rfl hK.out
theorem DV (s:List UInt8):AV.frzL (u8s s)=u8s s:=by rw [AV.frzL_eq,u8s,List.map_map];rfl
theorem DU (s:List UInt8):(u8s s).all AV.one=true:=by
 rw [List.all_eq_true]
 intro a ha
 simp only [u8s,List.mem_map] at ha
 obtain ⟨c,_,rfl⟩:=ha
 rfl
theorem DW (a b:List UInt8):u8s (a++b)=u8s a++u8s b:=by simp [u8s]
theorem BD {t:Int} {ks:List Nd} {p:Nd→List UInt8×Int} {dep:Int} (ht:t=48∨t=49) (hks:ks.length≤1100000) (hp:∀ n,(p n).2=0→(p n).1.length≤1048581) (h0:1≤dep) (h64:dep≤63)
   (H:∀ n∈ks,∀ (L:List Blk) (K:AV→List Blk→Prop),K (.tup [.str (p n).1,.int .i64 (p n).2]) L→ad Tryz.prog 44 [.agg (ndA n),.int .i64 (dep+1)] L K) {R:List UInt8×Int}
   (hR:(if (gf p [] ks).2≠0 then ([],(gf p [] ks).2) else if 1048576<(gf p [] ks).1.length then ([],5) else (b8 t.toNat::(jV (gf p [] ks).1.length++(gf p [] ks).1),0))=R)
   {cap:Option Nat} {L:List Blk} {K:AV→List Blk→Prop} (hK:K (.tup [.str R.1,.int .i64 R.2]) L) :
   ad Tryz.prog 44 [.agg [.int .i64 t,.str [],.sl (ao ks) ks.length cap],.int .i64 dep] L K:=by
 obtain ⟨Q,hQ⟩:∃ Q,gf p [] ks=Q:=⟨_,rfl⟩
 rw [hQ] at hR
 replace hK:=hid hK
 replace hR:=hid hR
 replace H:=@hid _ @H
 replace hp:=hid hp
 have g1:¬ (64:Int)<dep:=by omega
 have g2:¬ t<0:=by omega
 have g3:¬ (255:Int)<t:=by omega
 have g4:IntKind.i64.wrap (BitVec.ofInt IntKind.i64.bits t &&& BitVec.ofInt IntKind.i64.bits 31).toNat=t - 32:=by rcases ht with rfl|rfl<;>decide
 have g5:¬ t - 32=31:=by omega
 have g6:IntKind.i64.wrap (BitVec.ofInt IntKind.i64.bits t &&& BitVec.ofInt IntKind.i64.bits 32).toNat=32:=by rcases ht with rfl|rfl<;>decide
 have w0:IntKind.u64.wrap t=(t.toNat:Int):=by rcases ht with rfl|rfl<;>decide
 have w1:IntKind.i64.wrap (dep+1)=dep+1:=af (by omega) (by omega)
 have htn:t.toNat<18446744073709551616:=by omega
 have e00:u8s []=[]:=rfl
 clear ht
 refine ae j5 (by simp [d9]) ?_
 simp only [d9,an]
 refine wk ?_
 refine ak (fun m T' L'=>∃ (i z:Nat) (acc:List UInt8) (C:List AV) (X:List Blk),m=ks.length - i∧i≤ks.length∧Hid (gf p acc (ks.drop i)=Q)∧z≤i * 1048581∧Hid (C=u8s acc∧z=acc.length)∧T'=[(57,.int .i64 (i:Int)),(56,.int .i64 ks.length),(55,.sl (ao ks) ks.length cap),(6,.gsl C z (L.length+1) 1),(2,.ptr L.length 0),(1,.int .i64 dep)]∧L'=L++(.cells [.int .i64 t,.str [],.sl (ao ks) ks.length cap] :: .spare z 1::X)) (CutS (b:=by simp)) ⟨0,0,[],[],[],rfl,Nat.zero_le _,hid (by simpa using hQ),by simp,hid ⟨rfl,rfl⟩,rfl,rfl⟩ ?_
 rintro _ _ _ ⟨i,z,acc,C,X,rfl,hi,hI,hal,hCz,rfl,rfl⟩
 by_cases hlt:i<ks.length
 · have g7:(i:Int)<(ks.length:Int):=by omega
   have w2:IntKind.i64.wrap ((i:Int)+1)=(i:Int)+1:=af (by omega) (by omega)
   have e3:=jR hlt
   have e4:i * 3+3≤(ao ks).length:=by rw [df];omega
   obtain ⟨n,hn⟩:∃ n,ks.getD i a8=n:=⟨_,rfl⟩
   have hnm:n∈ks:=by rw [← hn];simp [hlt]
   have hdr:ks.drop i=n::ks.drop (i+1):=by rw [List.drop_eq_getElem_cons hlt,← hn];simp [hlt]
   rw [hn,bV] at e3
   have hI2:=hI.out
   rw [hdr,gf] at hI2
   obtain ⟨⟨s,e⟩,hpn⟩:∃ q,p n=q:=⟨_,rfl⟩
   have kk1:Hid (∀ {L:List Blk} {K:AV→List Blk→Prop},K (.tup [.str s,.int .i64 e]) L→ad Tryz.prog 44 [.agg [.int .i64 n.tag,.str n.data,.sl (ao n.kids) n.kids.length none],.int .i64 (dep+1)] L K):=@hid _ (by
     intro L K q
     have:=H.out n hnm L K
     rw [bV,hpn] at this
     exact this q)
   have hsl:e=0→s.length≤1048581:=fun e0=>by
     have:=hp.out n
     rw [hpn] at this
     exact this e0
   rw [hpn] at hI2
   simp only at hI2
   clear hI hdr hn hnm
   by_cases he:e=0
   · subst he
     rw [if_neg (by simp)] at hI2
     have hsl:=hsl rfl
     have f1:=DV s
     have f2:=DU s
     have f3:z+s.length≤(i+1) * 1048581:=by omega
     replace hI2:=hid hI2
     refine wk ?_
     exact ap _ _ _ (by omega) (CutL (b:=by simp)) ⟨i+1,z+s.length,acc++s,C++u8s s,_,rfl,hlt,hI2,f3,hid ⟨by rw [hCz.out.1,DW],by rw [hCz.out.2,List.length_append]⟩,rfl,rfl⟩
   · rw [if_pos he] at hI2
     have hR2:=hR.out
     rw [← hI2,if_pos he] at hR2
     have h':=hK.out
     rw [← hR2] at h'
     replace h':=hid h'
     clear hI2 hR2
     refine wk ?_
     exact aa rfl h'.out
 · have hke:i=ks.length:=by omega
   subst hke
   have g7:¬ (ks.length:Int)<(ks.length:Int):=by omega
   have hI2:=hI.out
   rw [List.drop_length,gf] at hI2
   have hR2:=hR.out
   rw [← hI2,if_neg (by simp)] at hR2
   simp only at hR2
   obtain ⟨rfl,rfl⟩:=hCz.out
   have e0:=wl acc
   have e1:=zK acc
   have e3:(u8s acc).take acc.length=u8s acc:=by rw [← vW acc,List.take_length]
   have h':=hK.out
   clear hI hI2 hCz
   by_cases hl:1048576<acc.length
   · rw [if_pos hl] at hR2
     rw [← hR2] at h'
     replace h':=hid h'
     have g8:(1048576:Int)<(acc.length:Int):=by omega
     clear hl hR2
     refine wk ?_
     exact aa rfl h'.out
   · rw [if_neg hl] at hR2
     rw [← hR2] at h'
     replace h':=hid h'
     have g8:¬ (1048576:Int)<(acc.length:Int):=by omega
     have g9:=v8 acc.length
     clear hR2
     have kk1:=@hid _ (fun L K=>vZ htn (L:=L) (K:=K))
     have kk2:=@hid _ (fun L K=>y8 (n:=acc.length) (by omega) (L:=L) (K:=K))
     refine wk ?_
     exact aa rfl h'.out
theorem EX:∀ (h:Nat) {n:Nd} {dep:Int} (ho:okN h n) (h0:1≤dep) (h64:dep+h≤64) {L:List Blk} {K:AV→List Blk→Prop} (hK:K (.tup [.str (cz h n).1,.int .i64 (cz h n).2]) L),ad Tryz.prog 44 [.agg (ndA n),.int .i64 dep] L K
 | 0,.mk t d ks,dep,ho,h0,h64,L,K,hK=>by
   obtain ⟨ht,rfl,hd⟩:=ho
   rw [aW]
   exact xR 0 ht hd h0 (by simpa using h64) hK
 | h+1,.mk t d ks,dep,ho,h0,h64,L,K,hK=>by
   rw [aW]
   rcases ho with ⟨ht,rfl,hd⟩|⟨ht,rfl,hk,hk2⟩
   · exact xR (h+1) ht hd h0 (by omega) hK
   · exact BD (p:=cz h) ht hk (yU h) h0 (by omega) (fun n hn=>by
       intro L K q
       exact EX h (hk2 n hn) (by omega) (by omega) q) rfl (by rw [cz] at hK;exact hK)
theorem E8 {n:Nd} (ho:okN 4 n) {L:List Blk} {K:AV→List Blk→Prop} (hK:K (.tup [.str (cz 4 n).1,.int .i64 (cz 4 n).2]) L):ad Tryz.prog 26 [.agg (ndA n)] L K:=by
 obtain ⟨⟨s,e⟩,hp⟩:∃ q,cz 4 n=q:=⟨_,rfl⟩
 rw [hp] at hK
 replace hK:=hid hK
 have kk1:Hid (∀ {L:List Blk} {K:AV→List Blk→Prop},K (.tup [.str s,.int .i64 e]) L→ad Tryz.prog 44 [.agg [.int .i64 n.tag,.str n.data,.sl (ao n.kids) n.kids.length none],.int .i64 1] L K):=@hid _ (by
     intro L K q
     have:=@EX 4 n 1 ho (by omega) (by omega) L K
     rw [bV,hp] at this
     exact this q)
 rw [bV]
 refine ae yB (by simp [uj]) ?_
 simp only [uj,an]
 refine wk ?_
 exact aa rfl hK.out
set_option maxHeartbeats 8000000
set_option maxRecDepth 100000
def pq (a:Atr):Nd:=.mk 48 [] [aI a.1,.mk 49 [] (a.2.map aI)]
theorem pg {s:List UInt8} (h:(s.length:Int)≤140737488351232):∀ k:Nat,okN k (aI s)
 | 0=>⟨.inr rfl,rfl,h⟩
 | _+1=>.inl ⟨.inr rfl,rfl,h⟩
theorem El {l:List (List UInt8)} {cap:Option Nat} (hl:l.length≤1100000) {L:List Blk} {K:AV→List Blk→Prop} (h:K (.sl (ao (l.map aI)) l.length none) L):ad Tryz.prog 25 [.sl (l.map AV.str) l.length cap,.func 21 []] L K:=by
 replace h:=hid h
 refine ae dL (by simp [bg]) ?_
 simp only [bg,an]
 refine wk ?_
 refine cJ (l:=[]) (n:=0) 5 3 rfl (Nat.zero_mul 3).symm ?_
 refine ak (fun m T' L'=>∃ (k:Nat) (C:List AV) (X:List Blk),m=l.length - k∧k≤l.length∧C=ao ((l.take k).map aI)∧T'=[(10,.int .i64 (k:Int)),(9,.int .i64 l.length),(8,.sl (l.map AV.str) l.length cap),(5,.gsl C k L.length 3),(1,.func 21 [])]∧L'=L++(.spare k 3::X)) (CutS (b:=by simp)) ⟨0,[],[],rfl,Nat.zero_le _,rfl,rfl,rfl⟩ ?_
 rintro _ _ _ ⟨k,C,X,rfl,hk,hC,rfl,rfl⟩
 by_cases hlt:k<l.length
 · have g1:(k:Int)<(l.length:Int):=by omega
   have g2:IntKind.i64.wrap ((k:Int)+1)=(k:Int)+1:=af (by omega) (by omega)
   obtain ⟨s,hs⟩:∃ s,l.getD k []=s:=⟨_,rfl⟩
   have e3:(l.map AV.str).getD k .undef=.str s:=by rw [← hs];simp [hlt]
   have e4:k<(l.map AV.str).length:=by simpa using hlt
   have htk:ao ((l.take (k+1)).map aI)=ao ((l.take k).map aI)++[.int .i64 4,.str s,.sl [] 0 none]:=by
     rw [List.take_succ_eq_append_getElem hlt,List.map_append,fZ,show l[k]=s by rw [← hs];simp [hlt]]
     rfl
   have kk1:Hid (∀ {L:List Blk} {K:AV→List Blk→Prop},K (.agg [.int .i64 4,.str s,.sl [] 0 none]) L→ad Tryz.prog 21 [.str s] L K):=@hid _ (by intro L K q;exact zM (by rw [aI,aW];exact q))
   replace htk:=hid htk
   replace hC:=hid hC
   clear hs
   refine wk ?_
   exact ap _ _ _ (by omega) (CutL (b:=by simp)) ⟨k+1,_,_,rfl,hlt,by rw [htk.out,hC.out],rfl,rfl⟩
 · have hke:k=l.length:=by omega
   subst hke
   have g1:¬ (l.length:Int)<(l.length:Int):=by omega
   rw [List.take_length] at hC
   subst hC
   have e0:=bv (l.map aI)
   refine wk ?_
   refine au ?_
   simp only [AV.frz,e0]
   exact aa (by simp only [AV.refs,cX]) h.out
theorem FJ {a:Atr} (h1:(a.1.length:Int)≤140737488351232) (h2:a.2.length≤1100000) (h3:∀ v∈a.2,(v.length:Int)≤140737488351232) {L:List Blk} {K:AV→List Blk→Prop} (h:K (.agg (ndA (pq a))) L):ad Tryz.prog 23 [.agg (atA a)] L K:=by
 obtain ⟨n,vs⟩:=a
 simp only at h1 h2 h3
 have hv:∀ k∈vs.map aI,okN 0 k:=fun k hk=>by
   obtain ⟨v,hv,rfl⟩:=List.mem_map.1 hk
   exact pg (h3 v hv) 0
 have hk2:∀ k∈[aI n,.mk 49 [] (vs.map aI)],okN 1 k:=fun k hk=>by
   simp only [List.mem_cons,List.not_mem_nil,or_false] at hk
   rcases hk with rfl|rfl
   · exact pg h1 1
   · exact .inr ⟨.inr rfl,rfl,by simpa using h2,hv⟩
 have kk1:Hid (∀ {L:List Blk} {K:AV→List Blk→Prop},K (.agg [.int .i64 4,.str n,.sl [] 0 none]) L→ad Tryz.prog 21 [.str n] L K):=@hid _ (by intro L K q;exact zM (by rw [aI,aW];exact q))
 have kk2:Hid (∀ {L:List Blk} {K:AV→List Blk→Prop},K (.sl (ao (vs.map aI)) vs.length none) L→ad Tryz.prog 25 [.sl (vs.map AV.str) vs.length none,.func 21 []] L K):=@hid _ (by intro L K q;exact El (by omega) q)
 have kk3:Hid (∀ {L:List Blk} {K:AV→List Blk→Prop},K (.agg [.int .i64 49,.str [],.sl (ao (vs.map aI)) vs.length none]) L→ad Tryz.prog 24 [.int .i64 49,.sl (ao (vs.map aI)) vs.length none] L K):=@hid _ (by
   intro L K q
   have:=AP (h:=0) (t:=49) (l:=vs.map aI) (cap:=none) (L:=L) (K:=K) (by rw [List.length_map];omega) hv
   rw [aW,List.length_map] at this
   exact this q)
 have kk4:Hid (∀ {cap:Option Nat} {L:List Blk} {K:AV→List Blk→Prop},K (.agg [.int .i64 48,.str [],.sl [.int .i64 4,.str n,.sl [] 0 none,.int .i64 49,.str [],.sl (ao (vs.map aI)) vs.length none] 2 none]) L→ad Tryz.prog 24 [.int .i64 48,.sl [.int .i64 4,.str n,.sl [] 0 none,.int .i64 49,.str [],.sl (ao (vs.map aI)) vs.length none] 2 cap] L K):=@hid _ (by
   intro cap L K q
   have:=AP (h:=1) (t:=48) (l:=[aI n,.mk 49 [] (vs.map aI)]) (cap:=cap) (L:=L) (K:=K) (by simp) hk2
   rw [aW] at this
   simp only [ao,aI,aW,List.length_map,List.append_nil,List.cons_append,List.nil_append,List.length_cons,List.length_nil] at this
   exact this q)
 have h':K (.agg [.int .i64 48,.str [],.sl [.int .i64 4,.str n,.sl [] 0 none,.int .i64 49,.str [],.sl (ao (vs.map aI)) vs.length none] 2 none]) L:=by
   rw [pq,aW] at h
   simp only [ao,aI,aW,List.length_map,List.append_nil,List.cons_append,List.nil_append,List.length_cons,List.length_nil] at h
   exact h
 replace h:=hid h'
 have e0:=bv (vs.map aI)
 have e1:=fun p=>cX p (vs.map aI)
 clear h1 h2 h3 hv hk2 h'
 refine ae pp (by simp [eb]) ?_
 simp only [eb,an]
 refine wk ?_
 refine aa ?_ h.out
 simp only [AV.refs,AV.refsL,e1];rfl
theorem Em {l:List Atr} {cap:Option Nat} (hl:l.length≤1100000) (hs:∀ a∈l,(a.1.length:Int)≤140737488351232∧a.2.length≤1100000∧∀ v∈a.2,(v.length:Int)≤140737488351232) {L:List Blk} {K:AV→List Blk→Prop} (h:K (.sl (ao (l.map pq)) l.length none) L):ad Tryz.prog 22 [.sl (aB l) l.length cap,.func 23 []] L K:=by
 replace h:=hid h
 replace hs:=hid hs
 refine ae dx (by simp [a6]) ?_
 simp only [a6,an]
 refine wk ?_
 refine cJ (l:=[]) (n:=0) 5 3 rfl (Nat.zero_mul 3).symm ?_
 refine ak (fun m T' L'=>∃ (k:Nat) (C:List AV) (X:List Blk),m=l.length - k∧k≤l.length∧C=ao ((l.take k).map pq)∧T'=[(10,.int .i64 (k:Int)),(9,.int .i64 l.length),(8,.sl (aB l) l.length cap),(5,.gsl C k L.length 3),(1,.func 23 [])]∧L'=L++(.spare k 3::X)) (CutS (b:=by simp)) ⟨0,[],[],rfl,Nat.zero_le _,rfl,rfl,rfl⟩ ?_
 rintro _ _ _ ⟨k,C,X,rfl,hk,hC,rfl,rfl⟩
 by_cases hlt:k<l.length
 · have g1:(k:Int)<(l.length:Int):=by omega
   have g2:IntKind.i64.wrap ((k:Int)+1)=(k:Int)+1:=af (by omega) (by omega)
   have e3:=im hlt
   have e4:k * 2+2≤(aB l).length:=by rw [gi];omega
   obtain ⟨⟨n,vs⟩,ha⟩:∃ a,l.getD k ([],[])=a:=⟨_,rfl⟩
   have hm:=hs.out (n,vs) (by rw [← ha];simp [hlt])
   obtain ⟨ks,hks⟩:∃ ks,ao [aI n,.mk 49 [] (vs.map aI)]=ks:=⟨_,rfl⟩
   have htk:ao ((l.take (k+1)).map pq)=ao ((l.take k).map pq)++[.int .i64 48,.str [],.sl ks 2 none]:=by
     rw [List.take_succ_eq_append_getElem hlt,List.map_append,fZ,show l[k]=(n,vs) by rw [← ha];simp [hlt],← hks]
     simp only [List.map_cons,List.map_nil,ao,pq,aW,List.append_nil]
     rfl
   have kk1:Hid (∀ {L:List Blk} {K:AV→List Blk→Prop},K (.agg [.int .i64 48,.str [],.sl ks 2 none]) L→ad Tryz.prog 23 [.agg [.str n,.sl (vs.map AV.str) vs.length none]] L K):=@hid _ (by
     intro L K q
     refine FJ (a:=(n,vs)) hm.1 hm.2.1 hm.2.2 ?_
     rw [pq,aW,hks];exact q)
   have e0:AV.frzL ks=ks:=by rw [← hks];exact bv _
   rw [ha] at e3
   simp only [atA] at e3
   replace htk:=hid htk
   replace hC:=hid hC
   clear ha hks hm
   refine wk ?_
   exact ap _ _ _ (by omega) (CutL (b:=by simp)) ⟨k+1,_,_,rfl,hlt,by rw [htk.out,hC.out],rfl,rfl⟩
 · have hke:k=l.length:=by omega
   subst hke
   have g1:¬ (l.length:Int)<(l.length:Int):=by omega
   rw [List.take_length] at hC
   subst hC
   have e0:=bv (l.map pq)
   refine wk ?_
   refine au ?_
   simp only [AV.frz,e0]
   exact aa (by simp only [AV.refs,cX]) h.out
end Go.Proofs.YtgpnbkdcdmfgcaaGreat.Av
