/- Joined texts of the walk, made small by a program. -/
import Derived.Test.YtgpnbkdcdmfgcaaGreatXP5
import Derived.Test.YtgpnbkdcdmfgcaaGreatXO1
import Derived.Test.YtgpnbkdcdmfgcaaGreatXP4
import Derived.Test.YtgpnbkdcdmfgcaaGreatRows
import Derived.KernelRfl
import Derived.Test.YtgpnbkdcdmfgcaaGreatXA1
set_option linter.unusedSimpArgs false
set_option linter.unusedVariables false
namespace Go.Proofs.YtgpnbkdcdmfgcaaGreat.Av
open Go
set_option maxHeartbeats 8000000
set_option maxRecDepth 100000
inductive Nd where
 | mk (tag:Int) (data:List UInt8) (kids:List Nd)
def Nd.tag:Nd→Int
 | .mk t _ _=>t
def Nd.data:Nd→List UInt8
 | .mk _ d _=>d
def Nd.kids:Nd→List Nd
 | .mk _ _ k=>k
abbrev aB:Nd:=.mk 0 [] []
instance:Inhabited Nd:=⟨aB⟩
def b8 (n:Nat):UInt8:=UInt8.ofNat n
def iF (n:Nat):List UInt8 :=
 if n<128 then [b8 n] else if n<256 then [129,b8 n] else if n<65536 then [130,b8 (n / 256),b8 n] else [131,b8 (n / 65536),b8 (n / 256),b8 n]
def em (p:Nd→List UInt8×Int):List UInt8→List Nd→List UInt8×Int
 | acc,[]=>(acc,0)
 | acc,n::l=>if (p n).2≠0 then ([],(p n).2) else em p (acc++(p n).1) l
def bF:Nat→Nd→List UInt8×Int
 | 0,.mk t d _=>if 1048576<d.length then ([],5) else (b8 t.toNat::(iF d.length++d),0)
 | h+1,.mk t d ks=>if (em (bF h) d ks).2≠0 then ([],(em (bF h) d ks).2) else if 1048576<(em (bF h) d ks).1.length then ([],5) else (b8 t.toNat::(iF (em (bF h) d ks).1.length++(em (bF h) d ks).1),0)
def okN:Nat→Nd→Prop
 | 0,.mk t d ks=>(t=2∨t=4)∧ks=[]∧(d.length:Int)≤140737488351232
 | h+1,.mk t d ks=>((t=2∨t=4)∧ks=[]∧(d.length:Int)≤140737488351232)∨((t=48∨t=49)∧d=[]∧ks.length≤1100000∧∀ k∈ks,okN h k)
def aI (s:List UInt8):Nd:=.mk 4 s []
def eU (s:List UInt8):Nat:=s.foldl (fun n c=>256 * n+c.toNat) 0
def iK (s:List UInt8):Except Int (Nat×Nat) :=
 if s.length<2 then .error 3 else
 let k:=(s.getD 1 0).toNat
 if k<128 then .ok (k,2) else if k=128∨132<k then .error 8 else
 if s.length<k - 126 then .error 3 else
 if 1048576<eU ((s.drop 2).take (k - 128)) then .error 5 else .ok (eU ((s.drop 2).take (k - 128)),k - 126)
def fc (p:List UInt8→Except Int (Nd×List UInt8)):Nat→List UInt8→Except Int (List Nd)
 | _,[]=>.ok []
 | 0,_=>.ok []
 | f+1,s=>match p s with
   | .error e=>.error e
   | .ok (n,r)=>match fc p f r with
     | .error e=>.error e
     | .ok l=>.ok (n::l)
def dq:Nat→List UInt8→Except Int (Nd×List UInt8)
 | 0,_=>.error 6
 | f+1,s=>if s=[] then .error 3 else
   let t:=(s.getD 0 0).toNat
   if t % 32=31 then .error 7 else
   match iK s with
   | .error e=>.error e
   | .ok (size,a)=>if s.length<a+size then .error 3 else
     if t / 32 % 2=0 then .ok (.mk t ((s.drop a).take size) [],s.drop (a+size))
     else match fc (dq f) size ((s.drop a).take size) with
       | .error e=>.error e
       | .ok ks=>.ok (.mk t [] ks,s.drop (a+size))
def m8 (s:List UInt8):Except Int Nd:=match dq 64 s with
 | .error e=>.error e
 | .ok (n,r)=>if r=[] then .ok n else .error 4
def m9 (n:Nat):Nat→List UInt8
 | 0=>[]
 | k+1=>m9 (n / 256) k++[b8 n]
def Ie (n:Int):Nat→Nat→Nat
 | 0,k=>k
 | f+1,k=>if n.fdiv (2 ^ (8 * k - 1))=0∨n.fdiv (2 ^ (8 * k - 1))=-1 then k else Ie n f (k+1)
def Gw (n:Int):List UInt8:=m9 (n % 18446744073709551616).toNat (Ie n 7 1)
def KA (s:List UInt8):Int:=if eU s<2 ^ (8 * s.length - 1) then (eU s:Int) else (eU s:Int) - 2 ^ (8 * s.length)
def Gq (s:List UInt8):Option Int:=if 1≤s.length∧s.length≤8∧Gw (KA s)=s then some (KA s) else none
mutual
def ndA:Nd→List AV
 | .mk t d ks=>[.int .i64 t,.str d,.sl (ai ks) (KO ks) none]
def ai:List Nd→List AV
 | []=>[]
 | n::l=>ndA n++ai l
def KO:List Nd→Nat
 | []=>0
 | _::l=>KO l+1
end
theorem Hq:∀ l:List Nd,KO l=l.length
 | []=>rfl
 | _::l=>by simp only [KO,List.length_cons,Hq l]
theorem aM (t:Int) (d:List UInt8) (ks:List Nd):ndA (.mk t d ks)=[.int .i64 t,.str d,.sl (ai ks) ks.length none]:=by rw [ndA,Hq]
theorem aP (n:Nd):ndA n=[.int .i64 n.tag,.str n.data,.sl (ai n.kids) n.kids.length none]:=by
 obtain ⟨t,d,ks⟩:=n
 exact aM t d ks
theorem bU:∀ l:List Nd,(ai l).length=l.length * 3
 | []=>rfl
 | n::l=>by simp only [ai,List.length_append,bU l,aP,List.length_cons,List.length_nil];omega
theorem dA:∀ l m:List Nd,ai (l++m)=ai l++ai m
 | [],m=>rfl
 | n::l,m=>by simp only [List.cons_append,ai,dA l m,List.append_assoc]
theorem db:∀ {l:List Nd} {k:Nat},k<l.length→((ai l).drop (k * 3)).take 3=ndA (l.getD k aB)
 | n::l,0,_=>by simp [ai,aP]
 | n::l,k+1,h=>by
   have ih:=@db l k (by simpa using h)
   have e:(ai (n::l)).drop ((k+1) * 3)=(ai l).drop (k * 3):=by
     rw [ai,List.drop_append,aP]
     simp only [List.length_cons,List.length_nil]
     rw [List.drop_eq_nil_of_le (by simp;omega),List.nil_append]
     congr 1;omega
   rw [e,ih];rfl
mutual
theorem KP:∀ n:Nd,AV.frzL (ndA n)=ndA n
 | .mk t d ks=>by
   have ih:=aS ks
   simp only [ndA,AV.frzL,AV.frz,ih]
theorem aS:∀ l:List Nd,AV.frzL (ai l)=ai l
 | []=>rfl
 | n::l=>by
   have h1:=KP n
   have h2:=aS l
   rw [AV.frzL_eq] at h1 h2 ⊢
   rw [ai,List.map_append,h1,h2]
end
mutual
theorem Jr (p:Nat→Bool):∀ n:Nd,AV.refsL p (ndA n)=true
 | .mk t d ks=>by
   have ih:=cf p ks
   simp only [ndA,AV.refsL,AV.refs,ih,Bool.and_true]
theorem cf (p:Nat→Bool):∀ l:List Nd,AV.refsL p (ai l)=true
 | []=>rfl
 | n::l=>by
   have h1:=Jr p n
   have h2:=cf p l
   rw [AV.refsL_iff] at h1 h2 ⊢
   intro a ha
   rw [ai,List.mem_append] at ha
   exact ha.elim (h1 a) (h2 a)
end
theorem nD {n:Nat}:(b8 n).toNat=n % 256:=by simp [b8]
set_option maxHeartbeats 8000000
set_option maxRecDepth 100000
theorem D3 (n:Nat):∀ k:Nat,m9 n (k+1)=b8 (n / 256 ^ k)::m9 n k:=by
 intro k
 induction k generalizing n with
 | zero=>simp [m9]
 | succ k ih =>
   rw [m9,ih (n / 256),m9,List.cons_append]
   congr 2
   rw [Nat.div_div_eq_div_mul,Nat.pow_succ,Nat.mul_comm]
theorem CN (n:Nat):∀ k:Nat,(m9 n k).length=k
 | 0=>rfl
 | k+1=>by rw [D3,List.length_cons,CN n k]
theorem Dd (s:List UInt8) (c:UInt8):eU (s++[c])=256 * eU s+c.toNat:=by simp [eU]
theorem EN:∀ s:List UInt8,eU s<256 ^ s.length:=by
 intro s
 rw [← List.reverse_reverse s]
 generalize s.reverse=r
 induction r with
 | nil=>simp [eU]
 | cons c r ih =>
   rw [List.reverse_cons,Dd,List.length_append,List.length_singleton,Nat.pow_succ]
   have:=c.toNat_lt
   omega
theorem KN {n:Nat} {c:UInt8} (hn:n<2 ^ 56) :
   IntKind.u64.wrap (BitVec.ofInt 64 (IntKind.u64.wrap ((n:Int) * 256)) ||| BitVec.ofInt 64 (c.toNat:Int)).toNat=((256 * n+c.toNat:Nat):Int):=by
 have hc:=c.toNat_lt
 have e1:IntKind.u64.wrap ((n:Int) * 256)=((n * 256:Nat):Int):=by
   rw [show (n:Int) * 256=((n * 256:Nat):Int) by simp]
   simp only [IntKind.wrap,IntKind.signed,IntKind.bits]
   simp
   omega
 rw [e1]
 have e2:(BitVec.ofInt 64 ((n * 256:Nat):Int) ||| BitVec.ofInt 64 (c.toNat:Int)).toNat=n * 256+c.toNat:=by
   rw [BitVec.toNat_or,BitVec.toNat_ofInt,BitVec.toNat_ofInt]
   have a1:(((n * 256:Nat):Int) % ((2 ^ 64:Nat):Int)).toNat=n * 256:=by omega
   have a2:(((c.toNat:Nat):Int) % ((2 ^ 64:Nat):Int)).toNat=c.toNat:=by omega
   rw [a1,a2]
   have:=Nat.two_pow_add_eq_or_of_lt (i:=8) (b:=c.toNat) (by omega) n
   rw [show 2 ^ 8 * n=n * 256 by omega] at this
   exact this.symm
 rw [e2]
 simp only [IntKind.wrap,IntKind.signed,IntKind.bits]
 simp
 omega
theorem HW {u l:Nat} (h1:1≤l) (h8:l≤8) (hu:u<256 ^ l) :
   (IntKind.i64.wrap (IntKind.u64.wrap ((u:Int) * 2 ^ (64 - 8 * l)))).fdiv (2 ^ (64 - 8 * l))=if u<2 ^ (8 * l - 1) then (u:Int) else (u:Int) - 2 ^ (8 * l):=by
 have hl:l=1∨l=2∨l=3∨l=4∨l=5∨l=6∨l=7∨l=8:=by omega
 rcases hl with rfl|rfl|rfl|rfl|rfl|rfl|rfl|rfl<;>simp at hu ⊢<;>(try rw [Int.fdiv_eq_ediv_of_nonneg _ (by decide)])<;>simp only [IntKind.wrap,IntKind.signed,IntKind.bits]<;>simp<;>split<;>split<;>omega
theorem HA {s:List UInt8} {n a:Nat} (h:iK s=.ok (n,a)):2≤a∧a≤6∧n≤1048576∧a≤s.length:=by
 unfold iK at h
 simp only at h
 split at h
 · cases h
 rename_i h2
 split at h
 · cases h
   exact ⟨by omega,by omega,by omega,by omega⟩
 split at h
 · cases h
 split at h
 · cases h
 split at h
 · cases h
 · rename_i h5 h6 h7 h8
   cases h
   exact ⟨by omega,by omega,by omega,by omega⟩
theorem Hz {s:List UInt8} {e:Int} (h:iK s=.error e):e≠0:=by
 unfold iK at h
 simp only at h
 repeat' split at h
 all_goals first|(cases h;decide)|cases h
theorem Jm {f:Nat} {s:List UInt8} {n:Nd} {r:List UInt8} (h:dq f s=.ok (n,r)):r.length<s.length:=by
 cases f with
 | zero=>cases h
 | succ f =>
   rw [dq] at h
   split at h
   · cases h
   simp only at h
   split at h
   · cases h
   split at h
   · cases h
   rename_i size a hb
   obtain ⟨b1,b2,b3,b4⟩:=HA hb
   split at h
   · cases h
   split at h
   · cases h
     simp;omega
   split at h
   · cases h
   · cases h
     simp;omega
theorem Fx {p:List UInt8→Except Int (Nd×List UInt8)} (hp:∀ s e,p s=.error e→e≠0):∀ (f:Nat) (s:List UInt8) (e:Int),fc p f s=.error e→e≠0
 | 0,[],e,h=>by cases h
 | 0,_::_,e,h=>by cases h
 | f+1,[],e,h=>by cases h
 | f+1,c::s,e,h=>by
   rw [fc] at h
   · split at h
     · rename_i hh;cases h;exact hp _ _ hh
     · split at h
       · rename_i hh;cases h;exact Fx hp f _ _ hh
       · cases h
   · simp
theorem jQ:∀ (f:Nat) (s:List UInt8) (e:Int),dq f s=.error e→e≠0
 | 0,s,e,h=>by cases h;decide
 | f+1,s,e,h=>by
   rw [dq] at h
   split at h
   · cases h;decide
   simp only at h
   split at h
   · cases h;decide
   split at h
   · rename_i hh;cases h;exact Hz hh
   split at h
   · cases h;decide
   split at h
   · cases h
   split at h
   · rename_i hh;cases h;exact Fx (jQ f) _ _ _ hh
   · cases h
end Go.Proofs.YtgpnbkdcdmfgcaaGreat.Av
set_option maxRecDepth 100000
namespace Go.Proofs.YtgpnbkdcdmfgcaaGreat.Av
open Go
def wR:List SOp :=
 [o1 4 (.mv (.av (.str [])))]
def wQ:List SOp :=
 [o1 7 (.mv (tm 1)),
 o1 8 (.bin .lss (tm 7) (iv 1)),
 o1 9 (.mv (tm 8)),
 .grp none 9 false
 [og 10 9 false (.mv (tm 1)),
 og 11 9 false (.bin .gtr (tm 10) (iv 8))]
 12 (tm 11)]
def wP:List SOp :=
 [o1 4 (.mv (.av (.str [])))]
def wO:List SOp :=
 [o1 13 (.mv (tm 1)),
 o1 14 (.mkslice 1 1 [(.int .u8 0)] (tm 13) (tm 13)),
 o1 5 (.mv (tm 14))]
def wN:List SOp :=
 [o1 15 (.mv (tm 5)),
 o1 16 (.len false (tm 15)),
 o1 17 (.mv (iv 0))]
def wM:List SOp :=
 [o1 18 (.bin .lss (tm 17) (tm 16))]
def wL:List SOp :=
 [o1 19 (.mv (tm 17)),
 o1 6 (.mv (tm 19))]
def wK:List SOp :=
 [o1 20 (.mv (tm 5)),
 o1 21 (.mv (tm 1)),
 o1 22 (.bin .sub (tm 21) (iv 1)),
 o1 23 (.mv (tm 6)),
 o1 24 (.bin .sub (tm 22) (tm 23)),
 o1 25 (.mv (tm 0)),
 o1 26 (.conv .u8 (tm 25)),
 o1 27 (.iaddr 1 (tm 20) (tm 24)),
 o0 (.store 1 (tm 27) (tm 26))]
def wJ:List SOp :=
 [o1 28 (.mv (tm 0)),
 o1 29 (.bin .shr (tm 28) (.av (.int .u64 8))),
 o1 0 (.mv (tm 29))]
def wI:List SOp :=
 [o1 30 (.bin .add (tm 17) (iv 1)),
 o1 17 (.mv (tm 30))]
def uf:List SOp :=
 [o1 31 (.mv (tm 5)),
 o1 32 (.b2s (tm 31)),
 o1 4 (.mv (tm 32))]
def u9:aK:=⟨33,(.seq (.sreg wR [])
 (.seq (.seq (.sreg wQ [true,false,false,false])
 (.cond (tm 12) (.seq (.sreg wP [])
 .ret)
 .skip))
 (.seq (.sreg wO [true,false,false])
 (.seq (.seq (.sreg wN [true,true,false])
 (.block 0 (.loop (.seq (.sreg wM [])
 (.seq (.cond (tm 18) .skip
 (.exit 0))
 (.seq (.block 1 (.seq (.sreg wL [true,false])
 (.seq (.sreg wK [false,false,false,false,false,false,false,false])
 (.sreg wJ [true,false,false]))))
 (.sreg wI [true,false])))))))
 (.seq (.sreg uf [true,false,false])
 .ret))))),[(.tmp 4)]⟩
attribute [push_cast] wR wQ wP wO wN wM wL wK wJ wI uf
theorem Ds:aQ Tryz.prog (fun _ _=>1) 40=some u9.raw:=by kernel_rfl
def w9:List SOp :=
 [o1 6 (.mv (.av (.int .u64 0))),
 o1 7 (.mv (.av (.bool false)))]
def w8:List SOp :=
 [o1 11 (.mv (tm 2)),
 o1 12 (.bin .lss (tm 11) (iv 1)),
 o1 13 (.mv (tm 12)),
 .grp none 13 false
 [og 14 13 false (.mv (tm 2)),
 og 15 13 false (.bin .gtr (tm 14) (iv 8))]
 16 (tm 15),
 o1 17 (.mv (tm 16)),
 .grp none 17 false
 [og 18 17 false (.mv (tm 1)),
 og 19 17 false (.bin .lss (tm 18) (iv 0))]
 20 (tm 19),
 o1 21 (.mv (tm 20)),
 .grp none 21 false
 [og 22 21 false (.mv (tm 1)),
 og 23 21 false (.mv (tm 0)),
 og 24 21 false (.len true (tm 23)),
 og 25 21 false (.mv (tm 2)),
 og 26 21 false (.bin .sub (tm 24) (tm 25)),
 og 27 21 false (.bin .gtr (tm 22) (tm 26))]
 28 (tm 27)]
def wZ:List SOp :=
 [o1 6 (.mv (.av (.int .u64 0))),
 o1 7 (.mv (.av (.bool false)))]
def wY:List SOp :=
 [o1 8 (.mv (.av (.int .u64 0)))]
def wX:List SOp :=
 [o1 29 (.mv (tm 0)),
 o1 30 (.mv (tm 1)),
 o1 31 (.mv (tm 1)),
 o1 32 (.mv (tm 2)),
 o1 33 (.bin .add (tm 31) (tm 32)),
 o1 34 (.slS (tm 29) (some (tm 30)) (some (tm 33))),
 o1 35 (.s2b (tm 34)),
 o1 36 (.len false (tm 35)),
 o1 37 (.mv (iv 0))]
def wW:List SOp :=
 [o1 38 (.bin .lss (tm 37) (tm 36))]
def wV:List SOp :=
 [o1 39 (.iaddr 1 (tm 35) (tm 37)),
 o1 40 (.load false 1 (tm 39)),
 o1 10 (.mv (tm 40))]
def wU:List SOp :=
 [o1 41 (.mv (tm 8)),
 o1 42 (.bin .shl (tm 41) (.av (.int .u64 8))),
 o1 43 (.mv (tm 10)),
 o1 44 (.conv .u64 (tm 43)),
 o1 45 (.bin .or (tm 42) (tm 44)),
 o1 8 (.mv (tm 45))]
def wT:List SOp :=
 [o1 46 (.bin .add (tm 37) (iv 1)),
 o1 37 (.mv (tm 46))]
def wS:List SOp :=
 [o1 47 (.mv (tm 8)),
 o1 6 (.mv (tm 47)),
 o1 7 (.mv (.av (.bool true)))]
def gi:aK:=⟨48,(.seq (.sreg w9 [])
 (.seq (.seq (.sreg w8 [true,false,false,false,false,false,false,false])
 (.cond (tm 28) (.seq (.sreg wZ [])
 .ret)
 .skip))
 (.seq (.sreg wY [])
 (.seq (.seq (.sreg wX [true,true,true,false,false,false,false,false,false])
 (.block 0 (.loop (.seq (.sreg wW [])
 (.seq (.cond (tm 38) .skip
 (.exit 0))
 (.seq (.block 1 (.seq (.sreg wV [true,false,false])
 (.sreg wU [true,false,false,false,false,false])))
 (.sreg wT [true,false])))))))
 (.seq (.sreg wS [true,true,false])
 .ret))))),[(.tmp 6),(.tmp 7)]⟩
attribute [push_cast] w9 w8 wZ wY wX wW wV wU wT wS
theorem vb:aQ Tryz.prog (fun _ _=>1) 75=some gi.raw:=by kernel_rfl
def rZ:List SOp :=
 [o1 2 (.mv (iv 0)),
 o1 3 (.mv (iv 0)),
 o1 4 (.mv (iv 0))]
def rY:List SOp :=
 [o1 8 (.mv (tm 0)),
 o1 9 (.len true (tm 8)),
 o1 10 (.bin .lss (tm 9) (iv 2))]
def rX:List SOp :=
 [o1 2 (.mv (iv 0)),
 o1 3 (.mv (iv 0)),
 o1 4 (.mv (iv 3))]
def rW:List SOp :=
 [o1 11 (.mv (tm 0)),
 o1 12 (.idxS (tm 11) (iv 1)),
 o1 13 (.conv .i64 (tm 12)),
 o1 5 (.mv (tm 13))]
def rV:List SOp :=
 [o1 15 (.mv (tm 5)),
 o1 16 (.bin .lss (tm 15) (iv 128)),
 o1 14 (.mv (tm 16))]
def rU:List SOp :=
 [o1 17 (.mv (tm 5)),
 o1 2 (.mv (tm 17)),
 o1 3 (.mv (iv 2)),
 o1 4 (.mv (iv 0))]
def rT:List SOp :=
 [o1 19 (.mv (tm 5)),
 o1 20 (.bin .eql (tm 19) (iv 128)),
 o1 21 (.mv (tm 20)),
 .grp none 21 false
 [og 22 21 false (.mv (tm 5)),
 og 23 21 false (.bin .gtr (tm 22) (iv 132))]
 24 (tm 23),
 o1 18 (.mv (tm 24))]
def rS:List SOp :=
 [o1 2 (.mv (iv 0)),
 o1 3 (.mv (iv 0)),
 o1 4 (.mv (iv 8))]
def rR:List SOp :=
 [o1 26 (.mv (tm 0)),
 o1 27 (.mv (tm 5)),
 o1 28 (.bin .sub (tm 27) (iv 128)),
 o1 29 (.call 75 [(tm 26),(iv 2),(tm 28)]),
 o1 25 (.mv (tm 29)),
 o1 30 (.extract (tm 25) 0),
 o1 31 (.extract (tm 25) 1),
 o1 6 (.mv (tm 30)),
 o1 7 (.mv (tm 31))]
def rQ:List SOp :=
 [o1 33 (.mv (tm 7)),
 o1 34 (.un .not (tm 33)),
 o1 32 (.mv (tm 34))]
def nO:List SOp :=
 [o1 2 (.mv (iv 0)),
 o1 3 (.mv (iv 0)),
 o1 4 (.mv (iv 3))]
def nN:List SOp :=
 [o1 36 (.mv (tm 6)),
 o1 37 (.bin .gtr (tm 36) (.av (.int .u64 1048576))),
 o1 35 (.mv (tm 37))]
def nM:List SOp :=
 [o1 2 (.mv (iv 0)),
 o1 3 (.mv (iv 0)),
 o1 4 (.mv (iv 5))]
def nL:List SOp :=
 [o1 38 (.mv (tm 6)),
 o1 39 (.conv .i64 (tm 38)),
 o1 40 (.mv (tm 5)),
 o1 41 (.bin .sub (tm 40) (iv 126)),
 o1 2 (.mv (tm 39)),
 o1 3 (.mv (tm 41)),
 o1 4 (.mv (iv 0))]
def nk:aK:=⟨42,(.seq (.sreg rZ [])
 (.seq (.seq (.sreg rY [true,false,false])
 (.cond (tm 10) (.seq (.sreg rX [])
 .ret)
 .skip))
 (.seq (.sreg rW [true,false,false,false])
 (.seq (.block 0 (.seq (.sreg rV [true,false,false])
 (.cond (tm 14) (.seq (.sreg rU [true,true,true,false])
 .ret)
 (.seq (.sreg rT [true,false,false,false,false])
 (.cond (tm 18) (.seq (.sreg rS [])
 .ret)
 .skip)))))
 (.seq (.sreg rR [true,true,false,false,false,false,false,false,false])
 (.seq (.block 1 (.seq (.sreg rQ [true,false,false])
 (.cond (tm 32) (.seq (.sreg nO [])
 .ret)
 (.seq (.sreg nN [true,false,false])
 (.cond (tm 35) (.seq (.sreg nM [])
 .ret)
 .skip)))))
 (.seq (.sreg nL [true,true,true,false,false,false,false])
 .ret))))))),[(.tmp 2),(.tmp 3),(.tmp 4)]⟩
attribute [push_cast] rZ rY rX rW rV rU rT rS rR rQ nO nN nM nL
theorem Ca:aQ Tryz.prog (fun _ _=>1) 99=some nk.raw:=by kernel_rfl
def vV:List SOp :=
 [o1 2 (.alloc [(.int .i64 0),(.str []),(.sl [] 0 (some 0))]),
 o1 3 (.mv (.av (.str []))),
 o1 4 (.mv (iv 0))]
def vU:List SOp :=
 [o1 5 (.mv (tm 0)),
 o1 6 (.call 74 [(tm 5),(iv 1)]),
 o1 7 (.extract (tm 6) 0),
 o1 8 (.extract (tm 6) 1),
 o1 9 (.extract (tm 6) 2),
 o0 (.store 3 (tm 2) (tm 7)),
 o1 3 (.mv (tm 8)),
 o1 4 (.mv (tm 9))]
def gh:aK:=⟨10,(.seq (.sreg vV [])
 (.seq (.sreg vU [true,true,false,false,false,false,false])
 .ret)),[(.cell true 3 2),(.tmp 3),(.tmp 4)]⟩
attribute [push_cast] vV vU
theorem uV:aQ Tryz.prog (fun _ _=>1) 50=some gh.raw:=by kernel_rfl
def vM:List SOp :=
 [o1 4 (.alloc [(.int .i64 0),(.str []),(.sl [] 0 (some 0))]),
 o1 5 (.mv (.av (.str []))),
 o1 6 (.mv (iv 0))]
def vL:List SOp :=
 [o1 16 (.mv (tm 1)),
 o1 17 (.bin .gtr (tm 16) (iv 64)),
 o1 15 (.mv (tm 17))]
def vK:List SOp :=
 [o1 18 (.build [(.int .i64 0),(.str []),(.sl [] 0 (some 0))] []),
 o0 (.store 3 (tm 4) (tm 18)),
 o1 5 (.mv (.av (.str []))),
 o1 6 (.mv (iv 6))]
def vJ:List SOp :=
 [o1 20 (.mv (tm 0)),
 o1 21 (.bin .eql (tm 20) (.av (.str []))),
 o1 19 (.mv (tm 21))]
def vI:List SOp :=
 [o1 22 (.build [(.int .i64 0),(.str []),(.sl [] 0 (some 0))] []),
 o0 (.store 3 (tm 4) (tm 22)),
 o1 5 (.mv (.av (.str []))),
 o1 6 (.mv (iv 3))]
def vH:List SOp :=
 [o1 24 (.mv (tm 0)),
 o1 25 (.idxS (tm 24) (iv 0)),
 o1 26 (.bin .and (tm 25) (.av (.int .u8 31))),
 o1 27 (.bin .eql (tm 26) (.av (.int .u8 31))),
 o1 23 (.mv (tm 27))]
def vG:List SOp :=
 [o1 28 (.build [(.int .i64 0),(.str []),(.sl [] 0 (some 0))] []),
 o0 (.store 3 (tm 4) (tm 28)),
 o1 5 (.mv (.av (.str []))),
 o1 6 (.mv (iv 7))]
def vF:List SOp :=
 [o1 30 (.mv (tm 0)),
 o1 31 (.call 99 [(tm 30)]),
 o1 29 (.mv (tm 31)),
 o1 32 (.extract (tm 29) 0),
 o1 33 (.extract (tm 29) 1),
 o1 34 (.extract (tm 29) 2),
 o1 7 (.mv (tm 32)),
 o1 8 (.mv (tm 33)),
 o1 9 (.mv (tm 34))]
def vE:List SOp :=
 [o1 35 (.mv (tm 9)),
 o1 36 (.bin .eql (tm 35) (iv 0)),
 o1 37 (.mv (tm 36)),
 .grp none 37 true
 [og 38 37 true (.mv (tm 7)),
 og 39 37 true (.mv (tm 0)),
 og 40 37 true (.len true (tm 39)),
 og 41 37 true (.mv (tm 8)),
 og 42 37 true (.bin .sub (tm 40) (tm 41)),
 og 43 37 true (.bin .gtr (tm 38) (tm 42))]
 44 (tm 43)]
def vD:List SOp :=
 [o1 9 (.mv (iv 3))]
def rI:List SOp :=
 [o1 45 (.mv (tm 9)),
 o1 46 (.bin .neq (tm 45) (iv 0))]
def rH:List SOp :=
 [o1 47 (.build [(.int .i64 0),(.str []),(.sl [] 0 (some 0))] []),
 o1 48 (.mv (tm 9)),
 o0 (.store 3 (tm 4) (tm 47)),
 o1 5 (.mv (.av (.str []))),
 o1 6 (.mv (tm 48))]
def rG:List (ah×Kd) :=
 [od 49 (.mv (tm 0)) .pure,
 od 50 (.idxS (tm 49) (iv 0)) (.read 0 1),
 od 51 (.conv .i64 (tm 50)) .pure,
 od 52 (.build [(.int .i64 0),(.str []),(.sl [] 0 (some 0))] [(0,(1,(tm 51)))]) .pure,
 od 53 (.mv (tm 0)) .pure,
 od 54 (.mv (tm 8)) .pure,
 od 55 (.mv (tm 8)) .pure,
 od 56 (.mv (tm 7)) .pure,
 od 57 (.bin .add (tm 55) (tm 56)) .pure,
 od 58 (.slS (tm 53) (some (tm 54)) (some (tm 57))) (.read 0 2),
 od 10 (.alloc [(.int .i64 0),(.str []),(.sl [] 0 (some 0))]) .eff,
 (⟨none,(.store 3 (tm 10) (tm 52)),none⟩,.eff)]
def nK:List ah :=
 [⟨(some 11),(.mv (tm 58)),none⟩]
def rF:List SOp :=
 [o1 59 (.mv (tm 0)),
 o1 60 (.idxS (tm 59) (iv 0)),
 o1 61 (.bin .and (tm 60) (.av (.int .u8 32))),
 o1 62 (.bin .eql (tm 61) (.av (.int .u8 0)))]
def rE:List SOp :=
 [o1 63 (.mv (tm 11)),
 o1 64 (.faddr 1 (tm 10)),
 o0 (.store 1 (tm 64) (tm 63))]
def rD:List (ah×Kd) :=
 [od 65 (.load true 3 (tm 10)) (.read 0 0),
 od 66 (.mv (tm 0)) .pure,
 od 67 (.mv (tm 8)) .pure,
 od 68 (.mv (tm 7)) .pure,
 od 69 (.bin .add (tm 67) (tm 68)) .pure,
 od 70 (.slS (tm 66) (some (tm 69)) none) (.read 0 1),
 (⟨none,(.store 3 (tm 4) (tm 65)),none⟩,.eff)]
def nJ:List ah :=
 [⟨(some 5),(.mv (tm 70)),none⟩,
 ⟨(some 6),(.mv (iv 0)),none⟩]
def rC:List SOp :=
 [o1 71 (.mv (tm 11)),
 o1 72 (.bin .neq (tm 71) (.av (.str [])))]
def rB:List SOp :=
 [o1 74 (.mv (tm 11)),
 o1 75 (.mv (tm 1)),
 o1 76 (.bin .add (tm 75) (iv 1)),
 o1 77 (.call 74 [(tm 74),(tm 76)]),
 o1 73 (.mv (tm 77)),
 o1 78 (.extract (tm 73) 0),
 o1 79 (.extract (tm 73) 1),
 o1 80 (.extract (tm 73) 2),
 o1 12 (.alloc [(.int .i64 0),(.str []),(.sl [] 0 (some 0))]),
 o0 (.store 3 (tm 12) (tm 78)),
 o1 13 (.mv (tm 79)),
 o1 14 (.mv (tm 80))]
def rA:List SOp :=
 [o1 81 (.mv (tm 14)),
 o1 82 (.bin .neq (tm 81) (iv 0))]
def rz:List SOp :=
 [o1 83 (.build [(.int .i64 0),(.str []),(.sl [] 0 (some 0))] []),
 o1 84 (.mv (tm 14)),
 o0 (.store 3 (tm 4) (tm 83)),
 o1 5 (.mv (.av (.str []))),
 o1 6 (.mv (tm 84))]
def ry:List SOp :=
 [o1 85 (.faddr 2 (tm 10)),
 o1 86 (.load false 1 (tm 85)),
 o1 87 (.load true 3 (tm 12)),
 o1 88 (.bslice false 3 1 [(.int .i64 0),(.str []),(.sl [] 0 (some 0))] [(0,(3,(tm 87)))]),
 o1 89 (.app 1 3 48 [(.int .i64 0),(.str []),(.sl [] 0 (some 0))] (tm 86) (tm 88)),
 o1 90 (.faddr 2 (tm 10)),
 o0 (.store 1 (tm 90) (tm 89))]
def rx:List SOp :=
 [o1 91 (.mv (tm 13)),
 o1 11 (.mv (tm 91))]
def rv:List (ah×Kd) :=
 [od 92 (.load true 3 (tm 10)) (.read 0 0),
 od 93 (.mv (tm 0)) .pure,
 od 94 (.mv (tm 8)) .pure,
 od 95 (.mv (tm 7)) .pure,
 od 96 (.bin .add (tm 94) (tm 95)) .pure,
 od 97 (.slS (tm 93) (some (tm 96)) none) (.read 0 1),
 (⟨none,(.store 3 (tm 4) (tm 92)),none⟩,.eff)]
def nI:List ah :=
 [⟨(some 5),(.mv (tm 97)),none⟩,
 ⟨(some 6),(.mv (iv 0)),none⟩]
def aZ:aK:=⟨98,(.seq (.sreg vM [])
 (.seq (.block 0 (.seq (.sreg vL [true,false,false])
 (.cond (tm 15) (.seq (.sreg vK [true,true,false])
 .ret)
 (.seq (.sreg vJ [true,false,false])
 (.cond (tm 19) (.seq (.sreg vI [true,true,false])
 .ret)
 (.seq (.sreg vH [true,false,false,false,false])
 (.cond (tm 23) (.seq (.sreg vG [true,true,false])
 .ret)
 .skip)))))))
 (.seq (.sreg vF [true,true,true,false,false,false,false,false,false])
 (.seq (.seq (.sreg vE [true,false,false,false])
 (.cond (tm 44) (.sreg vD [])
 .skip))
 (.seq (.seq (.sreg rI [true,false])
 (.cond (tm 46) (.seq (.sreg rH [true,true,false,false])
 .ret)
 .skip))
 (.seq (.dregM rG nK [true,true,false,false,false,false,false,false,false,false,false,false])
 (.seq (.seq (.sreg rF [true,false,false,false])
 (.cond (tm 62) (.seq (.sreg rE [false,false])
 (.seq (.dregM rD nJ [true,true,false,false,false,false,false,false])
 .ret))
 .skip))
 (.seq (.block 1 (.loop (.seq (.seq (.sreg rC [true,false])
 (.cond (tm 72) .skip
 (.exit 1)))
 (.block 2 (.seq (.sreg rB [true,true,true,false,false,false,false,false,false,false,false])
 (.seq (.seq (.sreg rA [true,false])
 (.cond (tm 82) (.seq (.sreg rz [true,true,false,false])
 .ret)
 .skip))
 (.seq (.sreg ry [false,false,false,false,false,false])
 (.sreg rx [true,false]))))))))
 (.seq (.dregM rv nI [true,true,false,false,false,false,false,false])
 .ret))))))))),[(.cell true 3 4),(.tmp 5),(.tmp 6)]⟩
attribute [push_cast] vM vL vK vJ vI vH vG vF vE vD rI rH rG nK rF rE rD nJ rC rB rA rz ry rx rv nI
theorem ci:aQ Tryz.prog (fun _ _=>1) 74=some aZ.raw:=by kernel_rfl
def vT:List SOp :=
 [o1 2 (.alloc [(.int .i64 0),(.str []),(.sl [] 0 (some 0))]),
 o1 3 (.mv (iv 0))]
def vS:List SOp :=
 [o1 8 (.mv (tm 0)),
 o1 9 (.call 50 [(tm 8)]),
 o1 7 (.mv (tm 9)),
 o1 10 (.extract (tm 7) 0),
 o1 11 (.extract (tm 7) 1),
 o1 12 (.extract (tm 7) 2),
 o1 4 (.alloc [(.int .i64 0),(.str []),(.sl [] 0 (some 0))]),
 o0 (.store 3 (tm 4) (tm 10)),
 o1 5 (.mv (tm 11)),
 o1 6 (.mv (tm 12))]
def vR:List SOp :=
 [o1 13 (.mv (tm 6)),
 o1 14 (.bin .eql (tm 13) (iv 0)),
 o1 15 (.mv (tm 14)),
 .grp none 15 true
 [og 16 15 true (.mv (tm 5)),
 og 17 15 true (.bin .neq (tm 16) (.av (.str [])))]
 18 (tm 17)]
def vQ:List SOp :=
 [o1 6 (.mv (iv 4))]
def vP:List SOp :=
 [o1 19 (.mv (tm 6)),
 o1 20 (.bin .neq (tm 19) (iv 0))]
def vO:List SOp :=
 [o1 21 (.build [(.int .i64 0),(.str []),(.sl [] 0 (some 0))] []),
 o1 22 (.mv (tm 6)),
 o0 (.store 3 (tm 2) (tm 21)),
 o1 3 (.mv (tm 22))]
def vN:List SOp :=
 [o1 23 (.load true 3 (tm 4)),
 o0 (.store 3 (tm 2) (tm 23)),
 o1 3 (.mv (iv 0))]
def dC:aK:=⟨24,(.seq (.sreg vT [])
 (.seq (.sreg vS [true,true,true,false,false,false,false,false,false])
 (.seq (.seq (.sreg vR [true,false,false,false])
 (.cond (tm 18) (.sreg vQ [])
 .skip))
 (.seq (.seq (.sreg vP [true,false])
 (.cond (tm 20) (.seq (.sreg vO [true,false,false])
 .ret)
 .skip))
 (.seq (.sreg vN [true,false])
 .ret))))),[(.cell true 3 2),(.tmp 3)]⟩
attribute [push_cast] vT vS vR vQ vP vO vN
theorem iJ:aQ Tryz.prog (fun _ _=>1) 34=some dC.raw:=by kernel_rfl
def rP:List SOp :=
 [o1 2 (.mv (.av (.str [])))]
def rO:List SOp :=
 [o1 4 (.mv (tm 0)),
 o1 5 (.bin .lss (tm 4) (iv 128))]
def rN:List SOp :=
 [o1 6 (.mv (tm 0)),
 o1 7 (.conv .u64 (tm 6)),
 o1 8 (.call 40 [(tm 7),(iv 1)]),
 o1 2 (.mv (tm 8))]
def rM:List SOp :=
 [o1 3 (.mv (iv 1))]
def rL:List SOp :=
 [o1 9 (.mv (tm 0)),
 o1 10 (.mv (tm 3)),
 o1 11 (.bin .mul (iv 8) (tm 10)),
 o1 12 (.bin .shr (tm 9) (tm 11)),
 o1 13 (.bin .gtr (tm 12) (iv 0))]
def rK:List SOp :=
 [o1 14 (.mv (tm 3)),
 o1 15 (.bin .add (tm 14) (iv 1)),
 o1 3 (.mv (tm 15))]
def rJ:List SOp :=
 [o1 16 (.mv (tm 3)),
 o1 17 (.bin .add (iv 128) (tm 16)),
 o1 18 (.conv .u64 (tm 17)),
 o1 19 (.call 40 [(tm 18),(iv 1)]),
 o1 20 (.mv (tm 0)),
 o1 21 (.conv .u64 (tm 20)),
 o1 22 (.mv (tm 3)),
 o1 23 (.call 40 [(tm 21),(tm 22)]),
 o1 24 (.bin .add (tm 19) (tm 23)),
 o1 2 (.mv (tm 24))]
def nj:aK:=⟨25,(.seq (.sreg rP [])
 (.seq (.seq (.sreg rO [true,false])
 (.cond (tm 5) (.seq (.sreg rN [true,false,false,false])
 .ret)
 .skip))
 (.seq (.sreg rM [])
 (.seq (.block 0 (.loop (.seq (.seq (.sreg rL [true,false,false,false,false])
 (.cond (tm 13) .skip
 (.exit 0)))
 (.block 1 (.sreg rK [true,false,false])))))
 (.seq (.sreg rJ [true,false,false,false,false,false,false,false,false,false])
 .ret))))),[(.tmp 2)]⟩
attribute [push_cast] rP rO rN rM rL rK rJ
theorem B9:aQ Tryz.prog (fun _ _=>1) 69=some nj.raw:=by kernel_rfl
def Bl:List SOp :=
 [o1 1 (.box (tm 0)),
 o1 2 (.mv (.av (.str []))),
 o1 3 (.mv (iv 0))]
def Bk:List SOp :=
 [o1 4 (.load true 3 (tm 1)),
 o1 5 (.call 44 [(tm 4),(iv 1)]),
 o1 6 (.extract (tm 5) 0),
 o1 7 (.extract (tm 5) 1),
 o1 2 (.mv (tm 6)),
 o1 3 (.mv (tm 7))]
def AN:aK:=⟨8,(.seq (.sreg Bl [])
 (.seq (.sreg Bk [true,true,false,false,false,false])
 .ret)),[(.tmp 2),(.tmp 3)]⟩
attribute [push_cast] Bl Bk
theorem EV:aQ Tryz.prog (fun _ _=>1) 26=some AN.raw:=by kernel_rfl
def Bh:List SOp :=
 [o1 2 (.box (tm 0)),
 o1 4 (.mv (.av (.str []))),
 o1 5 (.mv (iv 0))]
def Bg:List SOp :=
 [o1 12 (.mv (tm 1)),
 o1 13 (.bin .gtr (tm 12) (iv 64)),
 o1 11 (.mv (tm 13))]
def Bf:List SOp :=
 [o1 4 (.mv (.av (.str []))),
 o1 5 (.mv (iv 6))]
def Be:List SOp :=
 [o1 15 (.faddr 0 (tm 2)),
 o1 16 (.load false 1 (tm 15)),
 o1 17 (.bin .lss (tm 16) (iv 0)),
 o1 18 (.mv (tm 17)),
 .grp none 18 false
 [og 19 18 false (.faddr 0 (tm 2)),
 og 20 18 false (.load false 1 (tm 19)),
 og 21 18 false (.bin .gtr (tm 20) (iv 255))]
 22 (tm 21),
 o1 23 (.mv (tm 22)),
 .grp none 23 false
 [og 24 23 false (.faddr 0 (tm 2)),
 og 25 23 false (.load false 1 (tm 24)),
 og 26 23 false (.bin .and (tm 25) (iv 31)),
 og 27 23 false (.bin .eql (tm 26) (iv 31))]
 28 (tm 27),
 o1 14 (.mv (tm 28))]
def Bd:List SOp :=
 [o1 4 (.mv (.av (.str []))),
 o1 5 (.mv (iv 7))]
def Bc:List SOp :=
 [o1 30 (.faddr 0 (tm 2)),
 o1 31 (.load false 1 (tm 30)),
 o1 32 (.bin .and (tm 31) (iv 32)),
 o1 33 (.bin .neq (tm 32) (iv 0)),
 o1 34 (.mv (tm 33)),
 .grp none 34 true
 [og 35 34 true (.faddr 1 (tm 2)),
 og 36 34 true (.load false 1 (tm 35)),
 og 37 34 true (.bin .neq (tm 36) (.av (.str [])))]
 38 (tm 37),
 o1 39 (.mv (tm 38)),
 .grp none 39 false
 [og 40 39 false (.faddr 0 (tm 2)),
 og 41 39 false (.load false 1 (tm 40)),
 og 42 39 false (.bin .and (tm 41) (iv 32)),
 og 43 39 false (.bin .eql (tm 42) (iv 0)),
 og 44 39 false (.mv (tm 43)),
 .grp (some (39,false)) 44 true
 [og 45 44 true (.faddr 2 (tm 2)),
 og 46 44 true (.load false 1 (tm 45)),
 og 47 44 true (.len false (tm 46)),
 og 48 44 true (.bin .gtr (tm 47) (iv 0))]
 49 (tm 48)]
 50 (tm 49),
 o1 29 (.mv (tm 50))]
def Bb:List SOp :=
 [o1 4 (.mv (.av (.str []))),
 o1 5 (.mv (iv 4))]
def Ba:List SOp :=
 [o1 51 (.faddr 1 (tm 2)),
 o1 52 (.load false 1 (tm 51)),
 o1 53 (.s2bG (tm 52)),
 o1 6 (.mv (tm 53))]
def A9:List SOp :=
 [o1 54 (.faddr 2 (tm 2)),
 o1 55 (.load false 1 (tm 54)),
 o1 56 (.len false (tm 55)),
 o1 57 (.mv (iv 0))]
def A8:List SOp :=
 [o1 58 (.bin .lss (tm 57) (tm 56))]
def za:List SOp :=
 [o1 59 (.iaddr 3 (tm 55) (tm 57)),
 o1 60 (.load true 3 (tm 59)),
 o1 8 (.alloc [(.int .i64 0),(.str []),(.sl [] 0 (some 0))]),
 o0 (.store 3 (tm 8) (tm 60))]
def y9:List SOp :=
 [o1 62 (.load true 3 (tm 8)),
 o1 63 (.mv (tm 1)),
 o1 64 (.bin .add (tm 63) (iv 1)),
 o1 65 (.call 44 [(tm 62),(tm 64)]),
 o1 61 (.mv (tm 65)),
 o1 66 (.extract (tm 61) 0),
 o1 67 (.extract (tm 61) 1),
 o1 9 (.mv (tm 66)),
 o1 10 (.mv (tm 67))]
def y8:List SOp :=
 [o1 68 (.mv (tm 10)),
 o1 69 (.bin .neq (tm 68) (iv 0))]
def y7:List SOp :=
 [o1 70 (.mv (tm 10)),
 o1 4 (.mv (.av (.str []))),
 o1 5 (.mv (tm 70))]
def y6:List SOp :=
 [o1 71 (.mv (tm 6)),
 o1 72 (.mv (tm 9)),
 o1 73 (.app 1 1 1 [(.int .u8 0)] (tm 71) (tm 72)),
 o1 6 (.mv (tm 73))]
def y5:List SOp :=
 [o1 74 (.bin .add (tm 57) (iv 1)),
 o1 57 (.mv (tm 74))]
def yZ:List SOp :=
 [o1 75 (.mv (tm 6)),
 o1 76 (.len false (tm 75)),
 o1 77 (.bin .gtr (tm 76) (iv 1048576))]
def yY:List SOp :=
 [o1 4 (.mv (.av (.str []))),
 o1 5 (.mv (iv 5))]
def yX:List SOp :=
 [o1 78 (.faddr 0 (tm 2)),
 o1 79 (.load false 1 (tm 78)),
 o1 80 (.conv .u64 (tm 79)),
 o1 81 (.call 40 [(tm 80),(iv 1)]),
 o1 82 (.mv (tm 6)),
 o1 83 (.len false (tm 82)),
 o1 84 (.call 69 [(tm 83)]),
 o1 85 (.bin .add (tm 81) (tm 84)),
 o1 86 (.mv (tm 6)),
 o1 87 (.b2s (tm 86)),
 o1 88 (.bin .add (tm 85) (tm 87)),
 o1 4 (.mv (tm 88)),
 o1 5 (.mv (iv 0))]
def fN:aK:=⟨89,(.seq (.sreg Bh [])
 (.seq (.block 0 (.seq (.sreg Bg [true,false,false])
 (.cond (tm 11) (.seq (.sreg Bf [])
 .ret)
 (.seq (.sreg Be [true,false,false,false,false,false,false,false])
 (.cond (tm 14) (.seq (.sreg Bd [])
 .ret)
 (.seq (.sreg Bc [true,false,false,false,false,false,false,false,false])
 (.cond (tm 29) (.seq (.sreg Bb [])
 .ret)
 .skip)))))))
 (.seq (.sreg Ba [true,false,false,false])
 (.seq (.seq (.sreg A9 [true,true,true,false])
 (.block 1 (.loop (.seq (.sreg A8 [])
 (.seq (.cond (tm 58) .skip
 (.exit 1))
 (.seq (.block 2 (.seq (.sreg za [true,false,false])
 (.seq (.sreg y9 [true,true,false,false,false,false,false,false,false])
 (.seq (.seq (.sreg y8 [true,false])
 (.cond (tm 69) (.seq (.sreg y7 [true,true,false])
 .ret)
 .skip))
 (.sreg y6 [true,false,false,false])))))
 (.sreg y5 [true,false])))))))
 (.seq (.seq (.sreg yZ [true,false,false])
 (.cond (tm 77) (.seq (.sreg yY [])
 .ret)
 .skip))
 (.seq (.sdreg yX [.pure,(.read 0 0),.pure,(.read 0 0),.pure,(.read 0 0),(.read 0 0),.pure,.pure,(.read 0 0)] [true,true,false,false,false,false,false,false,false,false,false,false,false])
 .ret)))))),[(.tmp 4),(.tmp 5)]⟩
attribute [push_cast] Bh Bg Bf Be Bd Bc Bb Ba A9 A8 za y9 y8 y7 y6 y5 yZ yY yX
theorem ni:aQ Tryz.prog (fun r i=>if r=7∧i=2 then 5 else 1) 44=some fN.raw:=by kernel_rfl
def Bq:List SOp :=
 [o1 2 (.mv (.av (.str [])))]
def Bp:List SOp :=
 [o1 3 (.mv (iv 1))]
def Bo:List SOp :=
 [o1 4 (.mv (tm 3)),
 o1 5 (.bin .lss (tm 4) (iv 8)),
 o1 6 (.mv (tm 5)),
 .grp none 6 true
 [og 7 6 true (.mv (tm 0)),
 og 8 6 true (.mv (tm 3)),
 og 9 6 true (.bin .mul (iv 8) (tm 8)),
 og 10 6 true (.bin .sub (tm 9) (iv 1)),
 og 11 6 true (.bin .shr (tm 7) (tm 10)),
 og 12 6 true (.bin .neq (tm 11) (iv 0))]
 13 (tm 12),
 o1 14 (.mv (tm 13)),
 .grp none 14 true
 [og 15 14 true (.mv (tm 0)),
 og 16 14 true (.mv (tm 3)),
 og 17 14 true (.bin .mul (iv 8) (tm 16)),
 og 18 14 true (.bin .sub (tm 17) (iv 1)),
 og 19 14 true (.bin .shr (tm 15) (tm 18)),
 og 20 14 true (.bin .neq (tm 19) (iv (-1)))]
 21 (tm 20)]
def Bn:List SOp :=
 [o1 22 (.mv (tm 3)),
 o1 23 (.bin .add (tm 22) (iv 1)),
 o1 3 (.mv (tm 23))]
def Bm:List SOp :=
 [o1 24 (.mv (tm 0)),
 o1 25 (.conv .u64 (tm 24)),
 o1 26 (.mv (tm 3)),
 o1 27 (.call 40 [(tm 25),(tm 26)]),
 o1 2 (.mv (tm 27))]
def AO:aK:=⟨28,(.seq (.sreg Bq [])
 (.seq (.sreg Bp [])
 (.seq (.block 0 (.loop (.seq (.seq (.sreg Bo [true,false,false,false,false,false])
 (.cond (tm 21) .skip
 (.exit 0)))
 (.block 1 (.sreg Bn [true,false,false])))))
 (.seq (.sreg Bm [true,false,false,false,false])
 .ret)))),[(.tmp 2)]⟩
attribute [push_cast] Bq Bp Bo Bn Bm
theorem EW:aQ Tryz.prog (fun _ _=>1) 19=some AO.raw:=by kernel_rfl
def si:List SOp :=
 [o1 2 (.mv (iv 0)),
 o1 3 (.mv (.av (.bool false)))]
def sh:List SOp :=
 [o1 9 (.mv (tm 0)),
 o1 10 (.mv (tm 0)),
 o1 11 (.len true (tm 10)),
 o1 12 (.call 75 [(tm 9),(iv 0),(tm 11)]),
 o1 8 (.mv (tm 12)),
 o1 13 (.extract (tm 8) 0),
 o1 14 (.extract (tm 8) 1),
 o1 4 (.mv (tm 13)),
 o1 5 (.mv (tm 14))]
def sg:List SOp :=
 [o1 15 (.mv (tm 5)),
 o1 16 (.un .not (tm 15))]
def sf:List SOp :=
 [o1 2 (.mv (iv 0)),
 o1 3 (.mv (.av (.bool false)))]
def se:List SOp :=
 [o1 17 (.mv (tm 0)),
 o1 18 (.len true (tm 17)),
 o1 19 (.bin .mul (iv 8) (tm 18)),
 o1 20 (.bin .sub (iv 64) (tm 19)),
 o1 6 (.mv (tm 20))]
def sd:List SOp :=
 [o1 21 (.mv (tm 4)),
 o1 22 (.mv (tm 6)),
 o1 23 (.bin .shl (tm 21) (tm 22)),
 o1 24 (.conv .i64 (tm 23)),
 o1 25 (.mv (tm 6)),
 o1 26 (.bin .shr (tm 24) (tm 25)),
 o1 7 (.mv (tm 26))]
def sc:List SOp :=
 [o1 27 (.mv (tm 7)),
 o1 28 (.call 19 [(tm 27)]),
 o1 29 (.mv (tm 0)),
 o1 30 (.bin .neq (tm 28) (tm 29))]
def sb:List SOp :=
 [o1 2 (.mv (iv 0)),
 o1 3 (.mv (.av (.bool false)))]
def sa:List SOp :=
 [o1 31 (.mv (tm 7)),
 o1 2 (.mv (tm 31)),
 o1 3 (.mv (.av (.bool true)))]
def nn:aK:=⟨32,(.seq (.sreg si [])
 (.seq (.sreg sh [true,true,false,false,false,false,false,false,false])
 (.seq (.seq (.sreg sg [true,false])
 (.cond (tm 16) (.seq (.sreg sf [])
 .ret)
 .skip))
 (.seq (.sreg se [true,false,false,false,false])
 (.seq (.sreg sd [true,false,false,false,false,false,false])
 (.seq (.seq (.sreg sc [true,false,false,false])
 (.cond (tm 30) (.seq (.sreg sb [])
 .ret)
 .skip))
 (.seq (.sreg sa [true,true,false])
 .ret))))))),[(.tmp 2),(.tmp 3)]⟩
attribute [push_cast] si sh sg sf se sd sc sb sa
theorem Cb:aQ Tryz.prog (fun _ _=>1) 51=some nn.raw:=by kernel_rfl
def Bj:List SOp :=
 [o1 4 (.alloc [(.int .i64 0),(.str []),(.sl [] 0 (some 0))])]
def Bi:List SOp :=
 [o1 5 (.mv (tm 0)),
 o1 6 (.mv (tm 1)),
 o1 7 (.call 43 [(tm 6)]),
 o1 8 (.build [(.int .i64 0),(.str []),(.sl [] 0 (some 0))] [(0,(1,(tm 5))),(2,(1,(tm 7)))]),
 o0 (.store 3 (tm 4) (tm 8))]
def AM:aK:=⟨9,(.seq (.sreg Bj [])
 (.seq (.sreg Bi [false,false,false,false])
 .ret)),[(.cell true 3 4)]⟩
attribute [push_cast] Bj Bi
theorem EU:aQ Tryz.prog (fun _ _=>1) 24=some AM.raw:=by kernel_rfl
def yW:List SOp :=
 [o1 2 (.mv (.av (.sl [] 0 (some 0))))]
def yV:List SOp :=
 [o1 3 (.mv (.av (.sl [] 0 (some 0))))]
def yU:List SOp :=
 [o1 6 (.mv (tm 0)),
 o1 7 (.len false (tm 6)),
 o1 8 (.mv (iv 0))]
def yT:List SOp :=
 [o1 9 (.bin .lss (tm 8) (tm 7))]
def yS:List SOp :=
 [o1 10 (.iaddr 3 (tm 6) (tm 8)),
 o1 11 (.load true 3 (tm 10)),
 o1 5 (.alloc [(.int .i64 0),(.str []),(.sl [] 0 (some 0))]),
 o0 (.store 3 (tm 5) (tm 11))]
def yR:List (ah×Kd) :=
 [od 12 (.mv (tm 3)) .pure,
 od 13 (.faddr 0 (tm 5)) .pure,
 od 14 (.load false 1 (tm 13)) (.read 0 0),
 od 15 (.faddr 1 (tm 5)) .pure,
 od 16 (.load false 1 (tm 15)) (.read 0 0),
 od 17 (.faddr 2 (tm 5)) .pure,
 od 18 (.load false 1 (tm 17)) (.read 0 0),
 od 19 (.call 43 [(tm 18)]) (.read 0 0),
 od 20 (.build [(.int .i64 0),(.str []),(.sl [] 0 (some 0))] [(0,(1,(tm 14))),(1,(1,(tm 16))),(2,(1,(tm 19)))]) .pure,
 od 21 (.bslice false 3 1 [(.int .i64 0),(.str []),(.sl [] 0 (some 0))] [(0,(3,(tm 20)))]) (.read 0 0)]
def vC:List ah :=
 [⟨(some 22),(.app 1 3 48 [(.int .i64 0),(.str []),(.sl [] 0 (some 0))] (tm 12) (tm 21)),none⟩,
 ⟨(some 3),(.mv (tm 22)),none⟩]
def yQ:List SOp :=
 [o1 23 (.bin .add (tm 8) (iv 1)),
 o1 8 (.mv (tm 23))]
def yP:List SOp :=
 [o1 24 (.mv (tm 3)),
 o1 2 (.mv (tm 24))]
def yi:aK:=⟨25,(.seq (.sreg yW [])
 (.seq (.sreg yV [])
 (.seq (.seq (.sreg yU [])
 (.block 0 (.loop (.seq (.sreg yT [])
 (.seq (.cond (tm 9) .skip
 (.exit 0))
 (.seq (.block 1 (.seq (.sreg yS [true,false,false])
 (.dregM yR vC [true,false,false,false,false,false,false,false,false,false,false,false])))
 (.sreg yQ [true,false])))))))
 (.seq (.sreg yP [true,false])
 .ret)))),[(.tmp 2)]⟩
attribute [push_cast] yW yV yU yT yS yR vC yQ yP
theorem DI:aQ Tryz.prog (fun _ _=>1) 43=some yi.raw:=by kernel_rfl
def zc:List SOp :=
 [o1 4 (.alloc [(.int .i64 0),(.str []),(.sl [] 0 (some 0))])]
def zb:List SOp :=
 [o1 5 (.mv (tm 0)),
 o1 6 (.mv (tm 1)),
 o1 7 (.build [(.int .i64 0),(.str []),(.sl [] 0 (some 0))] [(0,(1,(tm 5))),(1,(1,(tm 6)))]),
 o0 (.store 3 (tm 4) (tm 7))]
def yj:aK:=⟨8,(.seq (.sreg zc [])
 (.seq (.sreg zb [false,false,false])
 .ret)),[(.cell true 3 4)]⟩
attribute [push_cast] zc zb
theorem DJ:aQ Tryz.prog (fun _ _=>1) 18=some yj.raw:=by kernel_rfl
def ql:List SOp :=
 [o1 2 (.alloc [(.int .i64 0),(.str []),(.sl [] 0 (some 0))])]
def qj:List SOp :=
 [o1 3 (.mv (tm 0)),
 o1 4 (.call 18 [(iv 4),(tm 3)]),
 o0 (.store 3 (tm 2) (tm 4))]
def j6:aK:=⟨5,(.seq (.sreg ql [])
 (.seq (.sreg qj [false,false])
 .ret)),[(.cell true 3 2)]⟩
attribute [push_cast] ql qj
theorem AY:aQ Tryz.prog (fun _ _=>1) 21=some j6.raw:=by kernel_rfl
def cE:List SOp :=
 [o1 4 (.mv (.av (.sl [] 0 (some 0))))]
def cD:List SOp :=
 [o1 5 (.mv (.av (.sl [] 0 (some 0))))]
def cC:List SOp :=
 [o1 8 (.mv (tm 0)),
 o1 9 (.len false (tm 8)),
 o1 10 (.mv (iv 0))]
def cB:List SOp :=
 [o1 11 (.bin .lss (tm 10) (tm 9))]
def cA:List SOp :=
 [o1 12 (.iaddr 2 (tm 8) (tm 10)),
 o1 13 (.load true 2 (tm 12)),
 o1 7 (.alloc [(.str []),(.sl [] 0 (some 0))]),
 o0 (.store 2 (tm 7) (tm 13))]
def cz:List SOp :=
 [o1 14 (.mv (tm 5)),
 o1 15 (.mv (tm 1)),
 o1 16 (.load true 2 (tm 7)),
 o1 17 (.callv (tm 15) [(tm 16)]),
 o1 18 (.bslice false 3 1 [(.int .i64 0),(.str []),(.sl [] 0 (some 0))] [(0,(3,(tm 17)))]),
 o1 19 (.app 1 3 48 [(.int .i64 0),(.str []),(.sl [] 0 (some 0))] (tm 14) (tm 18)),
 o1 5 (.mv (tm 19))]
def cy:List SOp :=
 [o1 20 (.bin .add (tm 10) (iv 1)),
 o1 10 (.mv (tm 20))]
def cx:List SOp :=
 [o1 21 (.mv (tm 5)),
 o1 4 (.mv (tm 21))]
def bA:aK:=⟨22,(.seq (.sreg cE [])
 (.seq (.sreg cD [])
 (.seq (.seq (.sreg cC [])
 (.block 0 (.loop (.seq (.sreg cB [])
 (.seq (.cond (tm 11) .skip
 (.exit 0))
 (.seq (.block 1 (.seq (.sreg cA [true,false,false])
 (.sreg cz [true,false,false,false,false,false,false])))
 (.sreg cy [true,false])))))))
 (.seq (.sreg cx [true,false])
 .ret)))),[(.tmp 4)]⟩
attribute [push_cast] cE cD cC cB cA cz cy cx
theorem eN:aQ Tryz.prog (fun _ _=>1) 22=some bA.raw:=by kernel_rfl
def cX:List SOp :=
 [o1 4 (.mv (.av (.sl [] 0 (some 0))))]
def cW:List SOp :=
 [o1 5 (.mv (.av (.sl [] 0 (some 0))))]
def cV:List SOp :=
 [o1 8 (.mv (tm 0)),
 o1 9 (.len false (tm 8)),
 o1 10 (.mv (iv 0))]
def cU:List SOp :=
 [o1 11 (.bin .lss (tm 10) (tm 9))]
def cT:List SOp :=
 [o1 12 (.iaddr 1 (tm 8) (tm 10)),
 o1 13 (.load false 1 (tm 12)),
 o1 7 (.mv (tm 13))]
def cS:List SOp :=
 [o1 14 (.mv (tm 5)),
 o1 15 (.mv (tm 1)),
 o1 16 (.mv (tm 7)),
 o1 17 (.callv (tm 15) [(tm 16)]),
 o1 18 (.bslice false 3 1 [(.int .i64 0),(.str []),(.sl [] 0 (some 0))] [(0,(3,(tm 17)))]),
 o1 19 (.app 1 3 48 [(.int .i64 0),(.str []),(.sl [] 0 (some 0))] (tm 14) (tm 18)),
 o1 5 (.mv (tm 19))]
def cR:List SOp :=
 [o1 20 (.bin .add (tm 10) (iv 1)),
 o1 10 (.mv (tm 20))]
def cQ:List SOp :=
 [o1 21 (.mv (tm 5)),
 o1 4 (.mv (tm 21))]
def bL:aK:=⟨22,(.seq (.sreg cX [])
 (.seq (.sreg cW [])
 (.seq (.seq (.sreg cV [])
 (.block 0 (.loop (.seq (.sreg cU [])
 (.seq (.cond (tm 11) .skip
 (.exit 0))
 (.seq (.block 1 (.seq (.sreg cT [true,false,false])
 (.sreg cS [true,false,false,false,false,false,false])))
 (.sreg cR [true,false])))))))
 (.seq (.sreg cQ [true,false])
 .ret)))),[(.tmp 4)]⟩
attribute [push_cast] cX cW cV cU cT cS cR cQ
theorem fk:aQ Tryz.prog (fun _ _=>1) 25=some bL.raw:=by kernel_rfl
def iy:List SOp :=
 [o1 1 (.box (tm 0)),
 o1 2 (.alloc [(.int .i64 0),(.str []),(.sl [] 0 (some 0))])]
def ix:List (ah×Kd) :=
 [od 3 (.faddr 0 (tm 1)) .pure,
 od 4 (.load false 1 (tm 3)) (.read 0 0),
 od 5 (.call 21 [(tm 4)]) (.read 0 0),
 od 6 (.faddr 1 (tm 1)) .pure,
 od 7 (.load false 1 (tm 6)) (.read 0 0)]
def gN:List ah :=
 [⟨(some 8),(.call 25 [(tm 7),(.av (.func 21 []))]),none⟩,
 ⟨(some 9),(.call 24 [(iv 49),(tm 8)]),none⟩,
 ⟨(some 10),(.bslice false 3 2 [(.int .i64 0),(.str []),(.sl [] 0 (some 0)),(.int .i64 0),(.str []),(.sl [] 0 (some 0))] [(0,(3,(tm 5))),(3,(3,(tm 9)))]),none⟩,
 ⟨(some 11),(.call 24 [(iv 48),(tm 10)]),none⟩,
 ⟨none,(.store 3 (tm 2) (tm 11)),none⟩]
def fP:aK:=⟨12,(.seq (.sreg iy [])
 (.seq (.dregM ix gN [false,false,false,false,false,false,false,false,false])
 .ret)),[(.cell true 3 2)]⟩
attribute [push_cast] iy ix gN
theorem vA:aQ Tryz.prog (fun _ _=>1) 23=some fP.raw:=by kernel_rfl
def mM:List SOp :=
 [o1 1 (.box (tm 0)),
 o1 2 (.mv (.av (.str []))),
 o1 3 (.mv (iv 0))]
def mL:List SOp :=
 [o1 11 (.faddr 0 (tm 1)),
 o1 12 (.load false 1 (tm 11)),
 o1 13 (.bin .lss (tm 12) (iv 1)),
 o1 14 (.mv (tm 13)),
 .grp none 14 false
 [og 15 14 false (.faddr 0 (tm 1)),
 og 16 14 false (.load false 1 (tm 15)),
 og 17 14 false (.bin .gtr (tm 16) (iv 4))]
 18 (tm 17)]
def mK:List SOp :=
 [o1 2 (.mv (.av (.str []))),
 o1 3 (.mv (iv 24))]
def mJ:List SOp :=
 [o1 19 (.faddr 0 (tm 1)),
 o1 20 (.load false 1 (tm 19)),
 o1 21 (.call 19 [(tm 20)]),
 o1 22 (.call 18 [(iv 2),(tm 21)]),
 o1 23 (.bslice false 3 1 [(.int .i64 0),(.str []),(.sl [] 0 (some 0))] [(0,(3,(tm 22)))]),
 o1 4 (.mv (tm 23))]
def mI:List SOp :=
 [o1 24 (.faddr 1 (tm 1)),
 o1 25 (.load false 1 (tm 24)),
 o1 26 (.bslice false 1 1 [(.sl [] 0 (some 0))] [(0,(1,(tm 25)))]),
 o1 5 (.mv (tm 26))]
def mH:List SOp :=
 [o1 27 (.faddr 0 (tm 1)),
 o1 28 (.load false 1 (tm 27)),
 o1 29 (.bin .eql (tm 28) (iv 4))]
def mG:List SOp :=
 [o1 30 (.mv (tm 5)),
 o1 31 (.faddr 2 (tm 1)),
 o1 32 (.load false 1 (tm 31)),
 o1 33 (.bslice false 1 1 [(.sl [] 0 (some 0))] [(0,(1,(tm 32)))]),
 o1 34 (.app 1 1 24 [(.sl [] 0 (some 0))] (tm 30) (tm 33)),
 o1 5 (.mv (tm 34))]
def mF:List SOp :=
 [o1 35 (.mv (tm 5)),
 o1 36 (.len false (tm 35)),
 o1 37 (.mv (iv 0))]
def mE:List SOp :=
 [o1 38 (.bin .lss (tm 37) (tm 36))]
def mD:List SOp :=
 [o1 39 (.iaddr 1 (tm 35) (tm 37)),
 o1 40 (.load false 1 (tm 39)),
 o1 7 (.mv (tm 40))]
def jF:List SOp :=
 [o1 42 (.mv (tm 7)),
 o1 43 (.call 20 [(tm 42)]),
 o1 41 (.mv (tm 43)),
 o1 44 (.extract (tm 41) 0),
 o1 45 (.extract (tm 41) 1),
 o1 8 (.mv (tm 44)),
 o1 9 (.mv (tm 45))]
def jE:List SOp :=
 [o1 46 (.mv (tm 9)),
 o1 47 (.bin .neq (tm 46) (iv 0))]
def jD:List SOp :=
 [o1 48 (.mv (tm 9)),
 o1 2 (.mv (.av (.str []))),
 o1 3 (.mv (tm 48))]
def jC:List SOp :=
 [o1 49 (.mv (tm 4)),
 o1 50 (.mv (tm 8)),
 o1 51 (.call 21 [(tm 50)]),
 o1 52 (.bslice false 3 1 [(.int .i64 0),(.str []),(.sl [] 0 (some 0))] [(0,(3,(tm 51)))]),
 o1 53 (.app 1 3 48 [(.int .i64 0),(.str []),(.sl [] 0 (some 0))] (tm 49) (tm 52)),
 o1 4 (.mv (tm 53))]
def jB:List SOp :=
 [o1 54 (.bin .add (tm 37) (iv 1)),
 o1 37 (.mv (tm 54))]
def jA:List SOp :=
 [o1 55 (.faddr 0 (tm 1)),
 o1 56 (.load false 1 (tm 55)),
 o1 57 (.bin .neq (tm 56) (iv 2))]
def jz:List SOp :=
 [o1 58 (.faddr 3 (tm 1)),
 o1 59 (.load false 1 (tm 58)),
 o1 60 (.call 22 [(tm 59),(.av (.func 23 []))]),
 o1 10 (.mv (tm 60))]
def jy:List SOp :=
 [o1 61 (.mv (tm 4)),
 o1 62 (.mv (tm 10)),
 o1 63 (.call 24 [(iv 48),(tm 62)]),
 o1 64 (.bslice false 3 1 [(.int .i64 0),(.str []),(.sl [] 0 (some 0))] [(0,(3,(tm 63)))]),
 o1 65 (.app 1 3 48 [(.int .i64 0),(.str []),(.sl [] 0 (some 0))] (tm 61) (tm 64)),
 o1 4 (.mv (tm 65))]
def jx:List SOp :=
 [o1 66 (.mv (tm 4)),
 o1 67 (.call 24 [(iv 48),(tm 66)]),
 o1 68 (.call 26 [(tm 67)]),
 o1 69 (.extract (tm 68) 0),
 o1 70 (.extract (tm 68) 1),
 o1 2 (.mv (tm 69)),
 o1 3 (.mv (tm 70))]
def dD:aK:=⟨71,(.seq (.sreg mM [])
 (.seq (.seq (.sreg mL [true,false,false,false,false])
 (.cond (tm 18) (.seq (.sreg mK [])
 .ret)
 .skip))
 (.seq (.sreg mJ [true,false,false,false,false,false])
 (.seq (.sreg mI [true,false,false,false])
 (.seq (.seq (.sreg mH [true,false,false])
 (.cond (tm 29) (.sreg mG [true,false,false,false,false,false])
 .skip))
 (.seq (.seq (.sreg mF [])
 (.block 0 (.loop (.seq (.sreg mE [])
 (.seq (.cond (tm 38) .skip
 (.exit 0))
 (.seq (.block 1 (.seq (.sreg mD [true,false,false])
 (.seq (.sreg jF [true,true,false,false,false,false,false])
 (.seq (.seq (.sreg jE [true,false])
 (.cond (tm 47) (.seq (.sreg jD [true,true,false])
 .ret)
 .skip))
 (.sreg jC [true,false,false,false,false,false])))))
 (.sreg jB [true,false])))))))
 (.seq (.seq (.sreg jA [true,false,false])
 (.cond (tm 57) (.seq (.sreg jz [true,false,false,false])
 (.sreg jy [true,false,false,false,false,false]))
 .skip))
 (.seq (.sreg jx [true,true,false,false,false,false,false])
 .ret)))))))),[(.tmp 2),(.tmp 3)]⟩
attribute [push_cast] mM mL mK mJ mI mH mG mF mE mD jF jE jD jC jB jA jz jy jx
theorem jU:aQ Tryz.prog (fun _ _=>1) 8=some dD.raw:=by kernel_rfl
set_option maxHeartbeats 8000000
set_option maxRecDepth 100000
theorem Fk:∀ n,cn [AV.int IntKind.u8 0] n=List.replicate n (AV.int .u8 0)
 | 0=>rfl
 | n+1=>by rw [cn,Fk n,List.replicate_succ];rfl
theorem IW (c:UInt8) (s:List UInt8):u8s (c::s)=.int .u8 c.toNat::u8s s:=rfl
theorem yx (s:List UInt8):(u8s s).all C6=true:=by
 rw [List.all_eq_true]
 intro a ha
 simp only [u8s,List.mem_map] at ha
 obtain ⟨c,_,rfl⟩:=ha
 rfl
theorem Er (s:List UInt8):(u8s s).map jW=s:=by
 simp only [u8s,List.map_map]
 refine (List.map_congr_left fun c _=>?_).trans (List.map_id _)
 simp [jW]
theorem vm (s:List UInt8):(u8s s).length=s.length:=by simp [u8s]
def B8 (n k i:Nat):List AV:=List.replicate (k - i) (AV.int .u8 0)++u8s (m9 n i)
theorem Fm {n k i:Nat} (h:i≤k):(B8 n k i).length=k:=by
 rw [B8,List.length_append,List.length_replicate,vm,CN];omega
theorem Gd (A:List AV) (x v:AV) (s:List AV):bx (A++x::s) A.length [v]=A++v::s:=by simp [bx]
theorem H4 {n k i:Nat} (h:i<k):bx (B8 n k i) (k - 1 - i) [.int .u8 ((n / 256 ^ i % 256:Nat):Int)]=B8 n k (i+1):=by
 obtain ⟨j,rfl⟩:∃ j,k=i+1+j:=⟨k - i - 1,by omega⟩
 have e1:i+1+j - i=j+1:=by omega
 have e2:i+1+j - 1 - i=j:=by omega
 have e3:i+1+j - (i+1)=j:=by omega
 rw [B8,B8,e1,e2,e3,D3,IW,nD,List.replicate_succ',List.append_assoc]
 have:=Gd (List.replicate j (AV.int .u8 0)) (.int .u8 0) (.int .u8 ((n / 256 ^ i % 256:Nat):Int)) (u8s (m9 n i))
 rw [List.length_replicate] at this
 exact this
theorem CO {n k:Nat} (h1:1≤k) (h8:k≤8) (hn:n<18446744073709551616) {L:List Blk} {K:AV→List Blk→Prop} (h:K (.str (m9 n k)) L):ad Tryz.prog 40 [.int .u64 (n:Int),.int .i64 (k:Int)] L K:=by
 replace h:=hid h
 have g1:¬ (k:Int)<1:=by omega
 have g2:¬ (8:Int)<(k:Int):=by omega
 have e0:cn [AV.int IntKind.u8 0] k=B8 n k 0:=by simp [Fk,B8,m9,u8s]
 refine ac Ds (by simp [u9]) ?_
 simp only [u9,aj]
 refine wk ?_
 refine ak (fun m T' L'=>∃ (i x:Nat) (C:List AV),m=k - i∧i≤k∧Hid (x=n / 256 ^ i)∧Hid (C=B8 n k i)∧C.length=k∧T'=[(17,.int .i64 (i:Int)),(16,.int .i64 (k:Int)),(5,.lsl L.length 0 k (some k) 1),(0,.int .u64 (x:Int)),(1,.int .i64 (k:Int))]∧L'=L++[.cells C]) (CutS (b:=by simp)) ⟨0,n,_,rfl,Nat.zero_le _,hid (by simp),hid rfl,Fm (Nat.zero_le _),rfl,rfl⟩ ?_
 rintro _ _ _ ⟨i,x,C,rfl,hi,hx,hC,hCl,rfl,rfl⟩
 by_cases hlt:i<k
 · have g3:(i:Int)<(k:Int):=by omega
   have w1:IntKind.i64.wrap ((i:Int)+1)=(i:Int)+1:=ab (by omega) (by omega)
   have w2:IntKind.i64.wrap ((k:Int) - 1)=(k:Int) - 1:=ab (by omega) (by omega)
   have w3:IntKind.i64.wrap ((k:Int) - 1 - (i:Int))=(k:Int) - 1 - (i:Int):=ab (by omega) (by omega)
   have g4:(0:Int)≤(k:Int) - 1 - (i:Int):=by omega
   have g5:(k:Int) - 1 - (i:Int)<(k:Int):=by omega
   have e1:((k:Int) - 1 - (i:Int)).toNat=k - 1 - i:=by omega
   have hxn:x≤n:=by rw [hx.out];exact Nat.div_le_self _ _
   have e2:=H4 (n:=n) hlt
   rw [← hC.out] at e2
   obtain ⟨z,hz⟩:∃ z:Int,((n / 256 ^ i % 256:Nat):Int)=z:=⟨_,rfl⟩
   have w4:IntKind.u8.wrap (x:Int)=z:=by
     rw [← hz,← hx.out]
     simp only [IntKind.wrap,IntKind.signed,IntKind.bits]
     simp
   have w5:((x:Int)).fdiv (2 ^ min 8 IntKind.u64.bits)=((x / 256:Nat):Int):=by
     rw [show (2:Int) ^ min 8 IntKind.u64.bits=256 by decide,Int.fdiv_eq_ediv_of_nonneg _ (by decide)];rfl
   rw [hz] at e2
   have e2':C.take (k - 1 - i)++AV.int .u8 z::C.drop (k - 1 - i+1)=B8 n k (i+1):=by
     rw [← e2];simp [bx]
   clear e2 hz
   have e3:(B8 n k (i+1)).length=k:=Fm hlt
   have e4:x / 256=n / 256 ^ (i+1):=by rw [hx.out,Nat.div_div_eq_div_mul,Nat.pow_succ]
   have g6:k - 1 - i<C.length:=by omega
   replace e4:=hid e4
   refine wk ?_
   exact an _ _ _ (by omega) (CutL (b:=by simp)) ⟨i+1,x / 256,_,rfl,hlt,hid e4.out,hid rfl,e3,rfl,rfl⟩
 · have hke:i=k:=by omega
   subst hke
   have g3:¬ (i:Int)<(i:Int):=by omega
   have hC2:=hC.out
   rw [B8,Nat.sub_self] at hC2
   have hC3:C=u8s (m9 n i):=by simpa using hC2
   have e1:C.all C6=true:=by rw [hC3];exact yx _
   have e2:C.map jW=m9 n i:=by rw [hC3];exact Er _
   have e3:C.take i=C:=by rw [← hCl,List.take_length]
   clear hC2 hC3
   refine wk ?_
   exact aa rfl h.out
theorem Hw {s:List UInt8} {a z:Int} (ha:0≤a) (hz:z≤9223372036854775807) (hs:(s.length:Int)≤9223372036854775807) (hno:¬ (1≤z∧z≤8∧a+z≤s.length)) {L:List Blk} {K:AV→List Blk→Prop} (h:K (.tup [.int .u64 0,.bool false]) L):ad Tryz.prog 75 [.str s,.int .i64 a,.int .i64 z] L K:=by
 replace h:=hid h
 refine ac vb (by simp [gi]) ?_
 simp only [gi,aj]
 by_cases z1:z<1
 · clear hno
   refine wk ?_
   exact aq h.out
 by_cases z2:8<z
 · clear hno
   refine wk ?_
   exact aq h.out
 have z3:¬ a<0:=by omega
 have w1:IntKind.i64.wrap ((s.length:Int) - z)=(s.length:Int) - z:=ab (by omega) (by omega)
 have z4:(s.length:Int) - z<a:=by omega
 clear hno
 refine wk ?_
 exact aq h.out
theorem JL {s:List UInt8} {a z:Nat} (hs:s.length≤1100000) (h1:1≤z) (h8:z≤8) (ha:a+z≤s.length) {L:List Blk} {K:AV→List Blk→Prop} (h:K (.tup [.int .u64 (eU ((s.drop a).take z):Nat),.bool true]) L):ad Tryz.prog 75 [.str s,.int .i64 (a:Int),.int .i64 (z:Int)] L K:=by
 replace h:=hid h
 have z1:¬ (z:Int)<1:=by omega
 have z2:¬ (8:Int)<(z:Int):=by omega
 have z3:¬ (a:Int)<0:=by omega
 have w1:IntKind.i64.wrap ((s.length:Int) - (z:Int))=(s.length:Int) - (z:Int):=ab (by omega) (by omega)
 have z4:¬ (s.length:Int) - (z:Int)<(a:Int):=by omega
 have w2:IntKind.i64.wrap ((a:Int)+(z:Int))=(a:Int)+(z:Int):=ab (by omega) (by omega)
 have e1:((a:Int)+(z:Int)).toNat=a+z:=by omega
 obtain ⟨t,ht⟩:∃ t,(s.drop a).take z=t:=⟨_,rfl⟩
 have htl:t.length=z:=by rw [← ht];simp;omega
 rw [ht] at h
 have e2:(s.drop a).take (a+z - a)=t:=by rw [← ht];congr 1;omega
 clear ht
 refine ac vb (by simp [gi]) ?_
 simp only [gi,aj]
 refine wk ?_
 refine ak (fun m T' L'=>∃ (i x:Nat),m=z - i∧i≤z∧Hid (x=eU (t.take i))∧T'=[(37,.int .i64 (i:Int)),(36,.int .i64 (z:Int)),(35,.sl (u8s t) z none),(8,.int .u64 (x:Int))]∧L=L') (CutL (b:=Nat.le_refl _)) ⟨0,0,rfl,Nat.zero_le _,hid rfl,rfl,rfl⟩ ?_
 rintro _ _ _ ⟨i,x,rfl,hi,hx,rfl,rfl⟩
 by_cases hlt:i<z
 · have g1:(i:Int)<(z:Int):=by omega
   have w3:IntKind.i64.wrap ((i:Int)+1)=(i:Int)+1:=ab (by omega) (by omega)
   obtain ⟨c,hc⟩:∃ c,t.getD i 0=c:=⟨_,rfl⟩
   have hlt2:i<t.length:=by omega
   have e3:(u8s t).getD i .undef=.int .u8 (c.toNat:Int):=by rw [← hc];simp [u8s,hlt2]
   have e4:t.take (i+1)=t.take i++[c]:=by rw [List.take_succ_eq_append_getElem hlt2,← hc];simp [hlt2]
   have e5:eU (t.take (i+1))=256 * x+c.toNat:=by rw [e4,Dd,hx.out]
   have hxb:x<2 ^ 56:=by
     have h2:=EN (t.take i)
     rw [← hx.out] at h2
     have h3:(t.take i).length≤7:=by simp;omega
     exact Nat.lt_of_lt_of_le h2 (Nat.le_trans (Nat.pow_le_pow_right (by omega) h3) (by decide))
   have w4:IntKind.u64.wrap (BitVec.ofInt IntKind.u64.bits (IntKind.u64.wrap ((x:Int) * 2 ^ min 8 IntKind.u64.bits)) ||| BitVec.ofInt IntKind.u64.bits (c.toNat:Int)).toNat=((256 * x+c.toNat:Nat):Int):=KN hxb
   have w5:IntKind.u64.wrap (c.toNat:Int)=(c.toNat:Int):=fE (by omega) (by have:=c.toNat_lt;omega)
   have g2:i<(u8s t).length:=by rw [vm];exact hlt2
   clear e4 hc
   replace e5:=hid e5
   refine wk ?_
   exact an _ _ _ (by omega) (CutL (b:=Nat.le_refl _)) ⟨i+1,256 * x+c.toNat,rfl,hlt,hid e5.out.symm,rfl,rfl⟩
 · have hke:i=z:=by omega
   subst hke
   have g1:¬ (i:Int)<(i:Int):=by omega
   have h':=h.out
   rw [show eU t=x by rw [hx.out,← htl,List.take_length]] at h'
   replace h':=hid h'
   refine wk ?_
   exact aq h'.out
theorem Cq {n:Nat} (hn:n<18446744073709551616) {L:List Blk} {K:AV→List Blk→Prop} (h:K (.str [b8 n]) L):ad Tryz.prog 40 [.int .u64 (n:Int),.int .i64 1] L K :=
 CO (k:=1) (by omega) (by omega) hn (by simpa [m9] using h)
theorem FD {n:Nat} (hn:n≤1048576) {L:List Blk} {K:AV→List Blk→Prop} (h:K (.str (iF n)) L):ad Tryz.prog 69 [.int .i64 (n:Int)] L K:=by
 unfold iF at h
 have w1:IntKind.u64.wrap (n:Int)=(n:Int):=fE (by omega) (by omega)
 refine ac B9 (by simp [nj]) ?_
 simp only [nj,aj]
 by_cases h1:n<128
 · rw [if_pos h1] at h
   replace h:=hid h
   have g1:(n:Int)<128:=by omega
   clear h1
   have kk1:=@hid _ (fun L K=>Cq (n:=n) (by omega) (L:=L) (K:=K))
   refine wk ?_
   exact aq h.out
 rw [if_neg h1] at h
 have g1:¬ (n:Int)<128:=by omega
 obtain ⟨k,hk⟩:∃ k:Nat,(if n<256 then 1 else if n<65536 then 2 else 3)=k:=⟨_,rfl⟩
 have h':K (.str (b8 (128+k)::m9 n k)) L:=by
   split at h
   · rename_i e;rw [if_pos e] at hk;subst hk;simpa [m9,show b8 129=129 from rfl] using h
   · rename_i e
     rw [if_neg e] at hk
     split at h
     · rename_i e2;rw [if_pos e2] at hk;subst hk;simpa [m9,show b8 130=130 from rfl] using h
     · rename_i e2
       rw [if_neg e2] at hk;subst hk
       simpa [m9,Nat.div_div_eq_div_mul,show b8 131=131 from rfl] using h
 have hk1:1≤k∧k≤3∧n / 2 ^ (8 * k)=0∧∀ j,1≤j→j<k→0<n / 2 ^ (8 * j):=by
   rw [← hk]
   split
   · refine ⟨by omega,by omega,by simp;omega,fun j a b=>by omega⟩
   · split
     · refine ⟨by omega,by omega,by simp;omega,fun j a b=>?_⟩
       have:j=1:=by omega
       subst this;simp;omega
     · refine ⟨by omega,by omega,by simp;omega,fun j a b=>?_⟩
       have:j=1∨j=2:=by omega
       rcases this with rfl|rfl<;>simp<;>omega
 obtain ⟨k1,k3,kz,kp⟩:=hk1
 replace h:=hid h'
 clear hk h' h1
 replace kz:=hid kz
 replace kp:=hid kp
 refine wk ?_
 refine ak (fun m T' L'=>∃ (i:Nat),m=k - i∧1≤i∧i≤k∧T'=[(3,.int .i64 (i:Int)),(0,.int .i64 (n:Int))]∧L=L') (CutL (b:=Nat.le_refl _)) ⟨1,rfl,Nat.le_refl _,k1,rfl,rfl⟩ ?_
 rintro _ _ _ ⟨i,rfl,hi1,hi,rfl,rfl⟩
 have w2:IntKind.i64.wrap ((i:Int)+1)=(i:Int)+1:=ab (by omega) (by omega)
 have w3:IntKind.i64.wrap (8 * (i:Int))=8 * (i:Int):=ab (by omega) (by omega)
 have w4:IntKind.i64.wrap (128+(i:Int))=128+(i:Int):=ab (by omega) (by omega)
 have w5:IntKind.u64.wrap (128+(i:Int))=((128+i:Nat):Int):=by
   rw [fE (by omega) (by omega)];simp
 have e1:(n:Int).fdiv (2 ^ min (8 * (i:Int)).toNat IntKind.i64.bits)=((n / 2 ^ (8 * i):Nat):Int):=by
   rw [show min (8 * (i:Int)).toNat IntKind.i64.bits=8 * i by simp [IntKind.bits];omega]
   rw [Int.fdiv_eq_ediv_of_nonneg _ (Int.le_of_lt (Int.pow_pos (by decide)))]
   norm_cast
 have g2:(0:Int)≤8 * (i:Int):=by omega
 obtain ⟨q,hq⟩:∃ q,n / 2 ^ (8 * i)=q:=⟨_,rfl⟩
 rw [hq] at e1
 by_cases hlt:i<k
 · have hp:0<q:=by rw [← hq];exact kp.out i hi1 hlt
   have g3:(0:Int)<(q:Int):=by omega
   clear hq
   refine wk ?_
   exact an _ _ _ (by omega) (CutL (b:=Nat.le_refl _)) ⟨i+1,rfl,by omega,hlt,rfl,rfl⟩
 · have hke:i=k:=by omega
   subst hke
   have hp:q=0:=by rw [← hq];exact kz.out
   subst hp
   have g3:¬ (0:Int)<((0:Nat):Int):=by decide
   have hpl:=CN n i
   clear hq hlt
   have kk1:=@hid _ (fun L K=>Cq (n:=128+i) (by omega) (L:=L) (K:=K))
   have kk2:=@hid _ (fun L K=>CO (n:=n) (k:=i) (by omega) (by omega) (by omega) (L:=L) (K:=K))
   refine wk ?_
   exact aq h.out
def MW:Except Int (Nat×Nat)→AV
 | .error e=>.tup [.int .i64 0,.int .i64 0,.int .i64 e]
 | .ok (n,a)=>.tup [.int .i64 (n:Int),.int .i64 (a:Int),.int .i64 0]
theorem FW {s:List UInt8} (hs:s.length≤1100000) {L:List Blk} {K:AV→List Blk→Prop} (h:K (MW (iK s)) L):ad Tryz.prog 99 [.str s] L K:=by
 unfold iK at h
 refine ac Ca (by simp [nk]) ?_
 simp only [nk,aj]
 by_cases h2:s.length<2
 · rw [if_pos h2] at h
   replace h:=hid h
   have g1:(s.length:Int)<2:=by omega
   clear h2
   refine wk ?_
   exact aq h.out
 rw [if_neg h2] at h
 have g1:¬ (s.length:Int)<2:=by omega
 have g2:(1:Int)<(s.length:Int):=by omega
 have g3:1<s.length:=by omega
 obtain ⟨c,hc⟩:∃ c,s.getD 1 0=c:=⟨_,rfl⟩
 obtain ⟨k,hk⟩:∃ k,c.toNat=k:=⟨_,rfl⟩
 simp only [hc,hk] at h
 have hk256:k<256:=by rw [← hk];exact c.toNat_lt
 have w1:IntKind.i64.wrap (k:Int)=(k:Int):=ab (by omega) (by omega)
 by_cases h3:k<128
 · rw [if_pos h3] at h
   replace h:=hid h
   have g4:(k:Int)<128:=by omega
   clear h3 h2
   refine wk ?_
   exact aq h.out
 rw [if_neg h3] at h
 have g4:¬ (k:Int)<128:=by omega
 by_cases h4:k=128∨132<k
 · rw [if_pos h4] at h
   replace h:=hid h
   obtain ⟨b,hb⟩:∃ b,decide ((k:Int)=128∨(132:Int)<(k:Int))=b:=⟨_,rfl⟩
   have hbt:b=true:=by rw [← hb,decide_eq_true_iff];omega
   subst hbt
   clear h4 h3 h2
   refine wk ?_
   exact aq h.out
 rw [if_neg h4] at h
 have g5:¬ (k:Int)=128:=by omega
 have g6:¬ (132:Int)<(k:Int):=by omega
 have w2:IntKind.i64.wrap ((k:Int) - 128)=((k - 128:Nat):Int):=by rw [ab (by omega) (by omega)];omega
 have w3:IntKind.i64.wrap ((k:Int) - 126)=((k - 126:Nat):Int):=by rw [ab (by omega) (by omega)];omega
 by_cases h5:s.length<k - 126
 · rw [if_pos h5] at h
   replace h:=hid h
   have kk1:Hid (∀ {L:List Blk} {K:AV→List Blk→Prop},K (.tup [.int .u64 0,.bool false]) L→ad Tryz.prog 75 [.str s,.int .i64 2,.int .i64 ((k - 128:Nat):Int)] L K):=@hid _ (by intro L K q;exact Hw (by omega) (by omega) (by omega) (by omega) q)
   clear h5 h4 h3 h2
   refine wk ?_
   exact aq h.out
 rw [if_neg h5] at h
 obtain ⟨n,hn⟩:∃ n,eU ((s.drop 2).take (k - 128))=n:=⟨_,rfl⟩
 have kk1:Hid (∀ {L:List Blk} {K:AV→List Blk→Prop},K (.tup [.int .u64 (n:Int),.bool true]) L→ad Tryz.prog 75 [.str s,.int .i64 2,.int .i64 ((k - 128:Nat):Int)] L K):=@hid _ (by intro L K q;exact JL (a:=2) (z:=k - 128) (by omega) (by omega) (by omega) (by omega) (by rw [hn];exact q))
 rw [hn] at h
 by_cases h6:1048576<n
 · rw [if_pos h6] at h
   replace h:=hid h
   have g7:(1048576:Int)<(n:Int):=by omega
   clear h6 h5 h4 h3 h2 hn
   refine wk ?_
   exact aq h.out
 · rw [if_neg h6] at h
   replace h:=hid h
   have g7:¬ (1048576:Int)<(n:Int):=by omega
   have w4:IntKind.i64.wrap (n:Int)=(n:Int):=ab (by omega) (by omega)
   clear h6 h5 h4 h3 h2 hn
   refine wk ?_
   exact aq h.out
theorem Gx {n:Int} (h0 : -9223372036854775808≤n) (h1:n<9223372036854775808) {L:List Blk} {K:AV→List Blk→Prop} (h:K (.str (Gw n)) L):ad Tryz.prog 19 [.int .i64 n] L K:=by
 obtain ⟨k,hk⟩:∃ k,Ie n 7 1=k:=⟨_,rfl⟩
 rw [Gw,hk] at h
 replace h:=hid h
 have w0:IntKind.u64.wrap n=((n % 18446744073709551616).toNat:Int):=by
   simp only [IntKind.wrap,IntKind.signed,IntKind.bits]
   simp
   omega
 have hm:(n % 18446744073709551616).toNat<18446744073709551616:=by omega
 obtain ⟨m,hmm⟩:∃ m,(n % 18446744073709551616).toNat=m:=⟨_,rfl⟩
 rw [hmm] at w0 hm h
 clear hmm
 refine ac EW (by simp [AO]) ?_
 simp only [AO,aj]
 refine wk ?_
 refine ak (fun m T' L'=>∃ (i:Nat),m=8 - i∧1≤i∧i≤8∧Hid (Ie n (8 - i) i=k)∧T'=[(3,.int .i64 (i:Int)),(0,.int .i64 n)]∧L=L') (CutL (b:=Nat.le_refl _)) ⟨1,rfl,Nat.le_refl _,by omega,hid hk,rfl,rfl⟩ ?_
 rintro _ _ _ ⟨i,rfl,hi1,hi,hI,rfl,rfl⟩
 have w2:IntKind.i64.wrap ((i:Int)+1)=(i:Int)+1:=ab (by omega) (by omega)
 have w3:IntKind.i64.wrap (8 * (i:Int))=8 * (i:Int):=ab (by omega) (by omega)
 have w4:IntKind.i64.wrap (8 * (i:Int) - 1)=8 * (i:Int) - 1:=ab (by omega) (by omega)
 have e1:min (8 * (i:Int) - 1).toNat IntKind.i64.bits=8 * i - 1:=by simp [IntKind.bits];omega
 have g2:(0:Int)≤8 * (i:Int) - 1:=by omega
 obtain ⟨q,hq⟩:∃ q,n.fdiv (2 ^ (8 * i - 1))=q:=⟨_,rfl⟩
 by_cases hlt:i<8∧q≠0∧q ≠ -1
 · obtain ⟨c1,c2,c3⟩:=hlt
   have hI2:=hI.out
   rw [show 8 - i=(7 - i)+1 by omega,Ie,hq,if_neg (by simp [c2,c3])] at hI2
   have g3:(i:Int)<8:=by omega
   replace hI2:=hid hI2
   clear hI
   refine wk ?_
   exact an _ _ _ (by omega) (CutL (b:=Nat.le_refl _)) ⟨i+1,rfl,by omega,by omega,hid (by rw [show 8 - (i+1)=7 - i by omega];exact hI2.out),rfl,rfl⟩
 · have hik:i=k:=by
     have hI2:=hI.out
     by_cases h8:i=8
     · subst h8
       exact hI2
     · rw [show 8 - i=(7 - i)+1 by omega,Ie,hq,if_pos (by omega)] at hI2
       exact hI2
   subst hik
   clear hI
   by_cases h8:(i:Int)<8
   · by_cases hq0:q=0
     · clear hlt
       subst hq0
       have kk1:=@hid _ (fun L K=>CO (n:=m) (k:=i) hi1 (by omega) hm (L:=L) (K:=K))
       refine wk ?_
       exact aq h.out
     · have hq1:q=-1:=by omega
       clear hlt
       subst hq1
       have kk1:=@hid _ (fun L K=>CO (n:=m) (k:=i) hi1 (by omega) hm (L:=L) (K:=K))
       refine wk ?_
       exact aq h.out
   · clear hlt
     have kk1:=@hid _ (fun L K=>CO (n:=m) (k:=i) hi1 (by omega) hm (L:=L) (K:=K))
     refine wk ?_
     exact aq h.out
def MU (o:Option Int):AV:=match o with
 | some k=>.tup [.int .i64 k,.bool true]
 | none=>.tup [.int .i64 0,.bool false]
theorem D9 {s:List UInt8} (hs:s.length≤1100000) {L:List Blk} {K:AV→List Blk→Prop} (h:K (MU (Gq s)) L):ad Tryz.prog 51 [.str s] L K:=by
 unfold Gq at h
 refine ac Cb (by simp [nn]) ?_
 simp only [nn,aj]
 by_cases hl:1≤s.length∧s.length≤8
 rotate_left
 · rw [if_neg (fun e=>hl ⟨e.1,e.2.1⟩)] at h
   replace h:=hid h
   have kk1:Hid (∀ {L:List Blk} {K:AV→List Blk→Prop},K (.tup [.int .u64 0,.bool false]) L→ad Tryz.prog 75 [.str s,.int .i64 0,.int .i64 (s.length:Int)] L K):=@hid _ (by intro L K q;exact Hw (by omega) (by omega) (by omega) (by omega) q)
   clear hl
   refine wk ?_
   exact aq h.out
 obtain ⟨l,hll⟩:∃ l,s.length=l:=⟨_,rfl⟩
 obtain ⟨u,hu⟩:∃ u,eU s=u:=⟨_,rfl⟩
 have hub:u<256 ^ l:=by rw [← hu,← hll];exact EN s
 have hsh:=HW (u:=u) (by omega) (show l≤8 by omega) hub
 have kk1:Hid (∀ {L:List Blk} {K:AV→List Blk→Prop},K (.tup [.int .u64 (u:Int),.bool true]) L→ad Tryz.prog 75 [.str s,.int .i64 0,.int .i64 (l:Int)] L K):=@hid _ (by
   intro L K q
   rw [← hll]
   refine JL (a:=0) (z:=s.length) (by omega) (by omega) (by omega) (by omega) ?_
   rw [List.drop_zero,List.take_length,hu]
   exact q)
 obtain ⟨n,hn⟩:∃ n,KA s=n:=⟨_,rfl⟩
 have hnn:(if u<2 ^ (8 * l - 1) then (u:Int) else (u:Int) - 2 ^ (8 * l))=n:=by rw [← hn,KA,hu,hll]
 rw [hnn] at hsh
 have w1:IntKind.i64.wrap (8 * (l:Int))=8 * (l:Int):=ab (by omega) (by omega)
 have w2:IntKind.i64.wrap (64 - 8 * (l:Int))=64 - 8 * (l:Int):=ab (by omega) (by omega)
 have e1:min (64 - 8 * (l:Int)).toNat IntKind.u64.bits=64 - 8 * l:=by simp [IntKind.bits];omega
 have e2:min (64 - 8 * (l:Int)).toNat IntKind.i64.bits=64 - 8 * l:=by simp [IntKind.bits];omega
 have g1:(0:Int)≤64 - 8 * (l:Int):=by omega
 have hnb : -9223372036854775808≤n∧n<9223372036854775808:=by
   have hl':l=1∨l=2∨l=3∨l=4∨l=5∨l=6∨l=7∨l=8:=by omega
   rw [← hnn]
   rcases hl' with rfl|rfl|rfl|rfl|rfl|rfl|rfl|rfl<;>simp at hub ⊢<;>split<;>omega
 rw [hn] at h
 by_cases hi:Gw n=s
 · rw [if_pos ⟨hl.1,hl.2,hi⟩] at h
   replace h:=hid h
   have kk2:Hid (∀ {L:List Blk} {K:AV→List Blk→Prop},K (.str s) L→ad Tryz.prog 19 [.int .i64 n] L K):=@hid _ (by intro L K q;exact Gx hnb.1 hnb.2 (by rw [hi];exact q))
   clear hi hn hnn hub hu hl
   refine wk ?_
   exact aq h.out
 · rw [if_neg (fun e=>hi e.2.2)] at h
   replace h:=hid h
   obtain ⟨x,hx⟩:∃ x,Gw n=x:=⟨_,rfl⟩
   have kk2:Hid (∀ {L:List Blk} {K:AV→List Blk→Prop},K (.str x) L→ad Tryz.prog 19 [.int .i64 n] L K):=@hid _ (by intro L K q;exact Gx hnb.1 hnb.2 (by rw [hx];exact q))
   rw [hx] at hi
   clear hx hn hnn hub hu hl
   refine wk ?_
   exact aq h.out
set_option maxHeartbeats 8000000
set_option maxRecDepth 100000
theorem Jw {t:Int} {d:List UInt8} {L:List Blk} {K:AV→List Blk→Prop} (h:K (.agg (ndA (.mk t d []))) L):ad Tryz.prog 18 [.int .i64 t,.str d] L K:=by
 rw [aM] at h
 replace h:=hid h
 refine ac DJ (by simp [yj]) ?_
 simp only [yj,aj]
 refine wk ?_
 exact ao (aa rfl h.out)
theorem Gb {d:List UInt8} {L:List Blk} {K:AV→List Blk→Prop} (h:K (.agg (ndA (aI d))) L):ad Tryz.prog 21 [.str d] L K:=by
 rw [aI,aM] at h
 replace h:=hid h
 have kk1:Hid (∀ {L:List Blk} {K:AV→List Blk→Prop},K (.agg [.int .i64 4,.str d,.sl [] 0 none]) L→ad Tryz.prog 18 [.int .i64 4,.str d] L K):=@hid _ (by intro L K q;exact Jw (by rw [aM];exact q))
 refine ac AY (by simp [j6]) ?_
 simp only [j6,aj]
 refine wk ?_
 exact ao (aa rfl h.out)
theorem CW {l:List Nd} {cap:Option Nat} (hl:l.length≤1100000) (H:∀ n∈l,∀ {cap:Option Nat} {L:List Blk} {K:AV→List Blk→Prop},K (.sl (ai n.kids) n.kids.length none) L→ad Tryz.prog 43 [.sl (ai n.kids) n.kids.length cap] L K)
   {L:List Blk} {K:AV→List Blk→Prop} (h:K (.sl (ai l) l.length none) L):ad Tryz.prog 43 [.sl (ai l) l.length cap] L K:=by
 replace h:=hid h
 replace H:=@hid _ @H
 refine ac DI (by simp [yi]) ?_
 simp only [yi,aj]
 refine wk ?_
 refine cj (l:=[]) (n:=0) 3 3 rfl (Nat.zero_mul 3).symm ?_
 refine ak (fun m T' L'=>∃ (k:Nat) (C:List AV) (X:List Blk),m=l.length - k∧k≤l.length∧C=ai (l.take k)∧T'=[(8,.int .i64 (k:Int)),(7,.int .i64 l.length),(6,.sl (ai l) l.length cap),(3,.gsl C k L.length 3)]∧L'=L++(.spare k 3::X)) (CutS (b:=by simp)) ⟨0,[],[],rfl,Nat.zero_le _,rfl,rfl,rfl⟩ ?_
 rintro _ _ _ ⟨k,C,X,rfl,hk,hC,rfl,rfl⟩
 by_cases hlt:k<l.length
 · have g1:(k:Int)<(l.length:Int):=by omega
   have g2:IntKind.i64.wrap ((k:Int)+1)=(k:Int)+1:=ab (by omega) (by omega)
   have e3:=db hlt
   have e4:k * 3+3≤(ai l).length:=by rw [bU];omega
   obtain ⟨⟨t,d,ks⟩,ha⟩:∃ a,l.getD k aB=a:=⟨_,rfl⟩
   have htk:ai (l.take (k+1))=ai (l.take k)++[.int .i64 t,.str d,.sl (ai ks) ks.length none]:=by
     rw [List.take_succ_eq_append_getElem hlt,dA,show l[k]=.mk t d ks by rw [← ha];simp [hlt],ai,aM]
     rfl
   have kk1:Hid (∀ {L:List Blk} {K:AV→List Blk→Prop},K (.sl (ai ks) ks.length none) L→ad Tryz.prog 43 [.sl (ai ks) ks.length none] L K):=@hid _ (by
     intro L K q
     exact H.out (.mk t d ks) (by rw [← ha];simp [hlt]) q)
   rw [ha,aM] at e3
   have e0:=aS ks
   replace htk:=hid htk
   replace hC:=hid hC
   clear ha
   refine wk ?_
   exact an _ _ _ (by omega) (CutL (b:=by simp)) ⟨k+1,_,_,rfl,hlt,by rw [htk.out,hC.out],rfl,rfl⟩
 · have hke:k=l.length:=by omega
   subst hke
   have g1:¬ (l.length:Int)<(l.length:Int):=by omega
   rw [List.take_length] at hC
   subst hC
   have e0:=aS l
   refine wk ?_
   refine ao ?_
   simp only [AV.frz,e0]
   exact aa (by simp only [AV.refs,cf]) h.out
theorem Fv {cap:Option Nat} {L:List Blk} {K:AV→List Blk→Prop} (h:K (.sl [] 0 none) L):ad Tryz.prog 43 [.sl [] 0 cap] L K:=CW (l:=[]) (by simp) (fun n hn=>by cases hn) h
theorem Ho:∀ (h:Nat) {l:List Nd} {cap:Option Nat} (hl:l.length≤1100000) (ho:∀ n∈l,okN h n) {L:List Blk} {K:AV→List Blk→Prop} (hK:K (.sl (ai l) l.length none) L),ad Tryz.prog 43 [.sl (ai l) l.length cap] L K
 | 0,l,cap,hl,ho,L,K,hK=>CW hl (fun n hn=>by
     intro cap L K q
     obtain ⟨t,d,ks⟩:=n
     obtain ⟨_,rfl,_⟩:=ho _ hn
     exact Fv q) hK
 | h+1,l,cap,hl,ho,L,K,hK=>CW hl (fun n hn=>by
     intro cap L K q
     obtain ⟨t,d,ks⟩:=n
     rcases ho _ hn with ⟨_,rfl,_⟩|⟨_,_,hk,hk2⟩
     · exact Fv q
     · exact Ho h (l:=ks) (by omega) hk2 q) hK
theorem Hd {h:Nat} {t:Int} {l:List Nd} {cap:Option Nat} (hl:l.length≤1100000) (ho:∀ n∈l,okN h n) {L:List Blk} {K:AV→List Blk→Prop} (hK:K (.agg (ndA (.mk t [] l))) L):ad Tryz.prog 24 [.int .i64 t,.sl (ai l) l.length cap] L K:=by
 rw [aM] at hK
 replace hK:=hid hK
 have e0:=aS l
 refine ac EU (by simp [AM]) ?_
 simp only [AM,aj]
 have kk1:=@hid _ (fun L K=>Ho h (cap:=cap) hl ho (L:=L) (K:=K))
 refine wk ?_
 refine ao ?_
 simp only [AV.frz,AV.frzL,e0]
 exact aa (by simp only [AV.refs,AV.refsL,cf];rfl) hK.out
theorem Ct (n:Nat):(iF n).length≤4:=by
 unfold iF
 repeat' split
 all_goals simp
theorem CM:∀ (h:Nat) (n:Nd),(bF h n).2=0→(bF h n).1.length≤1048581
 | 0,.mk t d ks,h=>by
   rw [bF] at h ⊢
   split at h
   · cases h
   rename_i e
   have:=Ct d.length
   rw [if_neg e];simp;omega
 | k+1,.mk t d ks,h=>by
   rw [bF] at h ⊢
   split at h
   · rename_i e;exact absurd h e
   rename_i e
   rw [if_neg e]
   split at h
   · cases h
   rename_i e2
   have:=Ct (em (bF k) d ks).1.length
   rw [if_neg e2];simp;omega
theorem D2 {t:Int} {d:List UInt8} {dep:Int} (h:Nat) (ht:t=2∨t=4) (hd:(d.length:Int)≤140737488351232) (h0:1≤dep) (h64:dep≤64) {cap:Option Nat} {L:List Blk} {K:AV→List Blk→Prop} (hK:K (.tup [.str (bF h (.mk t d [])).1,.int .i64 (bF h (.mk t d [])).2]) L) :
   ad Tryz.prog 44 [.agg [.int .i64 t,.str d,.sl [] 0 cap],.int .i64 dep] L K:=by
 have hp:∀ h,bF h (.mk t d [])=if 1048576<d.length then ([],5) else (b8 t.toNat::(iF d.length++d),0):=fun h=>by
   cases h with
   | zero=>rfl
   | succ h=>rw [bF,if_neg (by simp [em])];rfl
 rw [hp] at hK
 have g1:¬ (64:Int)<dep:=by omega
 have g2:¬ t<0:=by omega
 have g3:¬ (255:Int)<t:=by omega
 have g4:IntKind.i64.wrap (BitVec.ofInt IntKind.i64.bits t &&& BitVec.ofInt IntKind.i64.bits 31).toNat=t:=by rcases ht with rfl|rfl<;>decide
 have g5:¬ t=31:=by omega
 have g6:IntKind.i64.wrap (BitVec.ofInt IntKind.i64.bits t &&& BitVec.ofInt IntKind.i64.bits 32).toNat=0:=by rcases ht with rfl|rfl<;>decide
 have w0:IntKind.u64.wrap t=(t.toNat:Int):=by rcases ht with rfl|rfl<;>decide
 have htn:t.toNat<18446744073709551616:=by omega
 have e0:=yx d
 have e1:=Er d
 have e3:(u8s d).take d.length=u8s d:=by rw [← vm d,List.take_length]
 by_cases hl:1048576<d.length
 · rw [if_pos hl] at hK
   replace hK:=hid hK
   have g7:(1048576:Int)<(d.length:Int):=by omega
   clear hp hl ht
   refine ac ni (by simp [fN]) ?_
   simp only [fN,aj]
   refine wk ?_
   refine ak (fun m T' L'=>∃ (X:List Blk),m=0∧T'=[(57,.int .i64 0),(56,.int .i64 0),(6,.gsl (u8s d) d.length (L.length+1) 1),(2,.ptr L.length 0)]∧L'=L++[.cells [.int .i64 t,.str d,.sl [] 0 cap],.spare d.length 1]) (CutS (b:=by simp)) ⟨[],rfl,rfl,rfl⟩ ?_
   rintro _ _ _ ⟨X,rfl,rfl,rfl⟩
   refine wk ?_
   exact aa rfl hK.out
 · rw [if_neg hl] at hK
   replace hK:=hid hK
   have g7:¬ (1048576:Int)<(d.length:Int):=by omega
   have g8:=Ct d.length
   clear hp ht
   refine ac ni (by simp [fN]) ?_
   simp only [fN,aj]
   refine wk ?_
   refine ak (fun m T' L'=>∃ (X:List Blk),m=0∧T'=[(57,.int .i64 0),(56,.int .i64 0),(6,.gsl (u8s d) d.length (L.length+1) 1),(2,.ptr L.length 0)]∧L'=L++[.cells [.int .i64 t,.str d,.sl [] 0 cap],.spare d.length 1]) (CutS (b:=by simp)) ⟨[],rfl,rfl,rfl⟩ ?_
   rintro _ _ _ ⟨X,rfl,rfl,rfl⟩
   have kk1:=@hid _ (fun L K=>Cq htn (L:=L) (K:=K))
   have kk2:=@hid _ (fun L K=>FD (n:=d.length) (by omega) (L:=L) (K:=K))
   refine wk ?_
   exact aa rfl hK.out
theorem Es (s:List UInt8):AV.frzL (u8s s)=u8s s:=by rw [AV.frzL_eq,u8s,List.map_map];rfl
theorem Ep (s:List UInt8):(u8s s).all AV.one=true:=by
 rw [List.all_eq_true]
 intro a ha
 simp only [u8s,List.mem_map] at ha
 obtain ⟨c,_,rfl⟩:=ha
 rfl
theorem G9 (a b:List UInt8):u8s (a++b)=u8s a++u8s b:=by simp [u8s]
theorem H3 {t:Int} {ks:List Nd} {p:Nd→List UInt8×Int} {dep:Int} (ht:t=48∨t=49) (hks:ks.length≤1100000) (hp:∀ n,(p n).2=0→(p n).1.length≤1048581) (h0:1≤dep) (h64:dep≤63)
   (H:∀ n∈ks,∀ (L:List Blk) (K:AV→List Blk→Prop),K (.tup [.str (p n).1,.int .i64 (p n).2]) L→ad Tryz.prog 44 [.agg (ndA n),.int .i64 (dep+1)] L K) {R:List UInt8×Int}
   (hR:(if (em p [] ks).2≠0 then ([],(em p [] ks).2) else if 1048576<(em p [] ks).1.length then ([],5) else (b8 t.toNat::(iF (em p [] ks).1.length++(em p [] ks).1),0))=R)
   {cap:Option Nat} {L:List Blk} {K:AV→List Blk→Prop} (hK:K (.tup [.str R.1,.int .i64 R.2]) L) :
   ad Tryz.prog 44 [.agg [.int .i64 t,.str [],.sl (ai ks) ks.length cap],.int .i64 dep] L K:=by
 obtain ⟨Q,hQ⟩:∃ Q,em p [] ks=Q:=⟨_,rfl⟩
 rw [hQ] at hR
 replace hK:=hid hK
 replace hR:=hid hR
 replace H:=@hid _ @H
 replace hp:=hid hp
 have g1:¬ (64:Int)<dep:=by omega
 have g2:¬ t<0:=by omega
 have g3:¬ (255:Int)<t:=by omega
 have g4:IntKind.i64.wrap (BitVec.ofInt IntKind.i64.bits t &&& BitVec.ofInt IntKind.i64.bits 31).toNat=t - 32:=by rcases ht with rfl|rfl<;>decide
 have g5:¬ t - 32=31:=by omega
 have g6:IntKind.i64.wrap (BitVec.ofInt IntKind.i64.bits t &&& BitVec.ofInt IntKind.i64.bits 32).toNat=32:=by rcases ht with rfl|rfl<;>decide
 have w0:IntKind.u64.wrap t=(t.toNat:Int):=by rcases ht with rfl|rfl<;>decide
 have w1:IntKind.i64.wrap (dep+1)=dep+1:=ab (by omega) (by omega)
 have htn:t.toNat<18446744073709551616:=by omega
 have e00:u8s []=[]:=rfl
 clear ht
 refine ac ni (by simp [fN]) ?_
 simp only [fN,aj]
 refine wk ?_
 refine ak (fun m T' L'=>∃ (i z:Nat) (acc:List UInt8) (C:List AV) (X:List Blk),m=ks.length - i∧i≤ks.length∧Hid (em p acc (ks.drop i)=Q)∧z≤i * 1048581∧Hid (C=u8s acc∧z=acc.length)∧T'=[(57,.int .i64 (i:Int)),(56,.int .i64 ks.length),(55,.sl (ai ks) ks.length cap),(6,.gsl C z (L.length+1) 1),(2,.ptr L.length 0),(1,.int .i64 dep)]∧L'=L++(.cells [.int .i64 t,.str [],.sl (ai ks) ks.length cap] :: .spare z 1::X)) (CutS (b:=by simp)) ⟨0,0,[],[],[],rfl,Nat.zero_le _,hid (by simpa using hQ),by simp,hid ⟨rfl,rfl⟩,rfl,rfl⟩ ?_
 rintro _ _ _ ⟨i,z,acc,C,X,rfl,hi,hI,hal,hCz,rfl,rfl⟩
 by_cases hlt:i<ks.length
 · have g7:(i:Int)<(ks.length:Int):=by omega
   have w2:IntKind.i64.wrap ((i:Int)+1)=(i:Int)+1:=ab (by omega) (by omega)
   have e3:=db hlt
   have e4:i * 3+3≤(ai ks).length:=by rw [bU];omega
   obtain ⟨n,hn⟩:∃ n,ks.getD i aB=n:=⟨_,rfl⟩
   have hnm:n∈ks:=by rw [← hn];simp [hlt]
   have hdr:ks.drop i=n::ks.drop (i+1):=by rw [List.drop_eq_getElem_cons hlt,← hn];simp [hlt]
   rw [hn,aP] at e3
   have hI2:=hI.out
   rw [hdr,em] at hI2
   obtain ⟨⟨s,e⟩,hpn⟩:∃ q,p n=q:=⟨_,rfl⟩
   have kk1:Hid (∀ {L:List Blk} {K:AV→List Blk→Prop},K (.tup [.str s,.int .i64 e]) L→ad Tryz.prog 44 [.agg [.int .i64 n.tag,.str n.data,.sl (ai n.kids) n.kids.length none],.int .i64 (dep+1)] L K):=@hid _ (by
     intro L K q
     have:=H.out n hnm L K
     rw [aP,hpn] at this
     exact this q)
   have hsl:e=0→s.length≤1048581:=fun e0=>by
     have:=hp.out n
     rw [hpn] at this
     exact this e0
   rw [hpn] at hI2
   simp only at hI2
   clear hI hdr hn hnm
   by_cases he:e=0
   · subst he
     rw [if_neg (by simp)] at hI2
     have hsl:=hsl rfl
     have f1:=Es s
     have f2:=Ep s
     have f3:z+s.length≤(i+1) * 1048581:=by omega
     replace hI2:=hid hI2
     refine wk ?_
     exact an _ _ _ (by omega) (CutL (b:=by simp)) ⟨i+1,z+s.length,acc++s,C++u8s s,_,rfl,hlt,hI2,f3,hid ⟨by rw [hCz.out.1,G9],by rw [hCz.out.2,List.length_append]⟩,rfl,rfl⟩
   · rw [if_pos he] at hI2
     have hR2:=hR.out
     rw [← hI2,if_pos he] at hR2
     have h':=hK.out
     rw [← hR2] at h'
     replace h':=hid h'
     clear hI2 hR2
     refine wk ?_
     exact aa rfl h'.out
 · have hke:i=ks.length:=by omega
   subst hke
   have g7:¬ (ks.length:Int)<(ks.length:Int):=by omega
   have hI2:=hI.out
   rw [List.drop_length,em] at hI2
   have hR2:=hR.out
   rw [← hI2,if_neg (by simp)] at hR2
   simp only at hR2
   obtain ⟨rfl,rfl⟩:=hCz.out
   have e0:=yx acc
   have e1:=Er acc
   have e3:(u8s acc).take acc.length=u8s acc:=by rw [← vm acc,List.take_length]
   have h':=hK.out
   clear hI hI2 hCz
   by_cases hl:1048576<acc.length
   · rw [if_pos hl] at hR2
     rw [← hR2] at h'
     replace h':=hid h'
     have g8:(1048576:Int)<(acc.length:Int):=by omega
     clear hl hR2
     refine wk ?_
     exact aa rfl h'.out
   · rw [if_neg hl] at hR2
     rw [← hR2] at h'
     replace h':=hid h'
     have g8:¬ (1048576:Int)<(acc.length:Int):=by omega
     have g9:=Ct acc.length
     clear hR2
     have kk1:=@hid _ (fun L K=>Cq htn (L:=L) (K:=K))
     have kk2:=@hid _ (fun L K=>FD (n:=acc.length) (by omega) (L:=L) (K:=K))
     refine wk ?_
     exact aa rfl h'.out
theorem Ln:∀ (h:Nat) {n:Nd} {dep:Int} (ho:okN h n) (h0:1≤dep) (h64:dep+h≤64) {L:List Blk} {K:AV→List Blk→Prop} (hK:K (.tup [.str (bF h n).1,.int .i64 (bF h n).2]) L),ad Tryz.prog 44 [.agg (ndA n),.int .i64 dep] L K
 | 0,.mk t d ks,dep,ho,h0,h64,L,K,hK=>by
   obtain ⟨ht,rfl,hd⟩:=ho
   rw [aM]
   exact D2 0 ht hd h0 (by simpa using h64) hK
 | h+1,.mk t d ks,dep,ho,h0,h64,L,K,hK=>by
   rw [aM]
   rcases ho with ⟨ht,rfl,hd⟩|⟨ht,rfl,hk,hk2⟩
   · exact D2 (h+1) ht hd h0 (by omega) hK
   · exact H3 (p:=bF h) ht hk (CM h) h0 (by omega) (fun n hn=>by
       intro L K q
       exact Ln h (hk2 n hn) (by omega) (by omega) q) rfl (by rw [bF] at hK;exact hK)
theorem Lu {n:Nd} (ho:okN 4 n) {L:List Blk} {K:AV→List Blk→Prop} (hK:K (.tup [.str (bF 4 n).1,.int .i64 (bF 4 n).2]) L):ad Tryz.prog 26 [.agg (ndA n)] L K:=by
 obtain ⟨⟨s,e⟩,hp⟩:∃ q,bF 4 n=q:=⟨_,rfl⟩
 rw [hp] at hK
 replace hK:=hid hK
 have kk1:Hid (∀ {L:List Blk} {K:AV→List Blk→Prop},K (.tup [.str s,.int .i64 e]) L→ad Tryz.prog 44 [.agg [.int .i64 n.tag,.str n.data,.sl (ai n.kids) n.kids.length none],.int .i64 1] L K):=@hid _ (by
     intro L K q
     have:=@Ln 4 n 1 ho (by omega) (by omega) L K
     rw [aP,hp] at this
     exact this q)
 rw [aP]
 refine ac EV (by simp [AN]) ?_
 simp only [AN,aj]
 refine wk ?_
 exact aa rfl hK.out
set_option maxHeartbeats 8000000
set_option maxRecDepth 100000
def iO (a:Atr):Nd:=.mk 48 [] [aI a.1,.mk 49 [] (a.2.map aI)]
theorem vp {s:List UInt8} (h:(s.length:Int)≤140737488351232):∀ k:Nat,okN k (aI s)
 | 0=>⟨.inr rfl,rfl,h⟩
 | _+1=>.inl ⟨.inr rfl,rfl,h⟩
theorem KQ {l:List (List UInt8)} {cap:Option Nat} (hl:l.length≤1100000) {L:List Blk} {K:AV→List Blk→Prop} (h:K (.sl (ai (l.map aI)) l.length none) L):ad Tryz.prog 25 [.sl (l.map AV.str) l.length cap,.func 21 []] L K:=by
 replace h:=hid h
 refine ac fk (by simp [bL]) ?_
 simp only [bL,aj]
 refine wk ?_
 refine cj (l:=[]) (n:=0) 5 3 rfl (Nat.zero_mul 3).symm ?_
 refine ak (fun m T' L'=>∃ (k:Nat) (C:List AV) (X:List Blk),m=l.length - k∧k≤l.length∧C=ai ((l.take k).map aI)∧T'=[(10,.int .i64 (k:Int)),(9,.int .i64 l.length),(8,.sl (l.map AV.str) l.length cap),(5,.gsl C k L.length 3),(1,.func 21 [])]∧L'=L++(.spare k 3::X)) (CutS (b:=by simp)) ⟨0,[],[],rfl,Nat.zero_le _,rfl,rfl,rfl⟩ ?_
 rintro _ _ _ ⟨k,C,X,rfl,hk,hC,rfl,rfl⟩
 by_cases hlt:k<l.length
 · have g1:(k:Int)<(l.length:Int):=by omega
   have g2:IntKind.i64.wrap ((k:Int)+1)=(k:Int)+1:=ab (by omega) (by omega)
   obtain ⟨s,hs⟩:∃ s,l.getD k []=s:=⟨_,rfl⟩
   have e3:(l.map AV.str).getD k .undef=.str s:=by rw [← hs];simp [hlt]
   have e4:k<(l.map AV.str).length:=by simpa using hlt
   have htk:ai ((l.take (k+1)).map aI)=ai ((l.take k).map aI)++[.int .i64 4,.str s,.sl [] 0 none]:=by
     rw [List.take_succ_eq_append_getElem hlt,List.map_append,dA,show l[k]=s by rw [← hs];simp [hlt]]
     rfl
   have kk1:Hid (∀ {L:List Blk} {K:AV→List Blk→Prop},K (.agg [.int .i64 4,.str s,.sl [] 0 none]) L→ad Tryz.prog 21 [.str s] L K):=@hid _ (by intro L K q;exact Gb (by rw [aI,aM];exact q))
   replace htk:=hid htk
   replace hC:=hid hC
   clear hs
   refine wk ?_
   exact an _ _ _ (by omega) (CutL (b:=by simp)) ⟨k+1,_,_,rfl,hlt,by rw [htk.out,hC.out],rfl,rfl⟩
 · have hke:k=l.length:=by omega
   subst hke
   have g1:¬ (l.length:Int)<(l.length:Int):=by omega
   rw [List.take_length] at hC
   subst hC
   have e0:=aS (l.map aI)
   refine wk ?_
   refine ao ?_
   simp only [AV.frz,e0]
   exact aa (by simp only [AV.refs,cf]) h.out
theorem L9 {a:Atr} (h1:(a.1.length:Int)≤140737488351232) (h2:a.2.length≤1100000) (h3:∀ v∈a.2,(v.length:Int)≤140737488351232) {L:List Blk} {K:AV→List Blk→Prop} (h:K (.agg (ndA (iO a))) L):ad Tryz.prog 23 [.agg (atA a)] L K:=by
 obtain ⟨n,vs⟩:=a
 simp only at h1 h2 h3
 have hv:∀ k∈vs.map aI,okN 0 k:=fun k hk=>by
   obtain ⟨v,hv,rfl⟩:=List.mem_map.1 hk
   exact vp (h3 v hv) 0
 have hk2:∀ k∈[aI n,.mk 49 [] (vs.map aI)],okN 1 k:=fun k hk=>by
   simp only [List.mem_cons,List.not_mem_nil,or_false] at hk
   rcases hk with rfl|rfl
   · exact vp h1 1
   · exact .inr ⟨.inr rfl,rfl,by simpa using h2,hv⟩
 have kk1:Hid (∀ {L:List Blk} {K:AV→List Blk→Prop},K (.agg [.int .i64 4,.str n,.sl [] 0 none]) L→ad Tryz.prog 21 [.str n] L K):=@hid _ (by intro L K q;exact Gb (by rw [aI,aM];exact q))
 have kk2:Hid (∀ {L:List Blk} {K:AV→List Blk→Prop},K (.sl (ai (vs.map aI)) vs.length none) L→ad Tryz.prog 25 [.sl (vs.map AV.str) vs.length none,.func 21 []] L K):=@hid _ (by intro L K q;exact KQ (by omega) q)
 have kk3:Hid (∀ {L:List Blk} {K:AV→List Blk→Prop},K (.agg [.int .i64 49,.str [],.sl (ai (vs.map aI)) vs.length none]) L→ad Tryz.prog 24 [.int .i64 49,.sl (ai (vs.map aI)) vs.length none] L K):=@hid _ (by
   intro L K q
   have:=Hd (h:=0) (t:=49) (l:=vs.map aI) (cap:=none) (L:=L) (K:=K) (by rw [List.length_map];omega) hv
   rw [aM,List.length_map] at this
   exact this q)
 have kk4:Hid (∀ {cap:Option Nat} {L:List Blk} {K:AV→List Blk→Prop},K (.agg [.int .i64 48,.str [],.sl [.int .i64 4,.str n,.sl [] 0 none,.int .i64 49,.str [],.sl (ai (vs.map aI)) vs.length none] 2 none]) L→ad Tryz.prog 24 [.int .i64 48,.sl [.int .i64 4,.str n,.sl [] 0 none,.int .i64 49,.str [],.sl (ai (vs.map aI)) vs.length none] 2 cap] L K):=@hid _ (by
   intro cap L K q
   have:=Hd (h:=1) (t:=48) (l:=[aI n,.mk 49 [] (vs.map aI)]) (cap:=cap) (L:=L) (K:=K) (by simp) hk2
   rw [aM] at this
   simp only [ai,aI,aM,List.length_map,List.append_nil,List.cons_append,List.nil_append,List.length_cons,List.length_nil] at this
   exact this q)
 have h':K (.agg [.int .i64 48,.str [],.sl [.int .i64 4,.str n,.sl [] 0 none,.int .i64 49,.str [],.sl (ai (vs.map aI)) vs.length none] 2 none]) L:=by
   rw [iO,aM] at h
   simp only [ai,aI,aM,List.length_map,List.append_nil,List.cons_append,List.nil_append,List.length_cons,List.length_nil] at h
   exact h
 replace h:=hid h'
 have e0:=aS (vs.map aI)
 have e1:=fun p=>cf p (vs.map aI)
 clear h1 h2 h3 hv hk2 h'
 refine ac vA (by simp [fP]) ?_
 simp only [fP,aj]
 refine wk ?_
 refine aa ?_ h.out
 simp only [AV.refs,AV.refsL,e1];rfl
theorem KR {l:List Atr} {cap:Option Nat} (hl:l.length≤1100000) (hs:∀ a∈l,(a.1.length:Int)≤140737488351232∧a.2.length≤1100000∧∀ v∈a.2,(v.length:Int)≤140737488351232) {L:List Blk} {K:AV→List Blk→Prop} (h:K (.sl (ai (l.map iO)) l.length none) L):ad Tryz.prog 22 [.sl (bI l) l.length cap,.func 23 []] L K:=by
 replace h:=hid h
 replace hs:=hid hs
 refine ac eN (by simp [bA]) ?_
 simp only [bA,aj]
 refine wk ?_
 refine cj (l:=[]) (n:=0) 5 3 rfl (Nat.zero_mul 3).symm ?_
 refine ak (fun m T' L'=>∃ (k:Nat) (C:List AV) (X:List Blk),m=l.length - k∧k≤l.length∧C=ai ((l.take k).map iO)∧T'=[(10,.int .i64 (k:Int)),(9,.int .i64 l.length),(8,.sl (bI l) l.length cap),(5,.gsl C k L.length 3),(1,.func 23 [])]∧L'=L++(.spare k 3::X)) (CutS (b:=by simp)) ⟨0,[],[],rfl,Nat.zero_le _,rfl,rfl,rfl⟩ ?_
 rintro _ _ _ ⟨k,C,X,rfl,hk,hC,rfl,rfl⟩
 by_cases hlt:k<l.length
 · have g1:(k:Int)<(l.length:Int):=by omega
   have g2:IntKind.i64.wrap ((k:Int)+1)=(k:Int)+1:=ab (by omega) (by omega)
   have e3:=vu hlt
   have e4:k * 2+2≤(bI l).length:=by rw [AA];omega
   obtain ⟨⟨n,vs⟩,ha⟩:∃ a,l.getD k ([],[])=a:=⟨_,rfl⟩
   have hm:=hs.out (n,vs) (by rw [← ha];simp [hlt])
   obtain ⟨ks,hks⟩:∃ ks,ai [aI n,.mk 49 [] (vs.map aI)]=ks:=⟨_,rfl⟩
   have htk:ai ((l.take (k+1)).map iO)=ai ((l.take k).map iO)++[.int .i64 48,.str [],.sl ks 2 none]:=by
     rw [List.take_succ_eq_append_getElem hlt,List.map_append,dA,show l[k]=(n,vs) by rw [← ha];simp [hlt],← hks]
     simp only [List.map_cons,List.map_nil,ai,iO,aM,List.append_nil]
     rfl
   have kk1:Hid (∀ {L:List Blk} {K:AV→List Blk→Prop},K (.agg [.int .i64 48,.str [],.sl ks 2 none]) L→ad Tryz.prog 23 [.agg [.str n,.sl (vs.map AV.str) vs.length none]] L K):=@hid _ (by
     intro L K q
     refine L9 (a:=(n,vs)) hm.1 hm.2.1 hm.2.2 ?_
     rw [iO,aM,hks];exact q)
   have e0:AV.frzL ks=ks:=by rw [← hks];exact aS _
   rw [ha] at e3
   simp only [atA] at e3
   replace htk:=hid htk
   replace hC:=hid hC
   clear ha hks hm
   refine wk ?_
   exact an _ _ _ (by omega) (CutL (b:=by simp)) ⟨k+1,_,_,rfl,hlt,by rw [htk.out,hC.out],rfl,rfl⟩
 · have hke:k=l.length:=by omega
   subst hke
   have g1:¬ (l.length:Int)<(l.length:Int):=by omega
   rw [List.take_length] at hC
   subst hC
   have e0:=aS (l.map iO)
   refine wk ?_
   refine ao ?_
   simp only [AV.frz,e0]
   exact aa (by simp only [AV.refs,cf]) h.out
end Go.Proofs.YtgpnbkdcdmfgcaaGreat.Av
