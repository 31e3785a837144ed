/- Joined texts of the walk, made small by a program. -/
import Derived.Test.YtobihfefmlgaoaaGreatRk5
import Derived.Test.YtobihfefmlgaoaaGreatRk6
import Derived.Test.YtobihfefmlgaoaaGreatRk4
import Derived.Test.YtobihfefmlgaoaaGreatRows
import Derived.KernelRfl
set_option linter.unusedSimpArgs false
set_option linter.unusedVariables false
namespace Go.Proofs.YtobihfefmlgaoaaGreat.Av
open Go
set_option maxHeartbeats 8000000
set_option maxRecDepth 100000
inductive Nd where
 | mk (tag:Int) (data:List UInt8) (kids:List Nd)
def Nd.tag:Nd->Int
 | .mk t _ _=>t
def Nd.data:Nd->List UInt8
 | .mk _ d _=>d
def Nd.kids:Nd->List Nd
 | .mk _ _ k=>k
abbrev bd:Nd:=.mk 0 [] []
instance:Inhabited Nd:=⟨bd⟩
def b8 (n:Nat):UInt8:=UInt8.ofNat n
def rH (n:Nat):List UInt8 :=
 if n<128 then [b8 n] else if n<256 then [129,b8 n] else if n<65536 then [130,b8 (n / 256),b8 n] else [131,b8 (n / 65536),b8 (n / 256),b8 n]
def iN (p:Nd->List UInt8×Int):List UInt8->List Nd->List UInt8×Int
 | acc,[]=>(acc,0)
 | acc,n::l=>if (p n).2≠0 then ([],(p n).2) else iN p (acc++(p n).1) l
def cM:Nat->Nd->List UInt8×Int
 | 0,.mk t d _=>if 1048576<d.length then ([],5) else (b8 t.toNat::(rH d.length++d),0)
 | h+1,.mk t d ks=>if (iN (cM h) d ks).2≠0 then ([],(iN (cM h) d ks).2) else if 1048576<(iN (cM h) d ks).1.length then ([],5) else (b8 t.toNat::(rH (iN (cM h) d ks).1.length++(iN (cM h) d ks).1),0)
def okN:Nat->Nd->Prop
 | 0,.mk t d ks=>(t=2\/t=4)/\ks=[]/\(d.length:Int)<=140737488351232
 | h+1,.mk t d ks=>((t=2\/t=4)/\ks=[]/\(d.length:Int)<=140737488351232)\/((t=48\/t=49)/\d=[]/\ks.length<=1100000/\∀ k∈ks,okN h k)
def bC (s:List UInt8):Nd:=.mk 4 s []
def kw (s:List UInt8):Nat:=s.foldl (fun n c=>256 * n+c.toNat) 0
def rP (s:List UInt8):Except Int (Nat×Nat) :=
 if s.length<2 then .error 3 else
 let k:=(s.getD 1 0).toNat
 if k<128 then .ok (k,2) else if k=128\/132<k then .error 8 else
 if s.length<k - 126 then .error 3 else
 if 1048576<kw ((s.drop 2).take (k - 128)) then .error 5 else .ok (kw ((s.drop 2).take (k - 128)),k - 126)
def lh (p:List UInt8->Except Int (Nd×List UInt8)):Nat->List UInt8->Except Int (List Nd)
 | _,[]=>.ok []
 | 0,_=>.ok []
 | f+1,s=>match p s with
   | .error e=>.error e
   | .ok (n,r)=>match lh p f r with
     | .error e=>.error e
     | .ok l=>.ok (n::l)
def gH:Nat->List UInt8->Except Int (Nd×List UInt8)
 | 0,_=>.error 6
 | f+1,s=>if s=[] then .error 3 else
   let t:=(s.getD 0 0).toNat
   if t % 32=31 then .error 7 else
   match rP s with
   | .error e=>.error e
   | .ok (size,a)=>if s.length<a+size then .error 3 else
     if t / 32 % 2=0 then .ok (.mk t ((s.drop a).take size) [],s.drop (a+size))
     else match lh (gH f) size ((s.drop a).take size) with
      | .error e=>.error e
      | .ok ks=>.ok (.mk t [] ks,s.drop (a+size))
def uN (s:List UInt8):Except Int Nd:=match gH 64 s with
 | .error e=>.error e
 | .ok (n,r)=>if r=[] then .ok n else .error 4
def yO (n:Nat):Nat->List UInt8
 | 0=>[]
 | k+1=>yO (n / 256) k++[b8 n]
def abd (n:Int):Nat->Nat->Nat
 | 0,k=>k
 | f+1,k=>if n.fdiv (2 ^ (8 * k - 1))=0\/n.fdiv (2 ^ (8 * k - 1))=-1 then k else abd n f (k+1)
def YV (n:Int):List UInt8:=yO (n % 18446744073709551616).toNat (abd n 7 1)
def aed (s:List UInt8):Int:=if kw s<2 ^ (8 * s.length - 1) then (kw s:Int) else (kw s:Int) - 2 ^ (8 * s.length)
def YM (s:List UInt8):Option Int:=if 1<=s.length/\s.length<=8/\YV (aed s)=s then some (aed s) else none
mutual
def ndA:Nd->List AV
 | .mk t d ks=>[.int .i64 t,.str d,.sl (aC ks) (aew ks) none]
def aC:List Nd->List AV
 | []=>[]
 | n::l=>ndA n++aC l
def aew:List Nd->Nat
 | []=>0
 | _::l=>aew l+1
end
theorem ZZ:∀ l:List Nd,aew l=l.length
 | []=>rfl
 | _::l=>by simp only [aew,ahD,ZZ l]
theorem bG (t:Int) (d:List UInt8) (ks:List Nd):ndA (.mk t d ks)=[.int .i64 t,.str d,.sl (aC ks) ks.length none]:=by rw [ndA,ZZ]
theorem bJ (n:Nd):ndA n=[.int .i64 n.tag,.str n.data,.sl (aC n.kids) n.kids.length none]:=by
 obtain ⟨t,d,ks⟩:=n;exact bG t d ks
theorem dH:∀ l:List Nd,(aC l).length=l.length * 3
 | []=>rfl
 | n::l=>by simp only [aC,ahy,dH l,bJ,ahD,ahZ];omega
theorem gN:∀ l m:List Nd,aC (l++m)=aC l++aC m
 | [],m=>rfl
 | n::l,m=>by simp only [aig,aC,gN l m,ahz]
theorem gh:∀ {l:List Nd} {k:Nat},k<l.length->((aC l).drop (k * 3)).take 3=ndA (l.getD k bd)
 | n::l,0,_=>by simp [aC,bJ]
 | n::l,k+1,h=>by
   have ih:=@gh l k (by simpa using h);have e:(aC (n::l)).drop ((k+1) * 3)=(aC l).drop (k * 3):=by
    rw [aC,List.drop_append,bJ];simp only [ahD,ahZ];rw [aiX (by simp;omega),ah3]
    congr 1;omega
   rw [e,ih];rfl
mutual
theorem aex:∀ n:Nd,AV.frzL (ndA n)=ndA n
 | .mk t d ks=>by
   have ih:=bR ks;simp only [ndA,AV.frzL,AV.frz,ih]
theorem bR:∀ l:List Nd,AV.frzL (aC l)=aC l
 | []=>rfl
 | n::l=>by
   have h1:=aex n;have h2:=bR l;rw [AV.frzL_eq] at h1 h2 ⊢;rw [aC,ahN,h1,h2]
end
mutual
theorem acT (p:Nat->Bool):∀ n:Nd,AV.refsL p (ndA n)=true
 | .mk t d ks=>by
   have ih:=dP p ks;simp only [ndA,AV.refsL,AV.refs,ih,ajd]
theorem dP (p:Nat->Bool):∀ l:List Nd,AV.refsL p (aC l)=true
 | []=>rfl
 | n::l=>by
   have h1:=acT p n;have h2:=dP p l;rw [AV.refsL_iff] at h1 h2 ⊢;intro a ha;rw [aC,ahr] at ha;exact ha.elim (h1 a) (h2 a)
end
theorem zu {n:Nat}:(b8 n).toNat=n % 256:=by simp [b8]
theorem Vq (n:Nat):∀ k:Nat,yO n (k+1)=b8 (n / 256 ^ k)::yO n k:=by
 intro k
 induction k generalizing n with
 | zero=>simp [yO]
 | succ k ih =>
   rw [yO,ih (n / 256),yO,aig]
   congr 2
   rw [akq,Nat.pow_succ,Nat.mul_comm]
theorem Ty (n:Nat):∀ k:Nat,(yO n k).length=k
 | 0=>rfl
 | k+1=>by rw [Vq,ahD,Ty n k]
theorem Uc (s:List UInt8) (c:UInt8):kw (s++[c])=256 * kw s+c.toNat:=by simp [kw]
theorem Wx:∀ s:List UInt8,kw s<256 ^ s.length:=by
 intro s;rw [<- List.reverse_reverse s];generalize s.reverse=r
 induction r with
 | nil=>simp [kw]
 | cons c r ih =>
   rw [List.reverse_cons,Uc,ahy,List.length_singleton,Nat.pow_succ];have:=c.toNat_lt;omega
theorem aev {n:Nat} {c:UInt8} (hn:n<2 ^ 56) :
  IntKind.u64.wrap (BitVec.ofInt 64 (IntKind.u64.wrap ((n:Int) * 256)) ||| BitVec.ofInt 64 (c.toNat:Int)).toNat=((256 * n+c.toNat:Nat):Int):=by
 have hc:=c.toNat_lt;have e1:IntKind.u64.wrap ((n:Int) * 256)=((n * 256:Nat):Int):=by
  rw [show (n:Int) * 256=((n * 256:Nat):Int) by simp];simp only [IntKind.wrap,IntKind.signed,IntKind.bits];simp;omega
 rw [e1];have e2:(BitVec.ofInt 64 ((n * 256:Nat):Int) ||| BitVec.ofInt 64 (c.toNat:Int)).toNat=n * 256+c.toNat:=by
  rw [BitVec.toNat_or,BitVec.toNat_ofInt,BitVec.toNat_ofInt];have a1:(((n * 256:Nat):Int) % ((2 ^ 64:Nat):Int)).toNat=n * 256:=by omega
  have a2:(((c.toNat:Nat):Int) % ((2 ^ 64:Nat):Int)).toNat=c.toNat:=by omega
  rw [a1,a2];have:=Nat.two_pow_add_eq_or_of_lt (i:=8) (b:=c.toNat) (by omega) n;rw [show 2 ^ 8 * n=n * 256 by omega] at this;exact this.symm
 rw [e2];simp only [IntKind.wrap,IntKind.signed,IntKind.bits];simp;omega
theorem aaK {u l:Nat} (h1:1<=l) (h8:l<=8) (hu:u<256 ^ l) :
  (IntKind.i64.wrap (IntKind.u64.wrap ((u:Int) * 2 ^ (64 - 8 * l)))).fdiv (2 ^ (64 - 8 * l))=if u<2 ^ (8 * l - 1) then (u:Int) else (u:Int) - 2 ^ (8 * l):=by
 have hl:l=1\/l=2\/l=3\/l=4\/l=5\/l=6\/l=7\/l=8:=by omega
 rcases hl with rfl|rfl|rfl|rfl|rfl|rfl|rfl|rfl<;>simp at hu ⊢<;>(try rw [akr _ (by decide)])<;>simp only [IntKind.wrap,IntKind.signed,IntKind.bits]<;>simp<;>split<;>split<;>omega
theorem aaf {s:List UInt8} {n a:Nat} (h:rP s=.ok (n,a)):2<=a/\a<=6/\n<=1048576/\a<=s.length:=by
 unfold rP at h;simp only at h;split at h
 ·cases h
 rename_i h2
 split at h
 ·cases h;exact ⟨by omega,by omega,by omega,by omega⟩
 split at h
 ·cases h
 split at h
 ·cases h
 split at h
 ·cases h
 ·rename_i h5 h6 h7 h8
  cases h;exact ⟨by omega,by omega,by omega,by omega⟩
theorem aae {s:List UInt8} {e:Int} (h:rP s=.error e):e≠0:=by
 unfold rP at h;simp only at h
 repeat' split at h
 all_goals first|(cases h;decide)|cases h
theorem acN {f:Nat} {s:List UInt8} {n:Nd} {r:List UInt8} (h:gH f s=.ok (n,r)):r.length<s.length:=by
 cases f with
 | zero=>cases h
 | succ f =>
   rw [gH] at h;split at h
   ·cases h
   simp only at h;split at h
   ·cases h
   split at h
   ·cases h
   rename_i size a hb
   obtain ⟨b1,b2,b3,b4⟩:=aaf hb;split at h
   ·cases h
   split at h
   ·cases h;simp;omega
   split at h
   ·cases h
   ·cases h;simp;omega
theorem Xx {p:List UInt8->Except Int (Nd×List UInt8)} (hp:∀ s e,p s=.error e->e≠0):∀ (f:Nat) (s:List UInt8) (e:Int),lh p f s=.error e->e≠0
 | 0,[],e,h=>by cases h
 | 0,_::_,e,h=>by cases h
 | f+1,[],e,h=>by cases h
 | f+1,c::s,e,h=>by
   rw [lh] at h
   ·split at h
    ·rename_i hh;cases h;exact hp _ _ hh
    ·split at h
     ·rename_i hh;cases h;exact Xx hp f _ _ hh
     ·cases h
   ·simp
theorem ug:∀ (f:Nat) (s:List UInt8) (e:Int),gH f s=.error e->e≠0
 | 0,s,e,h=>by cases h;decide
 | f+1,s,e,h=>by
   rw [gH] at h;split at h
   ·cases h;decide
   simp only at h;split at h
   ·cases h;decide
   split at h
   ·rename_i hh;cases h;exact aae hh
   split at h
   ·cases h;decide
   split at h
   ·cases h
   split at h
   ·rename_i hh;cases h;exact Xx (ug f) _ _ _ hh
   ·cases h
end Go.Proofs.YtobihfefmlgaoaaGreat.Av
set_option maxRecDepth 100000
namespace Go.Proofs.YtobihfefmlgaoaaGreat.Av
open Go
def MK:LSO:=[Ao 4]
def MJ:LSO:=[Aa 7 1,AB 8 7 1,Aa 9 8,.grp none 9 false
 [Ag 10 9 1,AD 11 9 10 8]
 12 (tm 11)]
def MI:LSO:=[Ao 4]
def MH:LSO:=[Aa 13 1,o1 14 (.mkslice 1 1 [(.int .u8 0)] (tm 13) (tm 13)),Aa 5 14]
def MG:LSO:=[Aa 15 5,Ae 16 15,Ac 17 0]
def MF:LSO:=[Ak 18 17 16]
def ME:LSO:=[Aa 19 17,Aa 6 19]
def MD:LSO:=[Aa 20 5,Aa 21 1,AX 22 21 1,Aa 23 6,AT 24 22 23,Aa 25 0,AZ 26 25,Al 27 1 20 24,Af 1 27 26]
def MC:LSO:=[Aa 28 0,o1 29 (.bin .shr (tm 28) (.av (.int .u64 8))),Aa 0 29]
def MB:LSO:=[Ah 30 17 1,Aa 17 30]
def JO:LSO:=[Aa 31 5,AN 32 31,Aa 4 32]
def KQ:aS:=⟨33,(.seq (.sreg MK [])
 (.seq (.seq (.sreg MJ Cr)
 (.cond (tm 12) (.seq (.sreg MI [])
 .ret)
 .skip))
 (.seq (.sreg MH Cq)
 (.seq (.seq (.sreg MG Cv)
 (.block 0 (.loop (.seq (.sreg MF [])
 (.seq (.cond (tm 18) .skip
 (.exit 0))
 (.seq (.block 1 (.seq (.sreg ME Cp)
 (.seq (.sreg MD CE)
 (.sreg MC Cq))))
 (.sreg MB Cp)))))))
 (.seq (.sreg JO Cq)
 .ret))))),[(.tmp 4)]⟩
attribute [push_cast] MK MJ MI MH MG MF ME MD MC MB JO
theorem UE:aT Tryz.prog (fun _ _=>1) 98=some KQ.raw:=by kernel_rfl
def MV:LSO:=[BE 6,An 7]
def MU:LSO:=[Aa 11 2,AB 12 11 1,Aa 13 12,.grp none 13 false
 [Ag 14 13 2,AD 15 13 14 8]
 16 (tm 15),Aa 17 16,.grp none 17 false
 [Ag 18 17 1,B1 19 17 18 0]
 20 (tm 19),Aa 21 20,.grp none 21 false
 [Ag 22 21 1,Ag 23 21 0,Bo 24 21 23,Ag 25 21 2,og 26 21 false (.bin .sub (tm 24) (tm 25)),og 27 21 false (.bin .gtr (tm 22) (tm 26))]
 28 (tm 27)]
def MT:LSO:=[BE 6,An 7]
def MR:LSO:=[BE 8]
def MQ:LSO:=[Aa 29 0,Aa 30 1,Aa 31 1,Aa 32 2,AK 33 31 32,BR 34 29 30 33,o1 35 (.s2b (tm 34)),Ae 36 35,Ac 37 0]
def MP:LSO:=[Ak 38 37 36]
def MO:LSO:=[Al 39 1 35 37,Ab 40 1 39,Aa 10 40]
def MN:LSO:=[Aa 41 8,o1 42 (.bin .shl (tm 41) (.av (.int .u64 8))),Aa 43 10,B6 44 43,o1 45 (.bin .or (tm 42) (tm 44)),Aa 8 45]
def MM:LSO:=[Ah 46 37 1,Aa 37 46]
def ML:LSO:=[Aa 47 8,Aa 6 47,AC 7]
def ot:aS:=⟨48,(.seq (.sreg MV [])
 (.seq (.seq (.sreg MU Cw)
 (.cond (tm 28) (.seq (.sreg MT [])
 .ret)
 .skip))
 (.seq (.sreg MR [])
 (.seq (.seq (.sreg MQ C8)
 (.block 0 (.loop (.seq (.sreg MP [])
 (.seq (.cond (tm 38) .skip
 (.exit 0))
 (.seq (.block 1 (.seq (.sreg MO Cq)
 (.sreg MN Ct)))
 (.sreg MM Cp)))))))
 (.seq (.sreg ML Cv)
 .ret))))),[(.tmp 6),(.tmp 7)]⟩
attribute [push_cast] MV MU MT MR MQ MP MO MN MM ML
theorem KR:aT Tryz.prog (fun _ _=>1) 137=some ot.raw:=by kernel_rfl
def Hv:LSO:=[Ac 2 0,Ac 3 0,Ac 4 0]
def Hu:LSO:=[Aa 8 0,A2 9 8,AB 10 9 2]
def Ht:LSO:=[Ac 2 0,Ac 3 0,Ac 4 3]
def Hs:LSO:=[Aa 11 0,B3 12 11 1,B7 13 12,Aa 5 13]
def Hr:LSO:=[Aa 15 5,AB 16 15 128,Aa 14 16]
def Hq:LSO:=[Aa 17 5,Aa 2 17,Ac 3 2,Ac 4 0]
def Hp:LSO:=[Aa 19 5,Au 20 19 128,Aa 21 20,.grp none 21 false
 [Ag 22 21 5,AD 23 21 22 132]
 24 (tm 23),Aa 18 24]
def Ho:LSO:=[Ac 2 0,Ac 3 0,Ac 4 8]
def Hn:LSO:=[Aa 26 0,Aa 27 5,AX 28 27 128,o1 29 (.call 137 [(tm 26),(iv 2),(tm 28)]),Aa 25 29,Aq 30 25,Ar 31 25,Aa 6 30,Aa 7 31]
def Hm:LSO:=[Aa 33 7,AA 34 33,Aa 32 34]
def zF:LSO:=[Ac 2 0,Ac 3 0,Ac 4 3]
def zE:LSO:=[Aa 36 6,o1 37 (.bin .gtr (tm 36) (.av (.int .u64 1048576))),Aa 35 37]
def zD:LSO:=[Ac 2 0,Ac 3 0,Ac 4 5]
def zC:LSO:=[Aa 38 6,B7 39 38,Aa 40 5,AX 41 40 126,Aa 2 39,Aa 3 41,Ac 4 0]
def y9:aS:=⟨42,(.seq (.sreg Hv [])
 (.seq (.seq (.sreg Hu Cq)
 (.cond (tm 10) (.seq (.sreg Ht [])
 .ret)
 .skip))
 (.seq (.sreg Hs Cr)
 (.seq (.block 0 (.seq (.sreg Hr Cq)
 (.cond (tm 14) (.seq (.sreg Hq C4)
 .ret)
 (.seq (.sreg Hp Cs)
 (.cond (tm 18) (.seq (.sreg Ho [])
 .ret)
 .skip)))))
 (.seq (.sreg Hn C5)
 (.seq (.block 1 (.seq (.sreg Hm Cq)
 (.cond (tm 32) (.seq (.sreg zF [])
 .ret)
 (.seq (.sreg zE Cq)
 (.cond (tm 35) (.seq (.sreg zD [])
 .ret)
 .skip)))))
 (.seq (.sreg zC CI)
 .ret))))))),[(.tmp 2),(.tmp 3),(.tmp 4)]⟩
attribute [push_cast] Hv Hu Ht Hs Hr Hq Hp Ho Hn Hm zF zE zD zC
theorem Sv:aT Tryz.prog (fun _ _=>1) 162=some y9.raw:=by kernel_rfl
def LS:LSO:=[A7 2,Ao 3,Ac 4 0]
def LR:LSO:=[Aa 5 0,AP 6 136 5 1,Aq 7 6,Ar 8 6,Bh 9 6,Af 3 2 7,Aa 3 8,Aa 4 9]
def om:aS:=⟨10,(.seq (.sreg LS [])
 (.seq (.sreg LR Cx)
 .ret)),[(.cell true 3 2),(.tmp 3),(.tmp 4)]⟩
attribute [push_cast] LS LR
theorem KK:aT Tryz.prog (fun _ _=>1) 104=some om.raw:=by kernel_rfl
def LJ:LSO:=[A7 4,Ao 5,Ac 6 0]
def LI:LSO:=[Aa 16 1,A6 17 16 64,Aa 15 17]
def LH:LSO:=[Bz 18,Af 3 4 18,Ao 5,Ac 6 6]
def LG:LSO:=[Aa 20 0,BQ 21 20,Aa 19 21]
def LF:LSO:=[Bz 22,Af 3 4 22,Ao 5,Ac 6 3]
def LE:LSO:=[Aa 24 0,B3 25 24 0,o1 26 (.bin .and (tm 25) (.av (.int .u8 31))),o1 27 (.bin .eql (tm 26) (.av (.int .u8 31))),Aa 23 27]
def LD:LSO:=[Bz 28,Af 3 4 28,Ao 5,Ac 6 7]
def LC:LSO:=[Aa 30 0,Aj 31 162 30,Aa 29 31,Aq 32 29,Ar 33 29,Bh 34 29,Aa 7 32,Aa 8 33,Aa 9 34]
def LB:LSO:=[Aa 35 9,Au 36 35 0,Aa 37 36,.grp none 37 true
 [Ai 38 37 7,Ai 39 37 0,BV 40 37 39,Ai 41 37 8,og 42 37 true (.bin .sub (tm 40) (tm 41)),og 43 37 true (.bin .gtr (tm 38) (tm 42))]
 44 (tm 43)]
def LA:LSO:=[Ac 9 3]
def He:LSO:=[Aa 45 9,A0 46 45 0]
def Hd:LSO:=[Bz 47,Aa 48 9,Af 3 4 47,Ao 5,Aa 6 48]
def Hc:List (am×Kd) :=
 [Az 49 0,od 50 (.idxS (tm 49) (iv 0)) (.read 0 1),od 51 (.conv .i64 (tm 50)) .pure,od 52 (.build [(.int .i64 0),(.str []),(.sl [] 0 (some 0))] [(0,(1,(tm 51)))]) .pure,Az 53 0,
 Az 54 8,Az 55 8,Az 56 7,BU 57 55 56,od 58 (.slS (tm 53) (some (tm 54)) (some (tm 57))) (.read 0 2),od 10 (.alloc [(.int .i64 0),(.str []),(.sl [] 0 (some 0))]) .eff,
 (⟨none,(.store 3 (tm 10) (tm 52)),none⟩,.eff)]
def zB:List am :=
 [⟨(some 11),(.mv (tm 58)),none⟩]
def Hb:LSO:=[Aa 59 0,B3 60 59 0,o1 61 (.bin .and (tm 60) (.av (.int .u8 32))),BI 62 61]
def Ha:LSO:=[Aa 63 11,Ad 64 1 10,Af 1 64 63]
def G9:List (am×Kd) :=
 [BW 65 3 10 0 0,Az 66 0,Az 67 8,Az 68 7,BU 69 67 68,Co 70 66 69 0 1,
 (⟨none,(.store 3 (tm 4) (tm 65)),none⟩,.eff)]
def zA:List am :=
 [⟨(some 5),(.mv (tm 70)),none⟩,⟨(some 6),(.mv (iv 0)),none⟩]
def G8:LSO:=[Aa 71 11,o1 72 (.bin .neq (tm 71) (.av (.str [])))]
def G7:LSO:=[Aa 74 11,Aa 75 1,Ah 76 75 1,Ay 77 136 74 76,Aa 73 77,Aq 78 73,Ar 79 73,Bh 80 73,A7 12,Af 3 12 78,Aa 13 79,Aa 14 80]
def G6:LSO:=[Aa 81 14,A0 82 81 0]
def G5:LSO:=[Bz 83,Aa 84 14,Af 3 4 83,Ao 5,Aa 6 84]
def G4:LSO:=[Ad 85 2 10,Ab 86 1 85,As 87 3 12,Ba 88 87,Bi 89 86 88,Ad 90 2 10,Af 1 90 89]
def G3:LSO:=[Aa 91 13,Aa 11 91]
def G2:List (am×Kd) :=
 [BW 92 3 10 0 0,Az 93 0,Az 94 8,Az 95 7,BU 96 94 95,Co 97 93 96 0 1,
 (⟨none,(.store 3 (tm 4) (tm 92)),none⟩,.eff)]
def zy:List am :=
 [⟨(some 5),(.mv (tm 97)),none⟩,⟨(some 6),(.mv (iv 0)),none⟩]
def ce:aS:=⟨98,(.seq (.sreg LJ [])
 (.seq (.block 0 (.seq (.sreg LI Cq)
 (.cond (tm 15) (.seq (.sreg LH Cv)
 .ret)
 (.seq (.sreg LG Cq)
 (.cond (tm 19) (.seq (.sreg LF Cv)
 .ret)
 (.seq (.sreg LE Cs)
 (.cond (tm 23) (.seq (.sreg LD Cv)
 .ret)
 .skip)))))))
 (.seq (.sreg LC C8)
 (.seq (.seq (.sreg LB Cr)
 (.cond (tm 44) (.sreg LA [])
 .skip))
 (.seq (.seq (.sreg He Cp)
 (.cond (tm 46) (.seq (.sreg Hd C2)
 .ret)
 .skip))
 (.seq (.dregM Hc zB CM)
 (.seq (.seq (.sreg Hb Cr)
 (.cond (tm 62) (.seq (.sreg Ha C0)
 (.seq (.dregM G9 zA C9)
 .ret))
 .skip))
 (.seq (.block 1 (.loop (.seq (.seq (.sreg G8 Cp)
 (.cond (tm 72) .skip
 (.exit 1)))
 (.block 2 (.seq (.sreg G7 CW)
 (.seq (.seq (.sreg G6 Cp)
 (.cond (tm 82) (.seq (.sreg G5 C2)
 .ret)
 .skip))
 (.seq (.sreg G4 CJ)
 (.sreg G3 Cp))))))))
 (.seq (.dregM G2 zy C9)
 .ret))))))))),[(.cell true 3 4),(.tmp 5),(.tmp 6)]⟩
attribute [push_cast] LJ LI LH LG LF LE LD LC LB LA He Hd Hc zB Hb Ha G9 zA G8 G7 G6 G5 G4 G3 G2 zy
theorem d6:aT Tryz.prog (fun _ _=>1) 136=some ce.raw:=by kernel_rfl
def LQ:LSO:=[A7 2,Ac 3 0]
def LP:LSO:=[Aa 8 0,Aj 9 104 8,Aa 7 9,Aq 10 7,Ar 11 7,Bh 12 7,A7 4,Af 3 4 10,Aa 5 11,Aa 6 12]
def LO:LSO:=[Aa 13 6,Au 14 13 0,Aa 15 14,.grp none 15 true
 [Ai 16 15 5,og 17 15 true (.bin .neq (tm 16) (.av (.str [])))]
 18 (tm 17)]
def LN:LSO:=[Ac 6 4]
def LM:LSO:=[Aa 19 6,A0 20 19 0]
def LL:LSO:=[Bz 21,Aa 22 6,Af 3 2 21,Aa 3 22]
def LK:LSO:=[As 23 3 4,Af 3 2 23,Ac 3 0]
def gR:aS:=⟨24,(.seq (.sreg LQ [])
 (.seq (.sreg LP C8)
 (.seq (.seq (.sreg LO Cr)
 (.cond (tm 18) (.sreg LN [])
 .skip))
 (.seq (.seq (.sreg LM Cp)
 (.cond (tm 20) (.seq (.sreg LL Cq)
 .ret)
 .skip))
 (.seq (.sreg LK Cp)
 .ret))))),[(.cell true 3 2),(.tmp 3)]⟩
attribute [push_cast] LQ LP LO LN LM LL LK
theorem rL:aT Tryz.prog (fun _ _=>1) 70=some gR.raw:=by kernel_rfl
def Hl:LSO:=[Ao 2]
def Hk:LSO:=[Aa 4 0,AB 5 4 128]
def Hj:LSO:=[Aa 6 0,B6 7 6,AP 8 98 7 1,Aa 2 8]
def Hi:LSO:=[Ac 3 1]
def Hh:LSO:=[Aa 9 0,Aa 10 3,o1 11 (.bin .mul (iv 8) (tm 10)),o1 12 (.bin .shr (tm 9) (tm 11)),A6 13 12 0]
def Hg:LSO:=[Aa 14 3,Ah 15 14 1,Aa 3 15]
def Hf:LSO:=[Aa 16 3,o1 17 (.bin .add (iv 128) (tm 16)),B6 18 17,AP 19 98 18 1,Aa 20 0,B6 21 20,Aa 22 3,Ay 23 98 21 22,AK 24 19 23,Aa 2 24]
def y8:aS:=⟨25,(.seq (.sreg Hl [])
 (.seq (.seq (.sreg Hk Cp)
 (.cond (tm 5) (.seq (.sreg Hj Cr)
 .ret)
 .skip))
 (.seq (.sreg Hi [])
 (.seq (.block 0 (.loop (.seq (.seq (.sreg Hh Cs)
 (.cond (tm 13) .skip
 (.exit 0)))
 (.block 1 (.sreg Hg Cq)))))
 (.seq (.sreg Hf Cy)
 .ret))))),[(.tmp 2)]⟩
attribute [push_cast] Hl Hk Hj Hi Hh Hg Hf
theorem Su:aT Tryz.prog (fun _ _=>1) 135=some y8.raw:=by kernel_rfl
def RE:LSO:=[A8 1 0,Ao 2,Ac 3 0]
def RD:LSO:=[As 4 3 1,AP 5 100 4 1,Aq 6 5,Ar 7 5,Aa 2 6,Aa 3 7]
def Q3:aS:=⟨8,(.seq (.sreg RE [])
 (.seq (.sreg RD C6)
 .ret)),[(.tmp 2),(.tmp 3)]⟩
attribute [push_cast] RE RD
theorem WG:aT Tryz.prog (fun _ _=>1) 66=some Q3.raw:=by kernel_rfl
def RA:LSO:=[A8 2 0,Ao 4,Ac 5 0]
def Rz:LSO:=[Aa 12 1,A6 13 12 64,Aa 11 13]
def Ry:LSO:=[Ao 4,Ac 5 6]
def Rx:LSO:=[Ad 15 0 2,Ab 16 1 15,AB 17 16 0,Aa 18 17,.grp none 18 false
 [A3 19 18 0 2,A1 20 18 1 19,AD 21 18 20 255]
 22 (tm 21),Aa 23 22,.grp none 23 false
 [A3 24 23 0 2,A1 25 23 1 24,og 26 23 false (.bin .and (tm 25) (iv 31)),Bf 27 23 26 31]
 28 (tm 27),Aa 14 28]
def Rw:LSO:=[Ao 4,Ac 5 7]
def Rv:LSO:=[Ad 30 0 2,Ab 31 1 30,o1 32 (.bin .and (tm 31) (iv 32)),A0 33 32 0,Aa 34 33,.grp none 34 true
 [A5 35 34 1 2,A4 36 34 1 35,og 37 34 true (.bin .neq (tm 36) (.av (.str [])))]
 38 (tm 37),Aa 39 38,.grp none 39 false
 [A3 40 39 0 2,A1 41 39 1 40,og 42 39 false (.bin .and (tm 41) (iv 32)),Bf 43 39 42 0,Ag 44 39 43,.grp (some (39,false)) 44 true
 [A5 45 44 2 2,A4 46 44 1 45,AU 47 44 46,BC 48 44 47 0]
 49 (tm 48)]
 50 (tm 49),Aa 29 50]
def Ru:LSO:=[Ao 4,Ac 5 4]
def Rt:LSO:=[Ad 51 1 2,Ab 52 1 51,o1 53 (.s2bG (tm 52)),Aa 6 53]
def Rs:LSO:=[Ad 54 2 2,Ab 55 1 54,Ae 56 55,Ac 57 0]
def Rr:LSO:=[Ak 58 57 56]
def Pl:LSO:=[Al 59 3 55 57,As 60 3 59,A7 8,Af 3 8 60]
def Pk:LSO:=[As 62 3 8,Aa 63 1,Ah 64 63 1,Ay 65 100 62 64,Aa 61 65,Aq 66 61,Ar 67 61,Aa 9 66,Aa 10 67]
def Pj:LSO:=[Aa 68 10,A0 69 68 0]
def Pi:LSO:=[Aa 70 10,Ao 4,Aa 5 70]
def Ph:LSO:=[Aa 71 6,Aa 72 9,A9 73 71 72,Aa 6 73]
def Pg:LSO:=[Ah 74 57 1,Aa 57 74]
def Pf:LSO:=[Aa 75 6,Ae 76 75,A6 77 76 1048576]
def Pe:LSO:=[Ao 4,Ac 5 5]
def Pd:LSO:=[Ad 78 0 2,Ab 79 1 78,B6 80 79,AP 81 98 80 1,Aa 82 6,Ae 83 82,Aj 84 135 83,AK 85 81 84,Aa 86 6,AN 87 86,AK 88 85 87,Aa 4 88,Ac 5 0]
def mE:aS:=⟨89,(.seq (.sreg RA [])
 (.seq (.block 0 (.seq (.sreg Rz Cq)
 (.cond (tm 11) (.seq (.sreg Ry [])
 .ret)
 (.seq (.sreg Rx Cw)
 (.cond (tm 14) (.seq (.sreg Rw [])
 .ret)
 (.seq (.sreg Rv C1)
 (.cond (tm 29) (.seq (.sreg Ru [])
 .ret)
 .skip)))))))
 (.seq (.sreg Rt Cr)
 (.seq (.seq (.sreg Rs C4)
 (.block 1 (.loop (.seq (.sreg Rr [])
 (.seq (.cond (tm 58) .skip
 (.exit 1))
 (.seq (.block 2 (.seq (.sreg Pl Cq)
 (.seq (.sreg Pk C5)
 (.seq (.seq (.sreg Pj Cp)
 (.cond (tm 69) (.seq (.sreg Pi Cv)
 .ret)
 .skip))
 (.sreg Ph Cr)))))
 (.sreg Pg Cp)))))))
 (.seq (.seq (.sreg Pf Cq)
 (.cond (tm 77) (.seq (.sreg Pe [])
 .ret)
 .skip))
 (.seq (.sdreg Pd [.pure,(.read 0 0),.pure,(.read 0 0),.pure,(.read 0 0),(.read 0 0),.pure,.pure,(.read 0 0)] CY)
 .ret)))))),[(.tmp 4),(.tmp 5)]⟩
attribute [push_cast] RA Rz Ry Rx Rw Rv Ru Rt Rs Rr Pl Pk Pj Pi Ph Pg Pf Pe Pd
theorem yZ:aT Tryz.prog (fun r i=>if r=7/\i=2 then 5 else 1) 100=some mE.raw:=by kernel_rfl
def RJ:LSO:=[Ao 2]
def RI:LSO:=[Ac 3 1]
def RH:LSO:=[Aa 4 3,AB 5 4 8,Aa 6 5,.grp none 6 true
 [Ai 7 6 0,Ai 8 6 3,og 9 6 true (.bin .mul (iv 8) (tm 8)),BB 10 6 9 1,og 11 6 true (.bin .shr (tm 7) (tm 10)),og 12 6 true (.bin .neq (tm 11) (iv 0))]
 13 (tm 12),Aa 14 13,.grp none 14 true
 [Ai 15 14 0,Ai 16 14 3,og 17 14 true (.bin .mul (iv 8) (tm 16)),BB 18 14 17 1,og 19 14 true (.bin .shr (tm 15) (tm 18)),og 20 14 true (.bin .neq (tm 19) (iv (-1)))]
 21 (tm 20)]
def RG:LSO:=[Aa 22 3,Ah 23 22 1,Aa 3 23]
def RF:LSO:=[Aa 24 0,B6 25 24,Aa 26 3,Ay 27 98 25 26,Aa 2 27]
def Q4:aS:=⟨28,(.seq (.sreg RJ [])
 (.seq (.sreg RI [])
 (.seq (.block 0 (.loop (.seq (.seq (.sreg RH Ct)
 (.cond (tm 21) .skip
 (.exit 0)))
 (.block 1 (.sreg RG Cq)))))
 (.seq (.sreg RF Cs)
 .ret)))),[(.tmp 2)]⟩
attribute [push_cast] RJ RI RH RG RF
theorem WH:aT Tryz.prog (fun _ _=>1) 60=some Q4.raw:=by kernel_rfl
def HE:LSO:=[Ac 2 0,An 3]
def HD:LSO:=[Aa 9 0,Aa 10 0,A2 11 10,o1 12 (.call 137 [(tm 9),(iv 0),(tm 11)]),Aa 8 12,Aq 13 8,Ar 14 8,Aa 4 13,Aa 5 14]
def HC:LSO:=[Aa 15 5,AA 16 15]
def HB:LSO:=[Ac 2 0,An 3]
def HA:LSO:=[Aa 17 0,A2 18 17,o1 19 (.bin .mul (iv 8) (tm 18)),o1 20 (.bin .sub (iv 64) (tm 19)),Aa 6 20]
def Hz:LSO:=[Aa 21 4,Aa 22 6,o1 23 (.bin .shl (tm 21) (tm 22)),B7 24 23,Aa 25 6,o1 26 (.bin .shr (tm 24) (tm 25)),Aa 7 26]
def Hy:LSO:=[Aa 27 7,Aj 28 60 27,Aa 29 0,AM 30 28 29]
def Hx:LSO:=[Ac 2 0,An 3]
def Hw:LSO:=[Aa 31 7,Aa 2 31,AC 3]
def za:aS:=⟨32,(.seq (.sreg HE [])
 (.seq (.sreg HD C5)
 (.seq (.seq (.sreg HC Cp)
 (.cond (tm 16) (.seq (.sreg HB [])
 .ret)
 .skip))
 (.seq (.sreg HA Cs)
 (.seq (.sreg Hz Cu)
 (.seq (.seq (.sreg Hy Cr)
 (.cond (tm 30) (.seq (.sreg Hx [])
 .ret)
 .skip))
 (.seq (.sreg Hw Cv)
 .ret))))))),[(.tmp 2),(.tmp 3)]⟩
attribute [push_cast] HE HD HC HB HA Hz Hy Hx Hw
theorem Sw:aT Tryz.prog (fun _ _=>1) 105=some za.raw:=by kernel_rfl
def RC:LSO:=[A7 4]
def RB:LSO:=[Aa 5 0,Aa 6 1,Aj 7 99 6,o1 8 (.build [(.int .i64 0),(.str []),(.sl [] 0 (some 0))] [(0,(1,(tm 5))),(2,(1,(tm 7)))]),Af 3 4 8]
def Q2:aS:=⟨9,(.seq (.sreg RC [])
 (.seq (.sreg RB C3)
 .ret)),[(.cell true 3 4)]⟩
attribute [push_cast] RC RB
theorem WF:aT Tryz.prog (fun _ _=>1) 64=some Q2.raw:=by kernel_rfl
def Pc:LSO:=[Ap 2]
def Pb:LSO:=[Ap 3]
def Pa:LSO:=[Aa 6 0,Ae 7 6,Ac 8 0]
def O9:LSO:=[Ak 9 8 7]
def O8:LSO:=[Al 10 3 6 8,As 11 3 10,A7 5,Af 3 5 11]
def O7:List (am×Kd) :=
 [Az 12 3,Aw 13 0 5,Ax 14 1 13 0 0,Aw 15 1 5,Ax 16 1 15 0 0,Aw 17 2 5,Ax 18 1 17 0 0,AS 19 99 18 0 0,
 od 20 (.build [(.int .i64 0),(.str []),(.sl [] 0 (some 0))] [(0,(1,(tm 14))),(1,(1,(tm 16))),(2,(1,(tm 19)))]) .pure,
 od 21 (.bslice false 3 1 [(.int .i64 0),(.str []),(.sl [] 0 (some 0))] [(0,(3,(tm 20)))]) (.read 0 0)]
def Lz:List am :=
 [⟨(some 22),(.app 1 3 48 [(.int .i64 0),(.str []),(.sl [] 0 (some 0))] (tm 12) (tm 21)),none⟩,⟨(some 3),(.mv (tm 22)),none⟩]
def O6:LSO:=[Ah 23 8 1,Aa 8 23]
def O5:LSO:=[Aa 24 3,Aa 2 24]
def Ou:aS:=⟨25,(.seq (.sreg Pc [])
 (.seq (.sreg Pb [])
 (.seq (.seq (.sreg Pa [])
 (.block 0 (.loop (.seq (.sreg O9 [])
 (.seq (.cond (tm 9) .skip
 (.exit 0))
 (.seq (.block 1 (.seq (.sreg O8 Cq)
 (.dregM O7 Lz CH)))
 (.sreg O6 Cp)))))))
 (.seq (.sreg O5 Cp)
 .ret)))),[(.tmp 2)]⟩
attribute [push_cast] Pc Pb Pa O9 O8 O7 Lz O6 O5
theorem U2:aT Tryz.prog (fun _ _=>1) 99=some Ou.raw:=by kernel_rfl
def Pn:LSO:=[A7 4]
def Pm:LSO:=[Aa 5 0,Aa 6 1,o1 7 (.build [(.int .i64 0),(.str []),(.sl [] 0 (some 0))] [(0,(1,(tm 5))),(1,(1,(tm 6)))]),Af 3 4 7]
def Ov:aS:=⟨8,(.seq (.sreg Pn [])
 (.seq (.sreg Pm [false,false,false])
 .ret)),[(.cell true 3 4)]⟩
attribute [push_cast] Pn Pm
theorem U3:aT Tryz.prog (fun _ _=>1) 59=some Ov.raw:=by kernel_rfl
def Fx:LSO:=[A7 2]
def Fw:LSO:=[Aa 3 0,BX 4 59 4 3,Af 3 2 4]
def uH:aS:=⟨5,(.seq (.sreg Fx [])
 (.seq (.sreg Fw C0)
 .ret)),[(.cell true 3 2)]⟩
attribute [push_cast] Fx Fw
theorem Re:aT Tryz.prog (fun _ _=>1) 61=some uH.raw:=by kernel_rfl
def eI:LSO:=[Ap 4]
def eH:LSO:=[Ap 5]
def eG:LSO:=[Aa 8 0,Ae 9 8,Ac 10 0]
def eF:LSO:=[Ak 11 10 9]
def eE:LSO:=[Al 12 2 8 10,As 13 2 12,Br 7,Af 2 7 13]
def eD:LSO:=[Aa 14 5,Aa 15 1,As 16 2 7,BO 17 15 16,Ba 18 17,Bi 19 14 18,Aa 5 19]
def eC:LSO:=[Ah 20 10 1,Aa 10 20]
def eB:LSO:=[Aa 21 5,Aa 4 21]
def cS:aS:=⟨22,(.seq (.sreg eI [])
 (.seq (.sreg eH [])
 (.seq (.seq (.sreg eG [])
 (.block 0 (.loop (.seq (.sreg eF [])
 (.seq (.cond (tm 11) .skip
 (.exit 0))
 (.seq (.block 1 (.seq (.sreg eE Cq)
 (.sreg eD Cu)))
 (.sreg eC Cp)))))))
 (.seq (.sreg eB Cp)
 .ret)))),[(.tmp 4)]⟩
attribute [push_cast] eI eH eG eF eE eD eC eB
theorem jR:aT Tryz.prog (fun _ _=>1) 62=some cS.raw:=by kernel_rfl
def fq:LSO:=[Ap 4]
def fp:LSO:=[Ap 5]
def fo:LSO:=[Aa 8 0,Ae 9 8,Ac 10 0]
def fm:LSO:=[Ak 11 10 9]
def fk:LSO:=[Al 12 1 8 10,Ab 13 1 12,Aa 7 13]
def fj:LSO:=[Aa 14 5,Aa 15 1,Aa 16 7,BO 17 15 16,Ba 18 17,Bi 19 14 18,Aa 5 19]
def fi:LSO:=[Ah 20 10 1,Aa 10 20]
def fh:LSO:=[Aa 21 5,Aa 4 21]
def dm:aS:=⟨22,(.seq (.sreg fq [])
 (.seq (.sreg fp [])
 (.seq (.seq (.sreg fo [])
 (.block 0 (.loop (.seq (.sreg fm [])
 (.seq (.cond (tm 11) .skip
 (.exit 0))
 (.seq (.block 1 (.seq (.sreg fk Cq)
 (.sreg fj Cu)))
 (.sreg fi Cp)))))))
 (.seq (.sreg fh Cp)
 .ret)))),[(.tmp 4)]⟩
attribute [push_cast] fq fp fo fm fk fj fi fh
theorem lC:aT Tryz.prog (fun _ _=>1) 65=some dm.raw:=by kernel_rfl
def rA:LSO:=[A8 1 0,A7 2]
def rz:List (am×Kd) :=
 [Aw 3 0 1,Ax 4 1 3 0 0,AS 5 61 4 0 0,Aw 6 1 1,Ax 7 1 6 0 0]
def qf:List am :=
 [⟨(some 8),(.call 65 [(tm 7),(.av (.func 61 []))]),none⟩,⟨(some 9),(.call 64 [(iv 49),(tm 8)]),none⟩,
 ⟨(some 10),(.bslice false 3 2 [(.int .i64 0),(.str []),(.sl [] 0 (some 0)),(.int .i64 0),(.str []),(.sl [] 0 (some 0))] [(0,(3,(tm 5))),(3,(3,(tm 9)))]),none⟩,
 ⟨(some 11),(.call 64 [(iv 48),(tm 10)]),none⟩,⟨none,(.store 3 (tm 2) (tm 11)),none⟩]
def mH:aS:=⟨12,(.seq (.sreg rA [])
 (.seq (.dregM rz qf [false,false,false,false,false,false,false,false,false])
 .ret)),[(.cell true 3 2)]⟩
attribute [push_cast] rA rz qf
theorem Lh:aT Tryz.prog (fun _ _=>1) 63=some mH.raw:=by kernel_rfl
def yb:LSO:=[A8 1 0,Ao 2,Ac 3 0]
def x9:LSO:=[Ad 11 0 1,Ab 12 1 11,AB 13 12 1,Aa 14 13,.grp none 14 false
 [A3 15 14 0 1,A1 16 14 1 15,AD 17 14 16 4]
 18 (tm 17)]
def x8:LSO:=[Ao 2,Ac 3 24]
def xZ:LSO:=[Ad 19 0 1,Ab 20 1 19,Aj 21 60 20,BX 22 59 2 21,Ba 23 22,Aa 4 23]
def xY:LSO:=[Ad 24 1 1,Ab 25 1 24,Be 26 25,Aa 5 26]
def xX:LSO:=[Ad 27 0 1,Ab 28 1 27,Au 29 28 4]
def xW:LSO:=[Aa 30 5,Ad 31 2 1,Ab 32 1 31,Be 33 32,Bg 34 30 33,Aa 5 34]
def xV:LSO:=[Aa 35 5,Ae 36 35,Ac 37 0]
def xU:LSO:=[Ak 38 37 36]
def xT:LSO:=[Al 39 1 35 37,Ab 40 1 39,Aa 7 40]
def tU:LSO:=[Aa 42 7,Aj 43 27 42,Aa 41 43,Aq 44 41,Ar 45 41,Aa 8 44,Aa 9 45]
def tT:LSO:=[Aa 46 9,A0 47 46 0]
def tS:LSO:=[Aa 48 9,Ao 2,Aa 3 48]
def tR:LSO:=[Aa 49 4,Aa 50 8,Aj 51 61 50,Ba 52 51,Bi 53 49 52,Aa 4 53]
def tQ:LSO:=[Ah 54 37 1,Aa 37 54]
def tP:LSO:=[Ad 55 0 1,Ab 56 1 55,A0 57 56 2]
def tO:LSO:=[Ad 58 3 1,Ab 59 1 58,o1 60 (.call 62 [(tm 59),(.av (.func 63 []))]),Aa 10 60]
def tN:LSO:=[Aa 61 4,Aa 62 10,BX 63 64 48 62,Ba 64 63,Bi 65 61 64,Aa 4 65]
def tM:LSO:=[Aa 66 4,BX 67 64 48 66,Aj 68 66 67,Aq 69 68,Ar 70 68,Aa 2 69,Aa 3 70]
def gU:aS:=⟨71,(.seq (.sreg yb [])
 (.seq (.seq (.sreg x9 Cs)
 (.cond (tm 18) (.seq (.sreg x8 [])
 .ret)
 .skip))
 (.seq (.sreg xZ Ct)
 (.seq (.sreg xY Cr)
 (.seq (.seq (.sreg xX Cq)
 (.cond (tm 29) (.sreg xW Ct)
 .skip))
 (.seq (.seq (.sreg xV [])
 (.block 0 (.loop (.seq (.sreg xU [])
 (.seq (.cond (tm 38) .skip
 (.exit 0))
 (.seq (.block 1 (.seq (.sreg xT Cq)
 (.seq (.sreg tU Cx)
 (.seq (.seq (.sreg tT Cp)
 (.cond (tm 47) (.seq (.sreg tS Cv)
 .ret)
 .skip))
 (.sreg tR Ct)))))
 (.sreg tQ Cp)))))))
 (.seq (.seq (.sreg tP Cq)
 (.cond (tm 57) (.seq (.sreg tO Cr)
 (.sreg tN Ct))
 .skip))
 (.seq (.sreg tM Cx)
 .ret)))))))),[(.tmp 2),(.tmp 3)]⟩
attribute [push_cast] yb x9 x8 xZ xY xX xW xV xU xT tU tT tS tR tQ tP tO tN tM
theorem ul:aT Tryz.prog (fun _ _=>1) 34=some gU.raw:=by kernel_rfl
attribute [push_cast] KQ ot om ce gR Q3 mE Q4 Ou Ov uH cS dm mH
variable {L:List Blk} {K:afC}
set_option maxHeartbeats 8000000
set_option maxRecDepth 100000
theorem Xe:∀ n,ee [AV.int IntKind.u8 0] n=List.replicate n (AV.int .u8 0)
 | 0=>rfl
 | n+1=>by rw [ee,Xe n,List.replicate_succ];rfl
theorem ab8 (c:UInt8) (s:List UInt8):u8s (c::s)=.int .u8 c.toNat::u8s s:=rfl
theorem OI (s:List UInt8):(u8s s).all T5=true:=by
 rw [ahC];intro a ha;simp only [u8s,ahs] at ha;obtain ⟨c,_,rfl⟩:=ha;rfl
theorem V1 (s:List UInt8):(u8s s).map ur=s:=by
 simp only [u8s,ahS];refine (aiw fun c _=>?_).trans (List.map_id _);simp [ur]
theorem K1 (s:List UInt8):(u8s s).length=s.length:=by simp [u8s]
def Sr (n k i:Nat):List AV:=List.replicate (k - i) (AV.int .u8 0)++u8s (yO n i)
theorem Xh {n k i:Nat} (h:i<=k):(Sr n k i).length=k:=by
 rw [Sr,ahy,akl,K1,Ty];omega
theorem Yt (A:List AV) (x v:AV) (s:List AV):cL (A++x::s) A.length [v]=A++v::s:=by simp [cL]
theorem aaZ {n k i:Nat} (h:i<k):cL (Sr n k i) (k - 1 - i) [.int .u8 ((n / 256 ^ i % 256:Nat):Int)]=Sr n k (i+1):=by
 obtain ⟨j,rfl⟩:∃ j,k=i+1+j:=⟨k - i - 1,by omega⟩;have e1:i+1+j - i=j+1:=by omega
 have e2:i+1+j - 1 - i=j:=by omega
 have e3:i+1+j - (i+1)=j:=by omega
 rw [Sr,Sr,e1,e2,e3,Vq,ab8,zu,List.replicate_succ',ahz];have:=Yt (List.replicate j (AV.int .u8 0)) (.int .u8 0) (.int .u8 ((n / 256 ^ i % 256:Nat):Int)) (u8s (yO n i));rw [akl] at this;exact this
theorem Tz {n k:Nat} (h1:1<=k) (h8:k<=8) (hn:n<18446744073709551616) (h:K (.str (yO n k)) L):afB 98 [.int .u64 (n:Int),.int .i64 (k:Int)] L K:=by
 replace h:=hid h;have g1:¬ (k:Int)<1:=by omega
 have g2:¬ (8:Int)<(k:Int):=by omega
 have e0:ee [AV.int IntKind.u8 0] k=Sr n k 0:=by simp [Xe,Sr,yO,u8s]
 refine acg UE ?_;refine ah (fun m T' L'=>∃ (i x:Nat) (C:List AV),m=k - i/\i<=k/\Hid (x=n / 256 ^ i)/\Hid (C=Sr n k i)/\C.length=k/\T'=[(17,.int .i64 (i:Int)),(16,.int .i64 (k:Int)),(5,.lsl L.length 0 k (some k) 1),(0,.int .u64 (x:Int)),(1,.int .i64 (k:Int))]/\L'=L++[.cells C]) (CutS (b:=by simp)) ⟨0,n,_,rfl,ahp _,hid (by simp),hid rfl,Xh (ahp _),rfl,rfl⟩ ?_;rintro _ _ _ ⟨i,x,C,rfl,hi,hx,hC,hCl,rfl,rfl⟩;by_cases hlt:i<k
 ·have g3:(i:Int)<(k:Int):=by omega
  have w1:=ace i (by omega);have w2:IntKind.i64.wrap ((k:Int) - 1)=(k:Int) - 1:=ac (by omega) (by omega);have w3:IntKind.i64.wrap ((k:Int) - 1 - (i:Int))=(k:Int) - 1 - (i:Int):=ac (by omega) (by omega);have g4:(0:Int)<=(k:Int) - 1 - (i:Int):=by omega
  have g5:(k:Int) - 1 - (i:Int)<(k:Int):=by omega
  have e1:((k:Int) - 1 - (i:Int)).toNat=k - 1 - i:=by omega
  have hxn:x<=n:=by rw [hx.out];exact Nat.div_le_self _ _
  have e2:=aaZ (n:=n) hlt;rw [<- hC.out] at e2;obtain ⟨z,hz⟩:∃ z:Int,((n / 256 ^ i % 256:Nat):Int)=z:=⟨_,rfl⟩;have w4:IntKind.u8.wrap (x:Int)=z:=by
   rw [<- hz,<- hx.out];simp only [IntKind.wrap,IntKind.signed,IntKind.bits];simp
  have w5:((x:Int)).fdiv (2 ^ min 8 IntKind.u64.bits)=((x / 256:Nat):Int):=by
   rw [show (2:Int) ^ min 8 IntKind.u64.bits=256 by decide,akr _ (by decide)];rfl
  rw [hz] at e2;have e2':C.take (k - 1 - i)++AV.int .u8 z::C.drop (k - 1 - i+1)=Sr n k (i+1):=by
   rw [<- e2];simp [cL]
  clear e2 hz;have e3:(Sr n k (i+1)).length=k:=Xh hlt;have e4:x / 256=n / 256 ^ (i+1):=by rw [hx.out,akq,Nat.pow_succ]
  have g6:k - 1 - i<C.length:=by omega
  replace e4:=hid e4;refine wk ?_;exact aq _ _ _ (by omega) (CutL (b:=by simp)) ⟨i+1,x / 256,_,rfl,hlt,hid e4.out,hid rfl,e3,rfl,rfl⟩
 ·have hke:i=k:=by omega
  subst hke;have g3:¬ (i:Int)<(i:Int):=by omega
  have hC2:=hC.out;rw [Sr,ajb] at hC2;have hC3:C=u8s (yO n i):=by simpa using hC2
  have e1:C.all T5=true:=by rw [hC3];exact OI _
  have e2:C.map ur=yO n i:=by rw [hC3];exact V1 _
  have e3:C.take i=C:=by rw [<- hCl,ahA]
  clear hC2 hC3;refine wk ?_;exact ab rfl h.out
theorem aaa {s:List UInt8} {a z:Int} (ha:0<=a) (hz:z<=9223372036854775807) (hs:(s.length:Int)<=9223372036854775807) (hno:¬ (1<=z/\z<=8/\a+z<=s.length)) (h:K (.tup [.int .u64 0,.bool false]) L):afB 137 [.str s,.int .i64 a,.int .i64 z] L K:=by
 replace h:=hid h;refine aa KR (by simp [ot]) ?_;simp only [ot,ag];by_cases z1:z<1
 ·clear hno;refine wk ?_;exact af h.out
 by_cases z2:8<z
 ·clear hno;refine wk ?_;exact af h.out
 have z3:¬ a<0:=by omega
 have w1:IntKind.i64.wrap ((s.length:Int) - z)=(s.length:Int) - z:=ac (by omega) (by omega);have z4:(s.length:Int) - z<a:=by omega
 clear hno;refine wk ?_;exact af h.out
theorem adi {s:List UInt8} {a z:Nat} (hs:s.length<=1100000) (h1:1<=z) (h8:z<=8) (ha:a+z<=s.length) (h:K (.tup [.int .u64 (kw ((s.drop a).take z):Nat),.bool true]) L):afB 137 [.str s,.int .i64 (a:Int),.int .i64 (z:Int)] L K:=by
 replace h:=hid h;have z1:¬ (z:Int)<1:=by omega
 have z2:¬ (8:Int)<(z:Int):=by omega
 have z3:¬ (a:Int)<0:=by omega
 have w1:IntKind.i64.wrap ((s.length:Int) - (z:Int))=(s.length:Int) - (z:Int):=ac (by omega) (by omega);have z4:¬ (s.length:Int) - (z:Int)<(a:Int):=by omega
 have w2:IntKind.i64.wrap ((a:Int)+(z:Int))=(a:Int)+(z:Int):=ac (by omega) (by omega);have e1:((a:Int)+(z:Int)).toNat=a+z:=by omega
 obtain ⟨t,ht⟩:=aaR ((s.drop a).take z);have htl:t.length=z:=by rw [<- ht];simp;omega
 rw [ht] at h;have e2:(s.drop a).take (a+z - a)=t:=by rw [<- ht];congr 1;omega
 clear ht;refine acg KR ?_;refine ah (fun m T' L'=>∃ (i x:Nat),m=z - i/\i<=z/\Hid (x=kw (t.take i))/\T'=[(37,.int .i64 (i:Int)),(36,.int .i64 (z:Int)),(35,.sl (u8s t) z none),(8,.int .u64 (x:Int))]/\L=L') (CutL (b:=ahn _)) ⟨0,0,rfl,ahp _,hid rfl,rfl,rfl⟩ ?_;rintro _ _ _ ⟨i,x,rfl,hi,hx,rfl,rfl⟩;by_cases hlt:i<z
 ·have g1:(i:Int)<(z:Int):=by omega
  have w3:=ace i (by omega);obtain ⟨c,hc⟩:=aaR (t.getD i 0);have hlt2:i<t.length:=by omega
  have e3:(u8s t).getD i .undef=.int .u8 (c.toNat:Int):=by rw [<- hc];simp [u8s,hlt2]
  have e4:t.take (i+1)=t.take i++[c]:=by rw [ahK hlt2,<- hc];simp [hlt2]
  have e5:kw (t.take (i+1))=256 * x+c.toNat:=by rw [e4,Uc,hx.out]
  have hxb:x<2 ^ 56:=by
   have h2:=Wx (t.take i);rw [<- hx.out] at h2;have h3:(t.take i).length<=7:=by simp;omega
   exact aiF h2 (ahV (Nat.pow_le_pow_right (by omega) h3) (by decide))
  have w4:IntKind.u64.wrap (BitVec.ofInt IntKind.u64.bits (IntKind.u64.wrap ((x:Int) * 2 ^ min 8 IntKind.u64.bits)) ||| BitVec.ofInt IntKind.u64.bits (c.toNat:Int)).toNat=((256 * x+c.toNat:Nat):Int):=aev hxb;have w5:IntKind.u64.wrap (c.toNat:Int)=(c.toNat:Int):=mq (by omega) (by have:=c.toNat_lt;omega);have g2:i<(u8s t).length:=by rw [K1];exact hlt2
  clear e4 hc;replace e5:=hid e5;refine wk ?_;exact aq _ _ _ (by omega) (CutL (b:=ahn _)) ⟨i+1,256 * x+c.toNat,rfl,hlt,hid e5.out.symm,rfl,rfl⟩
 ·have hke:i=z:=by omega
  subst hke;have g1:¬ (i:Int)<(i:Int):=by omega
  have h':=h.out;rw [show kw t=x by rw [hx.out,<- htl,ahA]] at h';replace h':=hid h';refine wk ?_;exact af h'.out
theorem SZ {n:Nat} (hn:n<18446744073709551616) (h:K (.str [b8 n]) L):afB 98 [.int .u64 (n:Int),.int .i64 1] L K :=
 Tz (k:=1) (by omega) (by omega) hn (by simpa [yO] using h)
theorem XD {n:Nat} (hn:n<=1048576) (h:K (.str (rH n)) L):afB 135 [.int .i64 (n:Int)] L K:=by
 unfold rH at h;have w1:IntKind.u64.wrap (n:Int)=(n:Int):=mq (by omega) (by omega);refine aa Su (by simp [y8]) ?_;simp only [y8,ag];by_cases h1:n<128
 ·rw [if_pos h1] at h;replace h:=hid h;have g1:(n:Int)<128:=by omega
  clear h1;have kk1:=@hid _ (fun L K=>SZ (n:=n) (by omega) (L:=L) (K:=K));refine wk ?_;exact af h.out
 rw [if_neg h1] at h;have g1:¬ (n:Int)<128:=by omega
 obtain ⟨k,hk⟩:∃ k:Nat,(if n<256 then 1 else if n<65536 then 2 else 3)=k:=⟨_,rfl⟩;have h':K (.str (b8 (128+k)::yO n k)) L:=by
  split at h
  ·rename_i e;rw [if_pos e] at hk;subst hk;simpa [yO,show b8 129=129 from rfl] using h
  ·rename_i e
   rw [if_neg e] at hk;split at h
   ·rename_i e2;rw [if_pos e2] at hk;subst hk;simpa [yO,show b8 130=130 from rfl] using h
   ·rename_i e2
    rw [if_neg e2] at hk;subst hk;simpa [yO,akq,show b8 131=131 from rfl] using h
 have hk1:1<=k/\k<=3/\n / 2 ^ (8 * k)=0/\∀ j,1<=j->j<k->0<n / 2 ^ (8 * j):=by
  rw [<- hk];split
  ·refine ⟨by omega,by omega,by simp;omega,fun j a b=>by omega⟩
  ·split
   ·refine ⟨by omega,by omega,by simp;omega,fun j a b=>?_⟩;have:j=1:=by omega
    subst this;simp;omega
   ·refine ⟨by omega,by omega,by simp;omega,fun j a b=>?_⟩;have:j=1\/j=2:=by omega
    rcases this with rfl|rfl<;>simp<;>omega
 obtain ⟨k1,k3,kz,kp⟩:=hk1;replace h:=hid h';clear hk h' h1;replace kz:=hid kz;replace kp:=hid kp;refine wk ?_;refine ah (fun m T' L'=>∃ (i:Nat),m=k - i/\1<=i/\i<=k/\T'=[(3,.int .i64 (i:Int)),(0,.int .i64 (n:Int))]/\L=L') (CutL (b:=ahn _)) ⟨1,rfl,ahn _,k1,rfl,rfl⟩ ?_;rintro _ _ _ ⟨i,rfl,hi1,hi,rfl,rfl⟩;have w2:=ace i (by omega);have w3:IntKind.i64.wrap (8 * (i:Int))=8 * (i:Int):=ac (by omega) (by omega);have w4:IntKind.i64.wrap (128+(i:Int))=128+(i:Int):=ac (by omega) (by omega);have w5:IntKind.u64.wrap (128+(i:Int))=((128+i:Nat):Int):=by
  rw [mq (by omega) (by omega)];simp
 have e1:(n:Int).fdiv (2 ^ min (8 * (i:Int)).toNat IntKind.i64.bits)=((n / 2 ^ (8 * i):Nat):Int):=by
  rw [show min (8 * (i:Int)).toNat IntKind.i64.bits=8 * i by simp [IntKind.bits];omega];rw [akr _ (Int.le_of_lt (Int.pow_pos (by decide)))]
  norm_cast
 have g2:(0:Int)<=8 * (i:Int):=by omega
 obtain ⟨q,hq⟩:=aaR (n / 2 ^ (8 * i));rw [hq] at e1;by_cases hlt:i<k
 ·have hp:0<q:=by rw [<- hq];exact kp.out i hi1 hlt
  have g3:(0:Int)<(q:Int):=by omega
  clear hq;refine wk ?_;exact aq _ _ _ (by omega) (CutL (b:=ahn _)) ⟨i+1,rfl,by omega,hlt,rfl,rfl⟩
 ·have hke:i=k:=by omega
  subst hke;have hp:q=0:=by rw [<- hq];exact kz.out
  subst hp;have g3:¬ (0:Int)<((0:Nat):Int):=by decide
  have hpl:=Ty n i;clear hq hlt;have kk1:=@hid _ (fun L K=>SZ (n:=128+i) (by omega) (L:=L) (K:=K));have kk2:=@hid _ (fun L K=>Tz (n:=n) (k:=i) (by omega) (by omega) (by omega) (L:=L) (K:=K));refine wk ?_;exact af h.out
def ahk:Except Int (Nat×Nat)->AV
 | .error e=>.tup [.int .i64 0,.int .i64 0,.int .i64 e]
 | .ok (n,a)=>.tup [.int .i64 (n:Int),.int .i64 (a:Int),.int .i64 0]
theorem X6 {s:List UInt8} (hs:s.length<=1100000) (h:K (ahk (rP s)) L):afB 162 [.str s] L K:=by
 unfold rP at h;refine aa Sv (by simp [y9]) ?_;simp only [y9,ag];by_cases h2:s.length<2
 ·rw [if_pos h2] at h;replace h:=hid h;have g1:(s.length:Int)<2:=by omega
  clear h2;refine wk ?_;exact af h.out
 rw [if_neg h2] at h;have g1:¬ (s.length:Int)<2:=by omega
 have g2:(1:Int)<(s.length:Int):=by omega
 have g3:1<s.length:=by omega
 obtain ⟨c,hc⟩:=aaR (s.getD 1 0);obtain ⟨k,hk⟩:=aaR (c.toNat);simp only [hc,hk] at h;have hk256:k<256:=by rw [<- hk];exact c.toNat_lt
 have w1:IntKind.i64.wrap (k:Int)=(k:Int):=ac (by omega) (by omega);by_cases h3:k<128
 ·rw [if_pos h3] at h;replace h:=hid h;have g4:(k:Int)<128:=by omega
  clear h3 h2;refine wk ?_;exact af h.out
 rw [if_neg h3] at h;have g4:¬ (k:Int)<128:=by omega
 by_cases h4:k=128\/132<k
 ·rw [if_pos h4] at h;replace h:=hid h;obtain ⟨b,hb⟩:=aaR (decide ((k:Int)=128\/(132:Int)<(k:Int)));have hbt:b=true:=by rw [<- hb,decide_eq_true_iff];omega
  subst hbt;clear h4 h3 h2;refine wk ?_;exact af h.out
 rw [if_neg h4] at h;have g5:¬ (k:Int)=128:=by omega
 have g6:¬ (132:Int)<(k:Int):=by omega
 have w2:IntKind.i64.wrap ((k:Int) - 128)=((k - 128:Nat):Int):=by rw [ac (by omega) (by omega)];omega
 have w3:IntKind.i64.wrap ((k:Int) - 126)=((k - 126:Nat):Int):=by rw [ac (by omega) (by omega)];omega
 by_cases h5:s.length<k - 126
 ·rw [if_pos h5] at h;replace h:=hid h;have kk1:Hid (Ctr Tryz.prog 137 [.str s,.int .i64 2,.int .i64 ((k - 128:Nat):Int)] (.tup [.int .u64 0,.bool false])):=@hid _ (by intro L K q;exact aaa (by omega) (by omega) (by omega) (by omega) q);clear h5 h4 h3 h2;refine wk ?_;exact af h.out
 rw [if_neg h5] at h;obtain ⟨n,hn⟩:=aaR (kw ((s.drop 2).take (k - 128)));have kk1:Hid (Ctr Tryz.prog 137 [.str s,.int .i64 2,.int .i64 ((k - 128:Nat):Int)] (.tup [.int .u64 (n:Int),.bool true])):=@hid _ (by intro L K q;exact adi (a:=2) (z:=k - 128) (by omega) (by omega) (by omega) (by omega) (by rw [hn];exact q));rw [hn] at h;by_cases h6:1048576<n
 ·rw [if_pos h6] at h;replace h:=hid h;have g7:(1048576:Int)<(n:Int):=by omega
  clear h6 h5 h4 h3 h2 hn;refine wk ?_;exact af h.out
 ·rw [if_neg h6] at h;replace h:=hid h;have g7:¬ (1048576:Int)<(n:Int):=by omega
  have w4:IntKind.i64.wrap (n:Int)=(n:Int):=ac (by omega) (by omega);clear h6 h5 h4 h3 h2 hn;refine wk ?_;exact af h.out
theorem YW {n:Int} (h0 : -9223372036854775808<=n) (h1:n<9223372036854775808) (h:K (.str (YV n)) L):afB 60 [.int .i64 n] L K:=by
 obtain ⟨k,hk⟩:=aaR (abd n 7 1);rw [YV,hk] at h;replace h:=hid h;have w0:IntKind.u64.wrap n=((n % 18446744073709551616).toNat:Int):=by
  simp only [IntKind.wrap,IntKind.signed,IntKind.bits];simp;omega
 have hm:(n % 18446744073709551616).toNat<18446744073709551616:=by omega
 obtain ⟨m,hmm⟩:=aaR ((n % 18446744073709551616).toNat);rw [hmm] at w0 hm h;clear hmm;refine acg WH ?_;refine ah (fun m T' L'=>∃ (i:Nat),m=8 - i/\1<=i/\i<=8/\Hid (abd n (8 - i) i=k)/\T'=[(3,.int .i64 (i:Int)),(0,.int .i64 n)]/\L=L') (CutL (b:=ahn _)) ⟨1,rfl,ahn _,by omega,hid hk,rfl,rfl⟩ ?_;rintro _ _ _ ⟨i,rfl,hi1,hi,hI,rfl,rfl⟩;have w2:=ace i (by omega);have w3:IntKind.i64.wrap (8 * (i:Int))=8 * (i:Int):=ac (by omega) (by omega);have w4:IntKind.i64.wrap (8 * (i:Int) - 1)=8 * (i:Int) - 1:=ac (by omega) (by omega);have e1:min (8 * (i:Int) - 1).toNat IntKind.i64.bits=8 * i - 1:=by simp [IntKind.bits];omega
 have g2:(0:Int)<=8 * (i:Int) - 1:=by omega
 obtain ⟨q,hq⟩:=aaR (n.fdiv (2 ^ (8 * i - 1)));by_cases hlt:i<8/\q≠0/\q ≠ -1
 ·obtain ⟨c1,c2,c3⟩:=hlt;have hI2:=hI.out;rw [show 8 - i=(7 - i)+1 by omega,abd,hq,if_neg (by simp [c2,c3])] at hI2;have g3:(i:Int)<8:=by omega
  replace hI2:=hid hI2;clear hI;refine wk ?_;exact aq _ _ _ (by omega) (CutL (b:=ahn _)) ⟨i+1,rfl,by omega,by omega,hid (by rw [show 8 - (i+1)=7 - i by omega];exact hI2.out),rfl,rfl⟩
 ·have hik:i=k:=by
   have hI2:=hI.out;by_cases h8:i=8
   ·subst h8;exact hI2
   ·rw [show 8 - i=(7 - i)+1 by omega,abd,hq,if_pos (by omega)] at hI2;exact hI2
  subst hik;clear hI;by_cases h8:(i:Int)<8
  ·by_cases hq0:q=0
   ·clear hlt;subst hq0;have kk1:=@hid _ (fun L K=>Tz (n:=m) (k:=i) hi1 (by omega) hm (L:=L) (K:=K));refine wk ?_;exact af h.out
   ·have hq1:q=-1:=by omega
    clear hlt;subst hq1;have kk1:=@hid _ (fun L K=>Tz (n:=m) (k:=i) hi1 (by omega) hm (L:=L) (K:=K));refine wk ?_;exact af h.out
  ·clear hlt;have kk1:=@hid _ (fun L K=>Tz (n:=m) (k:=i) hi1 (by omega) hm (L:=L) (K:=K));refine wk ?_;exact af h.out
def ahh (o:Option Int):AV:=match o with
 | some k=>.tup [.int .i64 k,.bool true]
 | none=>.tup [.int .i64 0,.bool false]
theorem Vw {s:List UInt8} (hs:s.length<=1100000) (h:K (ahh (YM s)) L):afB 105 [.str s] L K:=by
 unfold YM at h;refine aa Sw (by simp [za]) ?_;simp only [za,ag];by_cases hl:1<=s.length/\s.length<=8;rotate_left
 ·rw [if_neg (fun e=>hl ⟨e.1,e.2.1⟩)] at h;replace h:=hid h;have kk1:Hid (Ctr Tryz.prog 137 [.str s,.int .i64 0,.int .i64 (s.length:Int)] (.tup [.int .u64 0,.bool false])):=@hid _ (by intro L K q;exact aaa (by omega) (by omega) (by omega) (by omega) q);clear hl;refine wk ?_;exact af h.out
 obtain ⟨l,hll⟩:=aaR (s.length);obtain ⟨u,hu⟩:=aaR (kw s);have hub:u<256 ^ l:=by rw [<- hu,<- hll];exact Wx s
 have hsh:=aaK (u:=u) (by omega) (show l<=8 by omega) hub;have kk1:Hid (Ctr Tryz.prog 137 [.str s,.int .i64 0,.int .i64 (l:Int)] (.tup [.int .u64 (u:Int),.bool true])):=@hid _ (by
  intro L K q;rw [<- hll];refine adi (a:=0) (z:=s.length) (by omega) (by omega) (by omega) (by omega) ?_;rw [ajJ,ahA,hu];exact q)
 obtain ⟨n,hn⟩:=aaR (aed s);have hnn:(if u<2 ^ (8 * l - 1) then (u:Int) else (u:Int) - 2 ^ (8 * l))=n:=by rw [<- hn,aed,hu,hll]
 rw [hnn] at hsh;have w1:IntKind.i64.wrap (8 * (l:Int))=8 * (l:Int):=ac (by omega) (by omega);have w2:IntKind.i64.wrap (64 - 8 * (l:Int))=64 - 8 * (l:Int):=ac (by omega) (by omega);have e1:min (64 - 8 * (l:Int)).toNat IntKind.u64.bits=64 - 8 * l:=by simp [IntKind.bits];omega
 have e2:min (64 - 8 * (l:Int)).toNat IntKind.i64.bits=64 - 8 * l:=by simp [IntKind.bits];omega
 have g1:(0:Int)<=64 - 8 * (l:Int):=by omega
 have hnb : -9223372036854775808<=n/\n<9223372036854775808:=by
  have hl':l=1\/l=2\/l=3\/l=4\/l=5\/l=6\/l=7\/l=8:=by omega
  rw [<- hnn];rcases hl' with rfl|rfl|rfl|rfl|rfl|rfl|rfl|rfl<;>simp at hub ⊢<;>split<;>omega
 rw [hn] at h;by_cases hi:YV n=s
 ·rw [if_pos ⟨hl.1,hl.2,hi⟩] at h;replace h:=hid h;have kk2:Hid (Ctr Tryz.prog 60 [.int .i64 n] (.str s)):=@hid _ (by intro L K q;exact YW hnb.1 hnb.2 (by rw [hi];exact q));clear hi hn hnn hub hu hl;refine wk ?_;exact af h.out
 ·rw [if_neg (fun e=>hi e.2.2)] at h;replace h:=hid h;obtain ⟨x,hx⟩:=aaR (YV n);have kk2:Hid (Ctr Tryz.prog 60 [.int .i64 n] (.str x)):=@hid _ (by intro L K q;exact YW hnb.1 hnb.2 (by rw [hx];exact q));rw [hx] at hi;clear hx hn hnn hub hu hl;refine wk ?_;exact af h.out
theorem ac0 {t:Int} {d:List UInt8} (h:K (.agg (ndA (.mk t d []))) L):afB 59 [.int .i64 t,.str d] L K:=by
 rw [bG] at h;replace h:=hid h;refine acg U3 ?_;exact ay (ab rfl h.out)
theorem Yq {d:List UInt8} (h:K (.agg (ndA (bC d))) L):afB 61 [.str d] L K:=by
 rw [bC,bG] at h;replace h:=hid h;have kk1:Hid (Ctr Tryz.prog 59 [.int .i64 4,.str d] (.agg [.int .i64 4,.str d,.sl [] 0 none])):=@hid _ (by intro L K q;exact ac0 (by rw [bG];exact q));refine acg Re ?_;exact ay (ab rfl h.out)
theorem TN {l:List Nd} {cap:Option Nat} (hl:l.length<=1100000) (H:∀ n∈l,∀ {cap:Option Nat} {L:List Blk} {K:afC},K (.sl (aC n.kids) n.kids.length none) L->afB 99 [.sl (aC n.kids) n.kids.length cap] L K)
  {L:List Blk} {K:afC} (h:K (.sl (aC l) l.length none) L):afB 99 [.sl (aC l) l.length cap] L K:=by
 replace h:=hid h;replace H:=@hid _ @H;refine acg U2 ?_;refine bi (l:=[]) (n:=0) 3 3 rfl (ahQ 3).symm ?_;refine ah (fun m T' L'=>∃ (k:Nat) (C:List AV) (X:List Blk),m=l.length - k/\k<=l.length/\C=aC (l.take k)/\T'=[(8,.int .i64 (k:Int)),(7,.int .i64 l.length),(6,.sl (aC l) l.length cap),(3,.gsl C k L.length 3)]/\L'=L++(.spare k 3::X)) (CutS (b:=by simp)) ⟨0,[],[],rfl,ahp _,rfl,rfl,rfl⟩ ?_;rintro _ _ _ ⟨k,C,X,rfl,hk,hC,rfl,rfl⟩;by_cases hlt:k<l.length
 ·have g1:(k:Int)<(l.length:Int):=by omega
  have g2:=ace k (by omega);have e3:=gh hlt;have e4:k * 3+3<=(aC l).length:=by rw [dH];omega
  obtain ⟨⟨t,d,ks⟩,ha⟩:∃ a,l.getD k bd=a:=⟨_,rfl⟩;have htk:aC (l.take (k+1))=aC (l.take k)++[.int .i64 t,.str d,.sl (aC ks) ks.length none]:=by
   rw [ahK hlt,gN,show l[k]=.mk t d ks by rw [<- ha];simp [hlt],aC,bG];rfl
  have kk1:Hid (Ctr Tryz.prog 99 [.sl (aC ks) ks.length none] (.sl (aC ks) ks.length none)):=@hid _ (by
   intro L K q;exact H.out (.mk t d ks) (by rw [<- ha];simp [hlt]) q)
  rw [ha,bG] at e3;have e0:=bR ks;replace htk:=hid htk;replace hC:=hid hC;clear ha;refine wk ?_;exact aq _ _ _ (by omega) (CutL (b:=by simp)) ⟨k+1,_,_,rfl,hlt,by rw [htk.out,hC.out],rfl,rfl⟩
 ·have hke:k=l.length:=by omega
  subst hke;have g1:¬ (l.length:Int)<(l.length:Int):=by omega
  rw [ahA] at hC;subst hC;have e0:=bR l;refine wk ?_;refine ay ?_;simp only [AV.frz,e0];exact ab (by simp only [AV.refs,dP]) h.out
theorem Xs {cap:Option Nat} (h:K (.sl [] 0 none) L):afB 99 [.sl [] 0 cap] L K:=TN (l:=[]) (by simp) (fun n hn=>by cases hn) h
theorem ZY:∀ (h:Nat) {l:List Nd} {cap:Option Nat} (hl:l.length<=1100000) (ho:∀ n∈l,okN h n) {L:List Blk} {K:afC} (hK:K (.sl (aC l) l.length none) L),afB 99 [.sl (aC l) l.length cap] L K
 | 0,l,cap,hl,ho,L,K,hK=>TN hl (fun n hn=>by
  intro cap L K q;obtain ⟨t,d,ks⟩:=n;obtain ⟨_,rfl,_⟩:=ho _ hn;exact Xs q) hK
 | h+1,l,cap,hl,ho,L,K,hK=>TN hl (fun n hn=>by
  intro cap L K q;obtain ⟨t,d,ks⟩:=n;rcases ho _ hn with ⟨_,rfl,_⟩|⟨_,_,hk,hk2⟩
  ·exact Xs q
  ·exact ZY h (l:=ks) (by omega) hk2 q) hK
theorem ZI {h:Nat} {t:Int} {l:List Nd} {cap:Option Nat} (hl:l.length<=1100000) (ho:∀ n∈l,okN h n) {L:List Blk} {K:afC} (hK:K (.agg (ndA (.mk t [] l))) L):afB 64 [.int .i64 t,.sl (aC l) l.length cap] L K:=by
 rw [bG] at hK;replace hK:=hid hK;have e0:=bR l;refine aa WF (by simp [Q2]) ?_;simp only [Q2,ag];have kk1:=@hid _ (fun L K=>ZY h (cap:=cap) hl ho (L:=L) (K:=K));refine wk ?_;refine ay ?_;simp only [AV.frz,AV.frzL,e0];exact ab (by simp only [AV.refs,AV.refsL,dP];rfl) hK.out
theorem S6 (n:Nat):(rH n).length<=4:=by
 unfold rH
 repeat' split
 all_goals simp
theorem Qq:∀ (h:Nat) (n:Nd),(cM h n).2=0->(cM h n).1.length<=1048581
 | 0,.mk t d ks,h=>by
   rw [cM] at h ⊢;split at h
   ·cases h
   rename_i e
   have:=S6 d.length;rw [if_neg e];simp;omega
 | k+1,.mk t d ks,h=>by
   rw [cM] at h ⊢;split at h
   ·rename_i e;exact absurd h e
   rename_i e
   rw [if_neg e];split at h
   ·cases h
   rename_i e2
   have:=S6 (iN (cM k) d ks).1.length;rw [if_neg e2];simp;omega
theorem Vp {t:Int} {d:List UInt8} {dep:Int} (h:Nat) (ht:t=2\/t=4) (hd:(d.length:Int)<=140737488351232) (h0:1<=dep) (h64:dep<=64) {cap:Option Nat} (hK:K (.tup [.str (cM h (.mk t d [])).1,.int .i64 (cM h (.mk t d [])).2]) L) :
  afB 100 [.agg [.int .i64 t,.str d,.sl [] 0 cap],.int .i64 dep] L K:=by
 have hp:∀ h,cM h (.mk t d [])=if 1048576<d.length then ([],5) else (b8 t.toNat::(rH d.length++d),0):=fun h=>by
  cases h with
  | zero=>rfl
  | succ h=>rw [cM,if_neg (by simp [iN])];rfl
 rw [hp] at hK;have g1:¬ (64:Int)<dep:=by omega
 have g2:¬ t<0:=by omega
 have g3:¬ (255:Int)<t:=by omega
 have g4:IntKind.i64.wrap (BitVec.ofInt IntKind.i64.bits t &&& BitVec.ofInt IntKind.i64.bits 31).toNat=t:=by rcases ht with rfl|rfl<;>decide
 have g5:¬ t=31:=by omega
 have g6:IntKind.i64.wrap (BitVec.ofInt IntKind.i64.bits t &&& BitVec.ofInt IntKind.i64.bits 32).toNat=0:=by rcases ht with rfl|rfl<;>decide
 have w0:IntKind.u64.wrap t=(t.toNat:Int):=by rcases ht with rfl|rfl<;>decide
 have htn:t.toNat<18446744073709551616:=by omega
 have e0:=OI d;have e1:=V1 d;have e3:(u8s d).take d.length=u8s d:=by rw [<- K1 d,ahA]
 by_cases hl:1048576<d.length
 ·rw [if_pos hl] at hK;replace hK:=hid hK;have g7:(1048576:Int)<(d.length:Int):=by omega
  clear hp hl ht;refine acg yZ ?_;refine ah (fun m T' L'=>∃ (X:List Blk),m=0/\T'=[(57,.int .i64 0),(56,.int .i64 0),(6,.gsl (u8s d) d.length (L.length+1) 1),(2,.ptr L.length 0)]/\L'=L++[.cells [.int .i64 t,.str d,.sl [] 0 cap],.spare d.length 1]) (CutS (b:=by simp)) ⟨[],rfl,rfl,rfl⟩ ?_;rintro _ _ _ ⟨X,rfl,rfl,rfl⟩;refine wk ?_;exact ab rfl hK.out
 ·rw [if_neg hl] at hK;replace hK:=hid hK;have g7:¬ (1048576:Int)<(d.length:Int):=by omega
  have g8:=S6 d.length;clear hp ht;refine acg yZ ?_;refine ah (fun m T' L'=>∃ (X:List Blk),m=0/\T'=[(57,.int .i64 0),(56,.int .i64 0),(6,.gsl (u8s d) d.length (L.length+1) 1),(2,.ptr L.length 0)]/\L'=L++[.cells [.int .i64 t,.str d,.sl [] 0 cap],.spare d.length 1]) (CutS (b:=by simp)) ⟨[],rfl,rfl,rfl⟩ ?_;rintro _ _ _ ⟨X,rfl,rfl,rfl⟩;have kk1:=@hid _ (fun L K=>SZ htn (L:=L) (K:=K));have kk2:=@hid _ (fun L K=>XD (n:=d.length) (by omega) (L:=L) (K:=K));refine wk ?_;exact ab rfl hK.out
theorem V2 (s:List UInt8):AV.frzL (u8s s)=u8s s:=by rw [AV.frzL_eq,u8s,ahS];rfl
theorem V0 (s:List UInt8):(u8s s).all AV.one=true:=by
 rw [ahC];intro a ha;simp only [u8s,ahs] at ha;obtain ⟨c,_,rfl⟩:=ha;rfl
theorem ZC (a b:List UInt8):u8s (a++b)=u8s a++u8s b:=by simp [u8s]
theorem aaY {t:Int} {ks:List Nd} {p:Nd->List UInt8×Int} {dep:Int} (ht:t=48\/t=49) (hks:ks.length<=1100000) (hp:∀ n,(p n).2=0->(p n).1.length<=1048581) (h0:1<=dep) (h64:dep<=63)
  (H:∀ n∈ks,∀ (L:List Blk) (K:AV->List Blk->Prop),K (.tup [.str (p n).1,.int .i64 (p n).2]) L->afB 100 [.agg (ndA n),.int .i64 (dep+1)] L K) {R:List UInt8×Int}
  (hR:(if (iN p [] ks).2≠0 then ([],(iN p [] ks).2) else if 1048576<(iN p [] ks).1.length then ([],5) else (b8 t.toNat::(rH (iN p [] ks).1.length++(iN p [] ks).1),0))=R)
  {cap:Option Nat} {L:List Blk} {K:afC} (hK:K (.tup [.str R.1,.int .i64 R.2]) L) :
  afB 100 [.agg [.int .i64 t,.str [],.sl (aC ks) ks.length cap],.int .i64 dep] L K:=by
 obtain ⟨Q,hQ⟩:=aaR (iN p [] ks);rw [hQ] at hR;replace hK:=hid hK;replace hR:=hid hR;replace H:=@hid _ @H;replace hp:=hid hp;have g1:¬ (64:Int)<dep:=by omega
 have g2:¬ t<0:=by omega
 have g3:¬ (255:Int)<t:=by omega
 have g4:IntKind.i64.wrap (BitVec.ofInt IntKind.i64.bits t &&& BitVec.ofInt IntKind.i64.bits 31).toNat=t - 32:=by rcases ht with rfl|rfl<;>decide
 have g5:¬ t - 32=31:=by omega
 have g6:IntKind.i64.wrap (BitVec.ofInt IntKind.i64.bits t &&& BitVec.ofInt IntKind.i64.bits 32).toNat=32:=by rcases ht with rfl|rfl<;>decide
 have w0:IntKind.u64.wrap t=(t.toNat:Int):=by rcases ht with rfl|rfl<;>decide
 have w1:IntKind.i64.wrap (dep+1)=dep+1:=ac (by omega) (by omega);have htn:t.toNat<18446744073709551616:=by omega
 have e00:u8s []=[]:=rfl;clear ht;refine acg yZ ?_;refine ah (fun m T' L'=>∃ (i z:Nat) (acc:List UInt8) (C:List AV) (X:List Blk),m=ks.length - i/\i<=ks.length/\Hid (iN p acc (ks.drop i)=Q)/\z<=i * 1048581/\Hid (C=u8s acc/\z=acc.length)/\T'=[(57,.int .i64 (i:Int)),(56,.int .i64 ks.length),(55,.sl (aC ks) ks.length cap),(6,.gsl C z (L.length+1) 1),(2,.ptr L.length 0),(1,.int .i64 dep)]/\L'=L++(.cells [.int .i64 t,.str [],.sl (aC ks) ks.length cap] :: .spare z 1::X)) (CutS (b:=by simp)) ⟨0,0,[],[],[],rfl,ahp _,hid (by simpa using hQ),by simp,hid ⟨rfl,rfl⟩,rfl,rfl⟩ ?_;rintro _ _ _ ⟨i,z,acc,C,X,rfl,hi,hI,hal,hCz,rfl,rfl⟩;by_cases hlt:i<ks.length
 ·have g7:(i:Int)<(ks.length:Int):=by omega
  have w2:=ace i (by omega);have e3:=gh hlt;have e4:i * 3+3<=(aC ks).length:=by rw [dH];omega
  obtain ⟨n,hn⟩:=aaR (ks.getD i bd);have hnm:n∈ks:=by rw [<- hn];simp [hlt]
  have hdr:ks.drop i=n::ks.drop (i+1):=by rw [ah2 hlt,<- hn];simp [hlt]
  rw [hn,bJ] at e3;have hI2:=hI.out;rw [hdr,iN] at hI2;obtain ⟨⟨s,e⟩,hpn⟩:∃ q,p n=q:=⟨_,rfl⟩;have kk1:Hid (Ctr Tryz.prog 100 [.agg [.int .i64 n.tag,.str n.data,.sl (aC n.kids) n.kids.length none],.int .i64 (dep+1)] (.tup [.str s,.int .i64 e])):=@hid _ (by
   intro L K q;have:=H.out n hnm L K;rw [bJ,hpn] at this;exact this q)
  have hsl:e=0->s.length<=1048581:=fun e0=>by
   have:=hp.out n;rw [hpn] at this;exact this e0
  rw [hpn] at hI2;simp only at hI2;clear hI hdr hn hnm;by_cases he:e=0
  ·subst he;rw [if_neg (by simp)] at hI2;have hsl:=hsl rfl;have f1:=V2 s;have f2:=V0 s;have f3:z+s.length<=(i+1) * 1048581:=by omega
   replace hI2:=hid hI2;refine wk ?_;exact aq _ _ _ (by omega) (CutL (b:=by simp)) ⟨i+1,z+s.length,acc++s,C++u8s s,_,rfl,hlt,hI2,f3,hid ⟨by rw [hCz.out.1,ZC],by rw [hCz.out.2,ahy]⟩,rfl,rfl⟩
  ·rw [if_pos he] at hI2;have hR2:=hR.out;rw [<- hI2,if_pos he] at hR2;have h':=hK.out;rw [<- hR2] at h';replace h':=hid h';clear hI2 hR2;refine wk ?_;exact ab rfl h'.out
 ·have hke:i=ks.length:=by omega
  subst hke;have g7:¬ (ks.length:Int)<(ks.length:Int):=by omega
  have hI2:=hI.out;rw [aij,iN] at hI2;have hR2:=hR.out;rw [<- hI2,if_neg (by simp)] at hR2;simp only at hR2;obtain ⟨rfl,rfl⟩:=hCz.out;have e0:=OI acc;have e1:=V1 acc;have e3:(u8s acc).take acc.length=u8s acc:=by rw [<- K1 acc,ahA]
  have h':=hK.out;clear hI hI2 hCz;by_cases hl:1048576<acc.length
  ·rw [if_pos hl] at hR2;rw [<- hR2] at h';replace h':=hid h';have g8:(1048576:Int)<(acc.length:Int):=by omega
   clear hl hR2;refine wk ?_;exact ab rfl h'.out
  ·rw [if_neg hl] at hR2;rw [<- hR2] at h';replace h':=hid h';have g8:¬ (1048576:Int)<(acc.length:Int):=by omega
   have g9:=S6 acc.length;clear hR2;have kk1:=@hid _ (fun L K=>SZ htn (L:=L) (K:=K));have kk2:=@hid _ (fun L K=>XD (n:=acc.length) (by omega) (L:=L) (K:=K));refine wk ?_;exact ab rfl h'.out
theorem afk:∀ (h:Nat) {n:Nd} {dep:Int} (ho:okN h n) (h0:1<=dep) (h64:dep+h<=64) {L:List Blk} {K:afC} (hK:K (.tup [.str (cM h n).1,.int .i64 (cM h n).2]) L),afB 100 [.agg (ndA n),.int .i64 dep] L K
 | 0,.mk t d ks,dep,ho,h0,h64,L,K,hK=>by
   obtain ⟨ht,rfl,hd⟩:=ho;rw [bG];exact Vp 0 ht hd h0 (by simpa using h64) hK
 | h+1,.mk t d ks,dep,ho,h0,h64,L,K,hK=>by
   rw [bG];rcases ho with ⟨ht,rfl,hd⟩|⟨ht,rfl,hk,hk2⟩
   ·exact Vp (h+1) ht hd h0 (by omega) hK
   ·exact aaY (p:=cM h) ht hk (Qq h) h0 (by omega) (fun n hn=>by
     intro L K q;exact afk h (hk2 n hn) (by omega) (by omega) q) rfl (by rw [cM] at hK;exact hK)
theorem afp {n:Nd} (ho:okN 4 n) {L:List Blk} {K:afC} (hK:K (.tup [.str (cM 4 n).1,.int .i64 (cM 4 n).2]) L):afB 66 [.agg (ndA n)] L K:=by
 obtain ⟨⟨s,e⟩,hp⟩:∃ q,cM 4 n=q:=⟨_,rfl⟩;rw [hp] at hK;replace hK:=hid hK;have kk1:Hid (Ctr Tryz.prog 100 [.agg [.int .i64 n.tag,.str n.data,.sl (aC n.kids) n.kids.length none],.int .i64 1] (.tup [.str s,.int .i64 e])):=@hid _ (by
  intro L K q;have:=@afk 4 n 1 ho (by omega) (by omega) L K;rw [bJ,hp] at this;exact this q)
 rw [bJ];refine acg WG ?_;exact ab rfl hK.out
def rX (a:Atr):Nd:=.mk 48 [] [bC a.1,.mk 49 [] (a.2.map bC)]
theorem K6 {s:List UInt8} (h:(s.length:Int)<=140737488351232):∀ k:Nat,okN k (bC s)
 | 0=>⟨.inr rfl,rfl,h⟩
 | _+1=>.inl ⟨.inr rfl,rfl,h⟩
theorem aeA {l:List (List UInt8)} {cap:Option Nat} (hl:l.length<=1100000) (h:K (.sl (aC (l.map bC)) l.length none) L):afB 65 [.sl (l.map AV.str) l.length cap,.func 61 []] L K:=by
 replace h:=hid h;refine acg lC ?_;refine bi (l:=[]) (n:=0) 5 3 rfl (ahQ 3).symm ?_;refine ah (fun m T' L'=>∃ (k:Nat) (C:List AV) (X:List Blk),m=l.length - k/\k<=l.length/\C=aC ((l.take k).map bC)/\T'=[(10,.int .i64 (k:Int)),(9,.int .i64 l.length),(8,.sl (l.map AV.str) l.length cap),(5,.gsl C k L.length 3),(1,.func 61 [])]/\L'=L++(.spare k 3::X)) (CutS (b:=by simp)) ⟨0,[],[],rfl,ahp _,rfl,rfl,rfl⟩ ?_;rintro _ _ _ ⟨k,C,X,rfl,hk,hC,rfl,rfl⟩;by_cases hlt:k<l.length
 ·have g1:(k:Int)<(l.length:Int):=by omega
  have g2:=ace k (by omega);obtain ⟨s,hs⟩:=aaR (l.getD k []);have e3:(l.map AV.str).getD k .undef=.str s:=by rw [<- hs];simp [hlt]
  have e4:k<(l.map AV.str).length:=by simpa using hlt
  have htk:aC ((l.take (k+1)).map bC)=aC ((l.take k).map bC)++[.int .i64 4,.str s,.sl [] 0 none]:=by
   rw [ahK hlt,ahN,gN,show l[k]=s by rw [<- hs];simp [hlt]];rfl
  have kk1:Hid (Ctr Tryz.prog 61 [.str s] (.agg [.int .i64 4,.str s,.sl [] 0 none])):=@hid _ (by intro L K q;exact Yq (by rw [bC,bG];exact q));replace htk:=hid htk;replace hC:=hid hC;clear hs;refine wk ?_;exact aq _ _ _ (by omega) (CutL (b:=by simp)) ⟨k+1,_,_,rfl,hlt,by rw [htk.out,hC.out],rfl,rfl⟩
 ·have hke:k=l.length:=by omega
  subst hke;have g1:¬ (l.length:Int)<(l.length:Int):=by omega
  rw [ahA] at hC;subst hC;have e0:=bR (l.map bC);refine wk ?_;refine ay ?_;simp only [AV.frz,e0];exact ab (by simp only [AV.refs,dP]) h.out
theorem aga {a:Atr} (h1:(a.1.length:Int)<=140737488351232) (h2:a.2.length<=1100000) (h3:∀ v∈a.2,(v.length:Int)<=140737488351232) (h:K (.agg (ndA (rX a))) L):afB 63 [.agg (atA a)] L K:=by
 obtain ⟨n,vs⟩:=a;simp only at h1 h2 h3;have hv:∀ k∈vs.map bC,okN 0 k:=fun k hk=>by
  obtain ⟨v,hv,rfl⟩:=ahs.1 hk;exact K6 (h3 v hv) 0
 have hk2:∀ k∈[bC n,.mk 49 [] (vs.map bC)],okN 1 k:=fun k hk=>by
  simp only [ahR,air,or_false] at hk;rcases hk with rfl|rfl
  ·exact K6 h1 1
  ·exact .inr ⟨.inr rfl,rfl,by simpa using h2,hv⟩
 have kk1:Hid (Ctr Tryz.prog 61 [.str n] (.agg [.int .i64 4,.str n,.sl [] 0 none])):=@hid _ (by intro L K q;exact Yq (by rw [bC,bG];exact q));have kk2:Hid (Ctr Tryz.prog 65 [.sl (vs.map AV.str) vs.length none,.func 61 []] (.sl (aC (vs.map bC)) vs.length none)):=@hid _ (by intro L K q;exact aeA (by omega) q);have kk3:Hid (Ctr Tryz.prog 64 [.int .i64 49,.sl (aC (vs.map bC)) vs.length none] (.agg [.int .i64 49,.str [],.sl (aC (vs.map bC)) vs.length none])):=@hid _ (by
  intro L K q;have:=ZI (h:=0) (t:=49) (l:=vs.map bC) (cap:=none) (L:=L) (K:=K) (by rw [ahF];omega) hv;rw [bG,ahF] at this;exact this q)
 have kk4:Hid (∀ {cap:Option Nat} {L:List Blk} {K:afC},K (.agg [.int .i64 48,.str [],.sl [.int .i64 4,.str n,.sl [] 0 none,.int .i64 49,.str [],.sl (aC (vs.map bC)) vs.length none] 2 none]) L->afB 64 [.int .i64 48,.sl [.int .i64 4,.str n,.sl [] 0 none,.int .i64 49,.str [],.sl (aC (vs.map bC)) vs.length none] 2 cap] L K):=@hid _ (by
  intro cap L K q;have:=ZI (h:=1) (t:=48) (l:=[bC n,.mk 49 [] (vs.map bC)]) (cap:=cap) (L:=L) (K:=K) (by simp) hk2;rw [bG] at this;simp only [aC,bC,bG,ahF,ahO,aig,ah3,ahD,ahZ] at this;exact this q)
 have h':K (.agg [.int .i64 48,.str [],.sl [.int .i64 4,.str n,.sl [] 0 none,.int .i64 49,.str [],.sl (aC (vs.map bC)) vs.length none] 2 none]) L:=by
  rw [rX,bG] at h;simp only [aC,bC,bG,ahF,ahO,aig,ah3,ahD,ahZ] at h;exact h
 replace h:=hid h';have e0:=bR (vs.map bC);have e1:=fun p=>dP p (vs.map bC)
 clear h1 h2 h3 hv hk2 h';refine acg Lh ?_;refine ab ?_ h.out;simp only [AV.refs,AV.refsL,e1];rfl
theorem aeB {l:List Atr} {cap:Option Nat} (hl:l.length<=1100000) (hs:∀ a∈l,(a.1.length:Int)<=140737488351232/\a.2.length<=1100000/\∀ v∈a.2,(v.length:Int)<=140737488351232) (h:K (.sl (aC (l.map rX)) l.length none) L):afB 62 [.sl (aU l) l.length cap,.func 63 []] L K:=by
 replace h:=hid h;replace hs:=hid hs;refine acg jR ?_;refine bi (l:=[]) (n:=0) 5 3 rfl (ahQ 3).symm ?_;refine ah (fun m T' L'=>∃ (k:Nat) (C:List AV) (X:List Blk),m=l.length - k/\k<=l.length/\C=aC ((l.take k).map rX)/\T'=[(10,.int .i64 (k:Int)),(9,.int .i64 l.length),(8,.sl (aU l) l.length cap),(5,.gsl C k L.length 3),(1,.func 63 [])]/\L'=L++(.spare k 3::X)) (CutS (b:=by simp)) ⟨0,[],[],rfl,ahp _,rfl,rfl,rfl⟩ ?_;rintro _ _ _ ⟨k,C,X,rfl,hk,hC,rfl,rfl⟩;by_cases hlt:k<l.length
 ·have g1:(k:Int)<(l.length:Int):=by omega
  have g2:=ace k (by omega);have e3:=ql hlt;have e4:k * 2+2<=(aU l).length:=by rw [rQ];omega
  obtain ⟨⟨n,vs⟩,ha⟩:∃ a,l.getD k ([],[])=a:=⟨_,rfl⟩;have hm:=hs.out (n,vs) (by rw [<- ha];simp [hlt]);obtain ⟨ks,hks⟩:=aaR (aC [bC n,.mk 49 [] (vs.map bC)]);have htk:aC ((l.take (k+1)).map rX)=aC ((l.take k).map rX)++[.int .i64 48,.str [],.sl ks 2 none]:=by
   rw [ahK hlt,ahN,gN,show l[k]=(n,vs) by rw [<- ha];simp [hlt],<- hks];simp only [ahH,aif,aC,rX,bG,ahO];rfl
  have kk1:Hid (Ctr Tryz.prog 63 [.agg [.str n,.sl (vs.map AV.str) vs.length none]] (.agg [.int .i64 48,.str [],.sl ks 2 none])):=@hid _ (by
   intro L K q;refine aga (a:=(n,vs)) hm.1 hm.2.1 hm.2.2 ?_;rw [rX,bG,hks];exact q)
  have e0:AV.frzL ks=ks:=by rw [<- hks];exact bR _
  rw [ha] at e3;simp only [atA] at e3;replace htk:=hid htk;replace hC:=hid hC;clear ha hks hm;refine wk ?_;exact aq _ _ _ (by omega) (CutL (b:=by simp)) ⟨k+1,_,_,rfl,hlt,by rw [htk.out,hC.out],rfl,rfl⟩
 ·have hke:k=l.length:=by omega
  subst hke;have g1:¬ (l.length:Int)<(l.length:Int):=by omega
  rw [ahA] at hC;subst hC;have e0:=bR (l.map rX);refine wk ?_;refine ay ?_;simp only [AV.frz,e0];exact ab (by simp only [AV.refs,dP]) h.out
end Go.Proofs.YtobihfefmlgaoaaGreat.Av
