/- Joined texts of the walk, made small by a program. -/
import Derived.Test.YtdnlpmegogejpaaGreatDoorWP4
import Derived.Test.YtdnlpmegogejpaaGreatDoorRows
import Derived.KernelRfl
import Derived.Test.YtdnlpmegogejpaaGreatDoorWE4
set_option linter.unusedSimpArgs false
set_option linter.unusedVariables false
namespace Go.Proofs.YtdnlpmegogejpaaGreatDoor.Av
open Go
mutual
def AV.beq:AV→AV→Bool
 | .undef,.undef=>true
 | .bool a,.bool b=>a == b
 | .anyb,.anyb=>true
 | .int k a,.int j b=>decide (k=j) && decide (a=b)
 | .str a,.str b=>decide (a=b)
 | .nilptr,.nilptr=>true
 | .gptr g o,.gptr h p=>Nat.beq g h && Nat.beq o p
 | .ptr i o,.ptr j p=>Nat.beq i j && Nat.beq o p
 | .iptr l o,.iptr m p=>Nat.beq o p && AV.beqL l m
 | .nilsl,.nilsl=>true
 | .sl l n c,.sl m k d=>Nat.beq n k && decide (c=d) && AV.beqL l m
 | .lsl i o n c s,.lsl j p k d t=>Nat.beq i j && Nat.beq o p && Nat.beq n k && decide (c=d) && Nat.beq s t
 | .gsl l n i s,.gsl m k j t=>Nat.beq n k && Nat.beq i j && Nat.beq s t && AV.beqL l m
 | .nilmap,.nilmap=>true
 | .lmap i,.lmap j=>Nat.beq i j
 | .func f l,.func g m=>Nat.beq f g && AV.beqL l m
 | .nilfunc,.nilfunc=>true
 | .nilif,.nilif=>true
 | .iface t a,.iface u b=>Nat.beq t u && AV.beq a b
 | .agg l,.agg m=>AV.beqL l m
 | .tup l,.tup m=>AV.beqL l m
 | _,_=>false
def AV.beqL:List AV→List AV→Bool
 | [],[]=>true
 | a::l,b::m=>AV.beq a b && AV.beqL l m
 | _,_=>false
end
def oX (op:BinOp) (x y:AV):Bool :=
 match op,x,y with
 | .shl,.int _ _,.int _ b=>decide (0≤b)
 | .shr,.int _ _,.int _ b=>decide (0≤b)
 | .quo,.int _ _,.int _ b => !decide (b=0)
 | .rem,.int _ _,.int _ b => !decide (b=0)
 | .add,.str x,.str y=>decide (((x.length+y.length:Nat):Int)≤9223372036854775807)
 | _,_,_=>true
def Dg (L:List Blk) (sz:Nat):AV→Bool
 | .sl l n _=>decide (l.length=n * sz)
 | .gsl _ _ _ s=>decide (s=sz)
 | .lsl i off n _ _=>match L[i]? with
   | some (.cells l)=>decide (off+n * sz≤l.length)
   | some (.bytes l)=>decide (off+n * sz≤l.length)
   | _=>false
 | _=>true
def H5 (own:Nat) (sz bytes:Nat) (L:List Blk) (a b:AV):Bool :=
 match elems L sz b with
 | none=>false
 | some (_,new,n)=>Dg L sz b && match a with
   | .sl l m (some k) =>
     if own=1 then decide (m=k∧l.length=m * sz∧(m+n) * bytes≤140737488355328∧m+n≤140737488355328)
     else if own=2 then (if n=0 then decide (m≤k) else decide (m=k∧l.length=m * sz∧(m+n) * bytes≤140737488355328∧m+n≤140737488355328))
     else decide (m=k∧l.length=m * sz∧(m+n) * bytes≤140737488355328∧m+n≤140737488355328)
   | .gsl _ m i s=>match L[i]? with
     | some (.spare m' s')=>new.all AV.one && decide (s=sz∧m'=m∧s'=sz∧(m+n) * bytes≤140737488355328∧m+n≤140737488355328)
     | _=>false
   | .lsl i off m _ _=>match L[i]? with
     | some (.cells l)=>new.all AV.one && decide (off+m * sz≤l.length∧(m+n) * bytes≤140737488355328∧m+n≤140737488355328)
     | _=>false
   | _=>true
def eV (T:Tm) (L:List Blk):LOp→Bool
 | .load g sz x=>match (evD T x).bind (row L) with
   | some (l,off)=>if g then decide (off+sz≤l.length) else decide (off<l.length)
   | none=>true
 | .store sz a x=>match evX T a with
   | some (.ptr i off)=>match L[i]? with
     | some (.cells l)=>decide (off+sz≤l.length)
     | some (.bytes l)=>decide (off+sz≤l.length)
     | _=>true
   | _=>true
 | .bin op x y=>match evX T x,evX T y with
   | some a,some b=>oX op a b
   | _,_=>true
 | .b2s x=>match evX T x with
   | none=>true
   | some v=>match elems L 1 v with
     | some (_,l,_)=>Dg L 1 v && l.all C3
     | none=>true
 | .mkslice sz bytes z l c=>match evX T l,evX T c with
   | some (.int _ n),some (.int _ m)=>decide (0≤n∧n≤m∧bytes * m≤2 ^ 48∧m<2 ^ 62)
   | _,_=>true
 | .slS x lo hi=>match evX T x,bnd T lo,bnd T hi with
   | some (.str s),some lo,some hi=>decide (0≤lo.getD 0∧lo.getD 0≤hi.getD s.length∧hi.getD s.length≤s.length)
   | _,_,_=>true
 | .slV sz x lo hi mx=>match evX T x,bnd T lo,bnd T hi,bnd T mx with
   | some .nilsl,some lo,some hi,some none=>decide (lo.getD 0=0∧hi.getD 0=0)
   | some (.sl l n cap),some lo,some hi,some none=>decide (0≤lo.getD 0∧lo.getD 0≤hi.getD n∧hi.getD n≤n)
   | some (.gsl l n _ _),some lo,some (some hi),some (some m)=>decide (0≤lo.getD 0∧lo.getD 0≤hi∧hi≤n∧hi≤m∧m≤n)
   | some (.sl l n _),some lo,some (some hi),some (some m)=>decide (0≤lo.getD 0∧lo.getD 0≤hi∧hi≤n∧hi≤m∧m≤n)
   | some (.gsl l n _ s),some lo,some hi,some none=>decide (s=sz∧0≤lo.getD 0∧lo.getD 0≤hi.getD n∧hi.getD n≤n)
   | some (.lsl i off n cap s),some lo,some hi,some none=>decide (0≤lo.getD 0∧lo.getD 0≤hi.getD n∧hi.getD n≤((cap.getD n:Nat):Int))
   | _,_,_,_=>true
 | .slA n sz x lo hi=>match evD T x,bnd T lo,bnd T hi with
   | some (.iptr l off),some lo,some hi=>decide (0≤lo.getD 0∧lo.getD 0≤hi.getD n∧hi.getD n≤n∧off+n * sz≤l.length)
   | some (.ptr i off),some lo,some hi=>match L[i]? with
     | some (.cells l)=>decide (0≤lo.getD 0∧lo.getD 0≤hi.getD n∧hi.getD n≤n∧off+n * sz≤l.length)
     | _=>true
   | _,_,_=>true
 | .field g o sz x=>match evX T x with
   | some (.agg l)=>if g then decide (o+sz≤l.length) else decide (o<l.length)
   | _=>true
 | .iaddr sz x i=>match evX T x,evX T i with
   | some (.sl l n _),some (.int _ k)=>decide (0≤k∧k<n)
   | some (.gsl l n _ _),some (.int _ k)=>decide (0≤k∧k<n)
   | some (.lsl j off n _ _),some (.int _ k)=>decide (0≤k∧k<n)
   | _,_=>true
 | .iaddrA n sz x i=>match evD T x,evX T i with
   | some (.iptr l off),some (.int _ k)=>decide (0≤k∧k<n)
   | some (.ptr j off),some (.int _ k)=>decide (0≤k∧k<n)
   | _,_=>true
 | .idxS x i=>match evX T x,evX T i with
   | some (.str s),some (.int _ k)=>decide (0≤k∧k<s.length)
   | _,_=>true
 | .appz sz bytes z a n=>match evX T a,evX T n with
   | some (.lsl i off m (some cp) s),some (.int _ k)=>match L[i]? with
     | some (.cells l)=>decide (0≤k∧k≤1099511627776∧cp<m+k.toNat∧off+m * sz≤l.length∧(m+k.toNat) * bytes≤140737488355328∧m+k.toNat≤140737488355328)
     | _=>true
   | _,_=>true
 | .app own sz bytes _ a b=>match evX T a,evX T b with
   | some a,some b=>H5 own sz bytes L a b
   | _,_=>true
 | .copy sz a b=>match evX T a,evX T b with
   | some (.lsl i off m _ s),some b=>match elems L sz b,L[i]? with
     | some (_,new,n),some (.cells l)=>Dg L sz b && decide (off+m * sz≤l.length) && (new.take (min n m * sz)).all AV.one
     | _,_=>true
   | _,some b=>Dg L sz b
   | _,_=>true
 | .clear sz z x=>match evX T x with
   | some (.lsl i off m _ s)=>match L[i]? with
     | some (.cells l)=>decide (off+m * sz≤l.length)
     | _=>true
   | _=>true
 | _=>true
def fO (T:Tm) (L:List Blk) (lo:LOp):Option (AV×List Blk) :=
 match ac T L lo with
 | some (_,v,L')=>if eV T L lo=true then some (v,L') else none
 | none=>none
def KZ:Tm→Nat→Option AV
 | [],_=>none
 | (d,v)::T,t=>match Nat.beq d t with
   | true=>some v
   | false=>KZ T t
theorem IS:∀ (T:Tm) (t:Nat),KZ T t=ak T t
 | [],_=>rfl
 | (d,v)::T,t=>by
   simp only [KZ,ak]
   cases h:Nat.beq d t with
   | true=>rw [if_pos (Nat.eq_of_beq_eq_true h)]
   | false=>rw [if_neg (fun e=>by rw [e,Nat.beq_refl] at h;cases h)];exact IS T t
def evF (T:Tm):Opd→Option AV
 | .tmp t=>KZ T t
 | .av a=>some a
theorem fP (T:Tm) (x:Opd):evF T x=evX T x:=by
 cases x with
 | tmp t=>exact IS T t
 | av a=>rfl
abbrev RE:=Option (AV×List Blk)
def yes (c:Bool) (v:AV) (L:List Blk):RE:=match c with
 | true=>some (v,L)
 | false=>none
def GB (L:List Blk):Option AV→RE
 | some v=>some (v,L)
 | none=>none
def Ko (T:Tm) (L:List Blk) (a b:Opd):Option AV→RE
 | some (.bool true)=>GB L (evF T a)
 | some (.bool false)=>GB L (evF T b)
 | _=>none
def Kp (L:List Blk) (g:Bool) (sz:Nat):Option (List AV×Nat)→RE
 | some (l,off)=>match g with
   | true=>yes (decide (off+sz≤l.length)) (.agg ((l.drop off).take sz)) L
   | false=>yes (decide (off<l.length)) (l.getD off .undef) L
 | none=>none
def K4 (L:List Blk) (op:BinOp):Option AV→Option AV→RE
 | some a,some b=>match bin op a b with
   | some (_,v)=>yes (oX op a b) v L
   | none=>none
 | _,_=>none
def H0 (L:List Blk) (g:Bool) (o sz:Nat):Option AV→RE
 | some (.agg l)=>match g with
   | true=>yes (decide (o+sz≤l.length)) (.agg ((l.drop o).take sz)) L
   | false=>yes (decide (o<l.length)) (l.getD o .undef) L
 | _=>none
def EW (L:List Blk) (sz:Nat):Option AV→Option AV→RE
 | some (.sl l n _),some (.int _ k)=>yes (decide (0≤k∧k<n)) (.iptr l (k.toNat * sz)) L
 | some (.gsl l n _ _),some (.int _ k)=>yes (decide (0≤k∧k<n)) (.iptr l (k.toNat * sz)) L
 | some (.lsl j off n _ _),some (.int _ k)=>yes (decide (0≤k∧k<n)) (.ptr j (off+k.toNat * sz)) L
 | _,_=>none
def HZ (L:List Blk):Option AV→Option AV→RE
 | some (.str s),some (.int _ k)=>yes (decide (0≤k∧k<s.length)) (.int .u8 (s.getD k.toNat 0).toNat) L
 | _,_=>none
def Df (L:List Blk) (i:Nat):Option AV→RE
 | some (.tup l)=>GB L l[i]?
 | _=>none
def Pu (L:List Blk) (str:Bool):Option AV→RE
 | some (.str s)=>match str with
   | true=>some (.int .i64 s.length,L)
   | false=>none
 | some .nilsl=>match str with
   | true=>none
   | false=>some (.int .i64 0,L)
 | some (.sl _ n _)=>match str with
   | true=>none
   | false=>some (.int .i64 n,L)
 | some (.gsl _ n _ _)=>match str with
   | true=>none
   | false=>some (.int .i64 n,L)
 | some (.lsl _ _ n _ _)=>match str with
   | true=>none
   | false=>some (.int .i64 n,L)
 | _=>none
def Kq (L:List Blk) (k:IntKind):Option AV→RE
 | some (.int _ n)=>some (.int k (k.wrap n),L)
 | _=>none
def UG (L:List Blk) (op:UnOp):Option AV→RE
 | some a=>GB L (un op a)
 | none=>none
def K3 (L:List Blk) (neg:Bool) (k:EqK):Option AV→Option AV→RE
 | some a,some b=>match eqA k a b with
   | some r=>some (.bool (if neg then !r else r),L)
   | none=>none
 | _,_=>none
def H1 (L:List Blk) (o:Nat):Option AV→RE
 | some (.ptr i off)=>some (.ptr i (off+o),L)
 | some (.iptr l off)=>some (.iptr l (off+o),L)
 | _=>none
def iO (T:Tm) (L:List Blk) (lo:LOp):RE :=
 match lo with
 | .mv x=>GB L (evF T x)
 | .pick c a b=>Ko T L a b (evF T c)
 | .load g sz x=>Kp L g sz (((evF T x).map deg).bind (row L))
 | .bin op x y=>K4 L op (evF T x) (evF T y)
 | .field g o sz x=>H0 L g o sz (evF T x)
 | .iaddr sz x i=>EW L sz (evF T x) (evF T i)
 | .idxS x i=>HZ L (evF T x) (evF T i)
 | .extract x i=>Df L i (evF T x)
 | .len str x=>Pu L str (evF T x)
 | .conv k x=>Kq L k (evF T x)
 | .un op x=>UG L op (evF T x)
 | .eqk neg k x y=>K3 L neg k (evF T x) (evF T y)
 | .faddr o x=>H1 L o ((evF T x).map deg)
 | lo=>fO T L lo
theorem E6 (c:Bool) (v:AV) (L:List Blk):yes c v L=if c=true then some (v,L) else none:=by cases c<;>rfl
theorem FX {T:Tm} {L:List Blk} {lo:LOp} {r:AV×List Blk} (h:iO T L lo=some r):fO T L lo=some r:=by
 cases lo<;>try exact h
 case mv x =>
   simp only [iO,fP] at h
   cases hx:evX T x<;>rw [hx] at h<;>simp only [GB,reduceCtorEq] at h
   simp only [fO,ac,eV,hx,Option.map_some,if_true];exact h
 case pick c a b =>
   simp only [iO,fP] at h
   cases hc:evX T c with
   | none=>rw [hc] at h;simp [Ko] at h
   | some v =>
     rw [hc] at h
     cases v<;>simp only [Ko,reduceCtorEq] at h
     rename_i b'
     cases b'<;>simp only [fP] at h
     · cases hb:evX T b<;>rw [hb] at h<;>simp only [GB,reduceCtorEq] at h
       simp only [fO,ac,eV,hc,hb,Option.map_some,if_true];exact h
     · cases ha:evX T a<;>rw [ha] at h<;>simp only [GB,reduceCtorEq] at h
       simp only [fO,ac,eV,hc,ha,Option.map_some,if_true];exact h
 case load g sz x =>
   simp only [iO,fP] at h
   cases hr:((evX T x).map deg).bind (row L) with
   | none=>rw [hr] at h;simp [Kp] at h
   | some q =>
     obtain ⟨l,off⟩:=q
     rw [hr] at h
     have e:(evD T x).bind (row L)=some (l,off):=hr
     simp only [fO,ac,eV,e]
     cases g<;>simpa [Kp,E6] using h
 case bin op x y =>
   simp only [iO,fP] at h
   cases hx:evX T x with
   | none=>rw [hx] at h;simp [K4] at h
   | some a =>
     cases hy:evX T y with
     | none=>rw [hx,hy] at h;simp [K4] at h
     | some b =>
       rw [hx,hy] at h
       simp only [K4] at h
       cases hb:bin op a b with
       | none=>rw [hb] at h;simp at h
       | some q =>
         rw [hb] at h
         simp only [fO,ac,eV,hx,hy,hb,Option.map_some]
         simpa [E6] using h
 case field g o sz x =>
   simp only [iO,fP] at h
   cases hx:evX T x with
   | none=>rw [hx] at h;simp [H0] at h
   | some a =>
     rw [hx] at h
     cases a<;>simp only [H0,reduceCtorEq] at h
     simp only [fO,ac,eV,hx]
     cases g<;>simpa [E6] using h
 case iaddr sz x i =>
   simp only [iO,fP] at h
   cases hx:evX T x with
   | none=>rw [hx] at h;simp [EW] at h
   | some a =>
     cases hi:evX T i with
     | none=>rw [hx,hi] at h;cases a<;>simp [EW] at h
     | some b =>
       rw [hx,hi] at h
       cases a<;>cases b<;>simp only [EW,reduceCtorEq] at h<;>simp only [fO,ac,eV,hx,hi]<;>simpa [E6] using h
 case idxS x i =>
   simp only [iO,fP] at h
   cases hx:evX T x with
   | none=>rw [hx] at h;simp [HZ] at h
   | some a =>
     cases hi:evX T i with
     | none=>rw [hx,hi] at h;cases a<;>simp [HZ] at h
     | some b =>
       rw [hx,hi] at h
       cases a<;>cases b<;>simp only [HZ,reduceCtorEq] at h<;>simp only [fO,ac,eV,hx,hi]<;>simpa [E6] using h
 case extract x i =>
   simp only [iO,fP] at h
   cases hx:evX T x with
   | none=>rw [hx] at h;simp [Df] at h
   | some a =>
     rw [hx] at h
     cases a<;>simp only [Df,reduceCtorEq] at h
     rename_i l
     cases hl:l[i]? with
     | none=>rw [hl] at h;simp [GB] at h
     | some v=>rw [hl] at h;simp only [fO,ac,eV,hx,hl,Option.map_some,if_true];exact h
 case len str x =>
   simp only [iO,fP] at h
   cases hx:evX T x with
   | none=>rw [hx] at h;simp [Pu] at h
   | some a=>rw [hx] at h;cases a<;>cases str<;>simp only [Pu,reduceCtorEq] at h<;>simp only [fO,ac,eV,hx,if_true]<;>exact h
 case conv k x =>
   simp only [iO,fP] at h
   cases hx:evX T x with
   | none=>rw [hx] at h;simp [Kq] at h
   | some a=>rw [hx] at h;cases a<;>simp only [Kq,reduceCtorEq] at h<;>simp only [fO,ac,eV,hx,if_true]<;>exact h
 case un op x =>
   simp only [iO,fP] at h
   cases hx:evX T x with
   | none=>rw [hx] at h;simp [UG] at h
   | some a =>
     rw [hx] at h
     simp only [UG] at h
     cases hu:un op a with
     | none=>rw [hu] at h;simp [GB] at h
     | some v=>rw [hu] at h;simp only [fO,ac,eV,hx,hu,Option.map_some,if_true];exact h
 case eqk neg k x y =>
   simp only [iO,fP] at h
   cases hx:evX T x with
   | none=>rw [hx] at h;simp [K3] at h
   | some a =>
     cases hy:evX T y with
     | none=>rw [hx,hy] at h;simp [K3] at h
     | some b =>
       rw [hx,hy] at h
       simp only [K3] at h
       cases hq:eqA k a b with
       | none=>rw [hq] at h;simp at h
       | some v=>rw [hq] at h;simp only [fO,ac,eV,hx,hy,hq,Option.map_some,if_true];exact h
 case faddr o x =>
   simp only [iO,fP] at h
   cases hx:(evX T x).map deg with
   | none=>rw [hx] at h;simp [H1] at h
   | some a =>
     have e:evD T x=some a:=hx
     rw [hx] at h
     cases a<;>simp only [H1,reduceCtorEq] at h<;>simp only [fO,ac,eV,e,if_true]<;>exact h
abbrev iP:=FuncId→List AV→List Blk→Option (AV×List Blk)
abbrev jC:=FuncId→List AV→Option AV
def xOp (call:iP) (o:ah) (T:Tm) (L:List Blk):Option (AV×List Blk) :=
 match o.op with
 | .call f xs=>match dm T xs with
   | some args=>call f args L
   | none=>none
 | .callv f xs=>match evX T f,dm T xs with
   | some (.func g caps),some args=>call g (args++caps) L
   | _,_=>none
 | lo=>iO T L lo
def xG (call:iP) (o:ah) (T:Tm) (L:List Blk):Option (AV×List Blk) :=
 match o.guard with
 | none=>xOp call o T L
 | some (t,b)=>match ak T t with
   | some (.bool x)=>if x=b then xOp call o T L else some (.tup [],L)
   | some (.tup [])=>some (.tup [],L)
   | _=>none
def JG (call:iP):List ah→Tm→List Blk→Option (Tm×List Blk)
 | [],T,L=>some (T,L)
 | o::r,T,L=>match xG call o T L with
   | some (v,L')=>JG call r (bC o.dst v T) L'
   | none=>none
def qOp (run:jC) (o:ah) (T:Tm) (L:List Blk):Option AV :=
 match o.op with
 | .call f xs=>match dm T xs with
   | some args=>run f args
   | none=>none
 | .callv f xs=>match evX T f,dm T xs with
   | some (.func g caps),some args=>run g (args++caps)
   | _,_=>none
 | lo=>if lo.effB then none else match iO T L lo with
   | some (v,_)=>some v
   | none=>none
def qG (run:jC) (o:ah) (T:Tm) (L:List Blk):Option AV :=
 match o.guard with
 | none=>qOp run o T L
 | some (t,b)=>match ak T t with
   | some (.bool x)=>if x=b then qOp run o T L else some (.tup [])
   | some (.tup [])=>some (.tup [])
   | _=>none
mutual
def qL (run:jC) (L:List Blk):List SOp→Tm→Option Tm
 | [],T=>some T
 | s::r,T=>match qS run L s T with
   | some T'=>qL run L r T'
   | none=>none
def qS (run:jC) (L:List Blk):SOp→Tm→Option Tm
 | .op o,T=>match qOp run o T L with
   | some v=>some (bC o.dst v T)
   | none=>none
 | .grp _ t b body d x,T=>match ak T t with
   | some (.bool p)=>if p=b then (match qL run L body T with
       | some T'=>match evX T' x with
         | some (.bool q)=>some ((d,.bool q)::T)
         | _=>none
       | none=>none) else some ((d,.bool (!b))::T)
   | _=>none
end
def xL (call:iP) (run:jC):List SOp→Tm→List Blk→Option (Tm×List Blk)
 | [],T,L=>some (T,L)
 | .op o::r,T,L=>match xG call o T L with
   | some (v,L')=>xL call run r (bC o.dst v T) L'
   | none=>none
 | .grp g t b body d x::r,T,L=>match qS run L (.grp g t b body d x) T with
   | some T'=>xL call run r T' L
   | none=>none
def HD (run:jC) (o:ah) (T:Tm) (v:AV):List (List Blk)→Bool
 | []=>true
 | L::Ls=>(match qG run o T L with|some u=>u.beq v|none=>false) && HD run o T v Ls
def Tl (run:jC) (L:List Blk):List eG→Bool
 | []=>true
 | (_,o,T,v)::h=>(match qG run o T L with|some u=>u.beq v|none=>false) && Tl run L h
def xD (call:iP) (run:jC):List (ah×Kd)→List (List Blk)→List eG→Tm→Option (Tm×List Blk)
 | [],L::_,_,T=>some (T,L)
 | (o,.pure)::r,L::Ls,H,T=>match qG run o T L with
   | some v=>xD call run r (L::Ls) H (bC o.dst v T)
   | none=>none
 | (o,.read n f)::r,L::Ls,H,T=>match qG run o T L with
   | some v=>if HD run o T v (Ls.take n)=true then xD call run r (L::Ls) (Ep f o T v H) (bC o.dst v T) else none
   | none=>none
 | (o,.eff)::r,L::Ls,H,T=>match xG call o T L with
   | some (v,L2)=>if Tl run L2 H=true then xD call run r (L2::L::Ls) (ik H) (bC o.dst v T) else none
   | none=>none
 | _,[],_,_=>none
def MM (mask:List Bool) (r:Option (Tm×List Blk)):Option (Exit×Tm×List Blk) :=
 match r with
 | some (T,L)=>if JP mask T=true then some (.normal,sel mask T,L) else none
 | none=>none
def Ks (T':Tm):Tm→Tm
 | []=>[]
 | (t,_)::T=>match ak T' t with
   | some v=>(t,v)::Ks T' T
   | none=>Ks T' T
def xT (call:iP) (run:jC):Nat→bW→Tm→List Blk→Option (Exit×Tm×List Blk)
 | 0,_,_,_=>none
 | n+1,lc,T,L=>match lc with
   | .skip=>some (.normal,T,L)
   | .sreg sops mask=>if (okS sops && frB (gds sops) T)=true then MM mask (xL call run sops T L) else none
   | .sdreg sops kds mask=>if (okG none [] [] sops && frB (gds sops) T && decide (kds.length≤(SOp.flatL sops).length))=true then MM mask ((qL run L sops T).map fun T'=>(T',L)) else none
   | .dregM qk ts mask=>match xD call run qk [L] [] T with
     | some (T',L')=>MM mask (JG call ts T' L')
     | none=>none
   | .region ops=>match JG call ops T L with
     | some (T',L')=>some (.normal,T',L')
     | none=>none
   | .dregion qk ts=>match xD call run qk [L] [] T with
     | some (T',L')=>match JG call ts T' L' with
       | some (T'',L'')=>some (.normal,T'',L'')
       | none=>none
     | none=>none
   | .seq a b=>match xT call run n a T L with
     | some (.normal,T',L')=>xT call run n b T' L'
     | r=>r
   | .cond x a b=>match evX T x with
     | some (.bool true)=>xT call run n a T L
     | some (.bool false)=>xT call run n b T L
     | _=>none
   | .block id c=>match xT call run n c T L with
     | some (.exit i,T',L')=>if i=id then some (.normal,T',L') else some (.exit i,T',L')
     | r=>r
   | .loop c=>match xT call run n c T L with
     | some (.normal,T',L')=>xT call run n (.loop c) (Ks T' T) L'
     | r=>r
   | .exit id=>some (.exit id,T,L)
   | .ret=>some (.ret,T,L)
def Ho (T:Tm) (L:List Blk):List Gx→Bool
 | []=>true
 | .tmp _::l=>Ho T L l
 | .cell g sz t::l=>(match (ak T t).bind (row L) with
   | some (r,off)=>if g then decide (off+sz≤r.length) else decide (off<r.length)
   | none=>true) && Ho T L l
def QJ (T:Tm) (L:List Blk) (res:List Gx):Option AV :=
 match jA T L res with
 | some (_,rs)=>if Ho T L res=true then some (Fj rs) else none
 | none=>none
def oY (a:AV):Bool:=a.refs fun _=>false
def fo (l:List AV):Bool:=AV.refsL (fun _=>false) l
def AL:List Blk→Nat→AV→AV
 | [],_,v=>v
 | .cells l::r,i,v=>AL r (i+1) (v.snap i l)
 | _::r,i,v=>AL r (i+1) v
structure Tab where
 fn:FuncId→Option aU
 inl:FuncId→Bool
 prim:FuncId→List AV→Option AV
 primL:FuncId→List AV→List Blk→Option (AV×List Blk)
 fuel:Nat
def GN (tab:Tab) (call:iP) (run:jC) (lf:aU) (args:List AV) (L:List Blk):Option (AV×List Blk) :=
 if args.length≤lf.ntmps then match xT call run tab.fuel lf.code (ar 0 args) L with
   | some (.normal,T,L')=>match QJ T L' lf.res with
     | some v=>some (v,L')
     | none=>none
   | some (.ret,T,L')=>match QJ T L' lf.res with
     | some v=>some (v,L')
     | none=>none
   | _=>none
 else none
def Oy (r:Option (AV×List Blk)):Option AV :=
 match r with
 | some (v,L')=>let u:=(AL L' 0 v).frz
   if oY u=true then some u else none
 | none=>none
mutual
def CV (tab:Tab):Nat→jC
 | 0=>fun _ _=>none
 | d+1=>fun f args=>if fo args=true then match tab.prim f args with
   | some v=>if oY v=true then some v else none
   | none=>match tab.fn f with
     | some lf=>Oy (GN tab (Gd tab d) (CV tab d) lf args [])
     | none=>none
   else none
def Gd (tab:Tab):Nat→iP
 | 0=>fun _ _ _=>none
 | d+1=>fun f args L=>match tab.primL f args L with
   | some r=>some r
   | none=>if tab.inl f=true then match tab.fn f with
     | some lf=>GN tab (Gd tab d) (CV tab d) lf args L
     | none=>none
   else match CV tab d f args with
     | some v=>some (v,L)
     | none=>match tab.fn f with
       | some lf=>GN tab (Gd tab d) (CV tab d) lf args L
       | none=>none
end
set_option maxHeartbeats 4000000
theorem xE {L:List Blk} {sz:Nat} {a:AV} {c:Prop} {l:List AV} {n:Nat} (h:elems L sz a=some (c,l,n)) (hc:Dg L sz a=true):c:=by
 cases a<;>simp only [elems,Dg,reduceCtorEq,Option.some.injEq,Prod.mk.injEq] at h hc
 case nilsl=>rw [← h.1];trivial
 case sl=>rw [← h.1];simpa using hc
 case gsl=>rw [← h.1];simpa using hc
 case str =>
   split at h
   · simp only [Option.some.injEq,Prod.mk.injEq] at h
     rw [← h.1];trivial
   · cases h
 case lsl i off n cp s =>
   split at h<;>try (cases h;done)
   all_goals
     rename_i m hm
     rw [hm] at hc
     simp only [Option.some.injEq,Prod.mk.injEq] at h
     rw [← h.1]
     simpa using hc
theorem Kt {op:BinOp} {x y v:AV} {c:Prop} (h:bin op x y=some (c,v)) (hc:oX op x y=true):c:=by
 unfold bin at h
 split at h
 · simp only [Option.some.injEq,Prod.mk.injEq] at h;obtain ⟨rfl,_⟩:=h;simpa [oX] using hc
 · simp only [Option.some.injEq,Prod.mk.injEq] at h;obtain ⟨rfl,_⟩:=h;simpa [oX] using hc
 · rename_i k a k' b _ _
   split at h
   · unfold KC at h
     split at h<;>simp only [Option.some.injEq,Prod.mk.injEq,reduceCtorEq] at h<;>(try obtain ⟨rfl,_⟩:=h)<;>first|trivial|simpa [oX] using hc
   · cases h
 · unfold KB at h
   split at h<;>simp only [Option.some.injEq,Prod.mk.injEq,reduceCtorEq] at h<;>(try obtain ⟨rfl,_⟩:=h)<;>first|trivial|simpa [oX] using hc
 · cases h
theorem Ku {own sz bytes:Nat} {L L':List Blk} {a b v:AV} {c:Prop} (h:app own sz bytes L a b=some (c,v,L')) (hc:H5 own sz bytes L a b=true):c:=by
 unfold app at h
 unfold H5 at hc
 cases he:elems L sz b with
 | none=>rw [he] at h;simp at h
 | some r =>
   obtain ⟨c0,new,n⟩:=r
   rw [he] at h hc
   simp only [Bool.and_eq_true] at hc
   obtain ⟨hel,hc⟩:=hc
   have hc0:=xE he hel
   cases a<;>simp only [reduceCtorEq] at h hc
   case sl l m k =>
     cases k<;>simp only [reduceCtorEq] at h hc
     rename_i k
     split at h
     · rename_i e;rw [if_pos e] at hc
       simp only [Option.some.injEq,Prod.mk.injEq] at h;obtain ⟨rfl,_⟩:=h
       simp only [decide_eq_true_eq] at hc;exact ⟨hc0,hc⟩
     · rename_i e;rw [if_neg e] at hc
       split at h
       · rename_i e2;rw [if_pos e2] at hc
         split at h
         · rename_i e3;rw [if_pos e3] at hc
           simp only [Option.some.injEq,Prod.mk.injEq] at h;obtain ⟨rfl,_⟩:=h
           simp only [decide_eq_true_eq] at hc;exact ⟨hc0,hc⟩
         · rename_i e3;rw [if_neg e3] at hc
           simp only [Option.some.injEq,Prod.mk.injEq] at h;obtain ⟨rfl,_⟩:=h
           simp only [decide_eq_true_eq] at hc;exact ⟨hc0,hc⟩
       · rename_i e2;rw [if_neg e2] at hc
         simp only [Option.some.injEq,Prod.mk.injEq] at h;obtain ⟨rfl,_⟩:=h
         simp only [decide_eq_true_eq] at hc;exact ⟨hc0,hc⟩
   case gsl l m i s =>
     split at h<;>try (cases h;done)
     rename_i m' s' hk
     rw [hk] at hc
     simp only [Option.some.injEq,Prod.mk.injEq] at h;obtain ⟨rfl,_⟩:=h
     simp only [Bool.and_eq_true,decide_eq_true_eq] at hc
     exact ⟨hc0,hc.1,hc.2⟩
   case lsl i off m cp s =>
     split at h<;>try (cases h;done)
     rename_i l hk
     rw [hk] at hc
     split at h<;>try (cases h;done)
     simp only [Option.some.injEq,Prod.mk.injEq] at h;obtain ⟨rfl,_⟩:=h
     simp only [Bool.and_eq_true,decide_eq_true_eq] at hc
     exact ⟨hc0,hc.1,hc.2⟩
theorem PB {T:Tm} {L L':List Blk} {lo:LOp} {c:Prop} {v:AV} (h:ac T L lo=some (c,v,L')) (hc:eV T L lo=true):c:=by
 cases lo
 case bin op x y =>
   simp only [ac,eV] at h hc
   cases hx:evX T x<;>cases hy:evX T y<;>rw [hx,hy] at h hc<;>simp only [reduceCtorEq,Option.map_eq_some_iff,Prod.mk.injEq] at h
   obtain ⟨⟨c1,v1⟩,h1,rfl,_⟩:=h
   exact Kt h1 hc
 case app own sz bytes z a b =>
   simp only [ac,eV] at h hc
   cases hx:evX T a<;>cases hy:evX T b<;>rw [hx,hy] at h hc<;>simp only [reduceCtorEq] at h
   exact Ku h hc
 case b2s x =>
   simp only [ac,eV] at h hc
   cases hx:evX T x with
   | none=>rw [hx] at h;cases h
   | some v0 =>
   rw [hx] at h hc
   have h':(match elems L 1 v0 with|some (c,l,_)=>some (c∧l.all C3=true,AV.str (l.map AI),L)|none=>none)=some (c,v,L'):=by
     cases v0<;>first|exact h|cases h
   clear h
   have h:=h'
   split at h<;>try (cases h;done)
   rename_i c0 l n he
   simp only [he] at hc
   simp only [Option.some.injEq,Prod.mk.injEq] at h;obtain ⟨rfl,_⟩:=h
   simp only [Bool.and_eq_true] at hc
   exact ⟨xE he hc.1,hc.2⟩
 case copy sz a b =>
   simp only [ac,eV] at h hc
   cases hy:evX T b with
   | none=>rw [hy] at h;simp at h
   | some b' =>
     rw [hy] at h hc
     simp only [Option.bind_some] at h
     split at h<;>try (cases h;done)
     · rename_i c0 l n hx he
       rw [hx] at hc
       simp only [Option.some.injEq,Prod.mk.injEq] at h;obtain ⟨rfl,_⟩:=h
       exact xE he hc
     · rename_i i off m cp s c0 new n hx he
       rw [hx] at hc
       simp only [he] at hc
       split at h<;>try (cases h;done)
       rename_i l hk
       rw [hk] at hc
       split at h<;>try (cases h;done)
       simp only [Option.some.injEq,Prod.mk.injEq] at h;obtain ⟨rfl,_⟩:=h
       simp only [Bool.and_eq_true,decide_eq_true_eq] at hc
       exact ⟨xE he hc.1.1,hc.1.2,hc.2⟩
 case slV sz x lo hi mx =>
   simp only [ac,eV] at h hc
   split at h
   all_goals first
     | (cases h;done)
     | skip
   case h_1 h1 h2 h3 h4 =>
     rw [h1,h2,h3,h4] at hc
     simp only [Option.some.injEq,Prod.mk.injEq] at h
     rw [← h.1];exact of_decide_eq_true hc
   case h_2 h1 h2 h3 h4 =>
     rw [h1,h2,h3,h4] at hc
     simp only [Option.some.injEq,Prod.mk.injEq] at h
     rw [← h.1];exact of_decide_eq_true hc
   case h_3 h1 h2 h3 h4 =>
     rw [h1,h2,h3,h4] at hc
     simp only [Option.some.injEq,Prod.mk.injEq] at h
     rw [← h.1];exact of_decide_eq_true hc
   case h_4 h1 h2 h3 h4 =>
     rw [h1,h2,h3,h4] at hc
     simp only [Option.some.injEq,Prod.mk.injEq] at h
     rw [← h.1];exact of_decide_eq_true hc
   case h_5 l n i s lo' hi' h1 h2 h3 h4 =>
     rw [h1,h2,h3,h4] at hc
     simp only [Option.some.injEq,Prod.mk.injEq] at h
     rw [← h.1];cases hi'<;>exact of_decide_eq_true hc
   case h_6 h1 h2 h3 h4 =>
     rw [h1,h2,h3,h4] at hc
     split at h
     · simp only [Option.some.injEq,Prod.mk.injEq] at h
       rw [← h.1];exact of_decide_eq_true hc
     · cases h
 case len str x =>
   cases str<;>simp only [ac] at h<;>(repeat' split at h)<;>first
     | (cases h;done)
     | (simp only [Option.some.injEq,Prod.mk.injEq] at h;rw [← h.1];trivial)
 case minmax mx xs =>
   rcases xs with _|⟨x,_|⟨y,_|⟨z,l⟩⟩⟩<;>simp only [ac,reduceCtorEq] at h
   repeat' split at h
   all_goals first
     | (cases h;done)
     | (simp only [Option.some.injEq,Prod.mk.injEq] at h;rw [← h.1];trivial)
 all_goals
   simp only [ac,eV] at h hc
   repeat' split at h
   all_goals first
     | (cases h;done)
     | (simp only [Option.some.injEq, Prod.mk.injEq, Option.map_eq_some_iff] at h
        first
          | (obtain ⟨rfl,_⟩:=h;trivial)
          | (obtain ⟨_,_,rfl,_⟩:=h;trivial)
          | (obtain ⟨rfl,_⟩:=h;simp_all;done)
          | (obtain ⟨rfl,_⟩:=h;simp_all;omega))
     | skip
theorem Jf {T:Tm} {L L':List Blk} {lo:LOp} {v:AV} (h:fO T L lo=some (v,L')):∃ c,ac T L lo=some (c,v,L')∧c:=by
 unfold fO at h
 split at h
 · rename_i c u L1 he
   split at h
   · rename_i hc
     simp only [Option.some.injEq,Prod.mk.injEq] at h
     obtain ⟨rfl,rfl⟩:=h
     exact ⟨c,he,PB he hc⟩
   · cases h
 · cases h
theorem Ox {T:Tm} {L L':List Blk} {lo:LOp} {c:Prop} {v:AV} (hq:lo.effB=false) (h:ac T L lo=some (c,v,L')):L'=L:=by
 cases lo<;>simp only [LOp.effB,Bool.true_eq_false] at hq
 case len str x =>
   cases str<;>simp only [ac] at h<;>(repeat' split at h)<;>first
     | (cases h;done)
     | (simp only [Option.some.injEq,Prod.mk.injEq] at h;exact h.2.2.symm)
 case minmax mx xs =>
   rcases xs with _|⟨x,_|⟨y,_|⟨z,l⟩⟩⟩<;>simp only [ac,reduceCtorEq] at h
   repeat' split at h
   all_goals first
     | (cases h;done)
     | (simp only [Option.some.injEq,Prod.mk.injEq] at h;exact h.2.2.symm)
 all_goals
   simp only [ac] at h
   repeat' split at h
   all_goals first
     | (cases h;done)
     | (simp only [Option.some.injEq, Prod.mk.injEq, Option.map_eq_some_iff] at h
        first
          | exact h.2.2.symm
          | (obtain ⟨_,_,_,_,rfl⟩:=h;rfl)
          | (simp_all;done))
     | skip
set_option maxHeartbeats 4000000
def sf (B:Nat) (i:Nat):Nat:=i+B
abbrev AV.sh (B:Nat) (a:AV):AV:=a.ren (sf B)
abbrev shL (B:Nat) (l:List AV):List AV:=AV.renL (sf B) l
def shT (B:Nat) (T:Tm):Tm:=T.map fun p=>(p.1,p.2.sh B)
def Blk.sh (B:Nat):Blk→Blk
 | .cells l=>.cells (shL B l)
 | .map es ck=>.map (es.map fun e=>(e.1.sh B,e.2.1.sh B,e.2.2)) ck
 | .miter m since seen last=>.miter (m.map (sf B)) since seen last
 | .bytes l=>.bytes (shL B l)
 | k=>k
def cd (L0 M:List Blk):List Blk:=L0++M.map (Blk.sh L0.length)
mutual
theorem eI {f:Nat→Nat}:∀ {a:AV},a.refs (fun _=>false)=true→a.ren f=a
 | .undef,_=>rfl
 | .bool _,_=>rfl
 | .anyb,_=>rfl
 | .int _ _,_=>rfl
 | .str _,_=>rfl
 | .nilptr,_=>rfl
 | .gptr _ _,_=>rfl
 | .ptr _ _,h=>by simp [AV.refs] at h
 | .iptr l o,h=>by simp only [AV.refs] at h;simp only [AV.ren,bS h]
 | .nilsl,_=>rfl
 | .sl l n c,h=>by simp only [AV.refs] at h;simp only [AV.ren,bS h]
 | .lsl _ _ _ _ _,h=>by simp [AV.refs] at h
 | .gsl _ _ _ _,h=>by simp [AV.refs] at h
 | .nilmap,_=>rfl
 | .lmap _,h=>by simp [AV.refs] at h
 | .func g l,h=>by simp only [AV.refs] at h;simp only [AV.ren,bS h]
 | .nilfunc,_=>rfl
 | .nilif,_=>rfl
 | .iface t a,h=>by simp only [AV.refs] at h;simp only [AV.ren,eI h]
 | .agg l,h=>by simp only [AV.refs] at h;simp only [AV.ren,bS h]
 | .tup l,h=>by simp only [AV.refs] at h;simp only [AV.ren,bS h]
theorem bS {f:Nat→Nat}:∀ {l:List AV},AV.refsL (fun _=>false) l=true→AV.renL f l=l
 | [],_=>rfl
 | a::l,h=>by
   simp only [AV.refsL,Bool.and_eq_true] at h
   simp only [AV.renL,eI h.1,bS h.2]
end
def Opd.okc:Opd→Bool
 | .tmp _=>true
 | .av a=>oY a
def Cj:Option Opd→Bool
 | none=>true
 | some x=>x.okc
def CZ:List Opd→Bool
 | []=>true
 | x::l=>x.okc && CZ l
def xz:List (Nat×Nat×Opd)→Bool
 | []=>true
 | (_,_,x)::l=>x.okc && xz l
def LOp.okc:LOp→Bool
 | .mv x | .box x | .nilchk x | .un _ x | .conv _ x | .sconv x | .b2s x | .s2b x | .s2bO x | .rangeS x | .nextS x | .mkif _ x | .faddr _ x | .field _ _ _ x | .extract x _ | .len _ x | .cap x | .load _ _ x | .slnil _ x=>x.okc
 | .pick c a b=>c.okc && a.okc && b.okc
 | .alloc z=>fo z
 | .build z ps=>fo z && xz ps
 | .bslice _ _ _ z ps=>fo z && xz ps
 | .store _ a x | .bin _ a x | .eqk _ _ a x | .iaddr _ a x | .iaddrA _ _ a x | .idxS a x | .copy _ a x=>a.okc && x.okc
 | .mkfn _ xs | .minmax _ xs | .call _ xs=>CZ xs
 | .callv f xs=>f.okc && CZ xs
 | .mkslice _ _ z l c=>fo z && l.okc && c.okc
 | .slS x lo hi=>x.okc && Cj lo && Cj hi
 | .slV _ x lo hi mx=>x.okc && Cj lo && Cj hi && Cj mx
 | .slA _ _ x lo hi=>x.okc && Cj lo && Cj hi
 | .appz _ _ z a n=>fo z && a.okc && n.okc
 | .app _ _ _ z a b=>fo z && a.okc && b.okc
 | .clear _ z x=>fo z && x.okc
 | .bad | .mkmap=>true
 | .mget _ _ z m k=>oY z && m.okc && k.okc
 | .mset _ m k v=>m.okc && k.okc && v.okc
 | .mdel _ m k=>m.okc && k.okc
 | .mlen m | .mrange m | .mnext m | .mentry m=>m.okc
theorem Jc:∀ {g:Nat} {l:List AV},dw g=some l→AV.refsL (fun _=>false) l=true:=fun {g l} h=>by
 have hall:oS.all (fun p=>AV.refsL (fun _=>false) p.2)=true:=by decide +kernel
 exact List.all_eq_true.1 hall _ (jq h)
section
variable {B:Nat} {L0 M:List Blk} {T:Tm}
theorem iS (t:Nat):ak (shT B T) t=(ak T t).map (AV.sh B):=by
 induction T with
 | nil=>rfl
 | cons p T ih =>
   obtain ⟨d,v⟩:=p
   simp only [shT,List.map_cons,ak] at ih ⊢
   split
   · rfl
   · exact ih
theorem aF {x:Opd} (h:x.okc=true):evX (shT B T) x=(evX T x).map (AV.sh B):=by
 cases x with
 | tmp t=>exact iS t
 | av a=>simp only [evX,Option.map_some,AV.sh];rw [eI h]
theorem xC:∀ {l:List Opd},CZ l=true→dm (shT B T) l=(dm T l).map (shL B)
 | [],_=>rfl
 | x::l,h=>by
   simp only [CZ,Bool.and_eq_true] at h
   simp only [dm,aF h.1,xC h.2]
   cases evX T x<;>cases dm T l<;>simp [shL,AV.renL]
theorem Ay {x:Option Opd} (h:Cj x=true):bnd (shT B T) x=bnd T x:=by
 cases x with
 | none=>rfl
 | some x =>
   simp only [Cj] at h
   simp only [bnd,aF h]
   cases evX T x with
   | none=>rfl
   | some a=>cases a<;>simp [AV.sh,AV.ren]
theorem UN (a:AV):deg (a.sh B)=(deg a).sh B:=by
 cases a<;>simp only [AV.sh,AV.ren,deg]
 split
 · rename_i l hl
   simp only [AV.ren,bS (Jc hl)]
 · simp only [AV.ren]
theorem FY {x:Opd} (h:x.okc=true):evD (shT B T) x=(evD T x).map (AV.sh B):=by
 simp only [evD,aF h,Option.map_map]
 cases evX T x<;>simp [UN]
theorem dY (i:Nat):(cd L0 M)[sf L0.length i]?=(M[i]?).map (Blk.sh L0.length):=by
 simp only [cd,sf]
 rw [List.getElem?_append_right (by omega),Nat.add_sub_cancel,List.getElem?_map]
theorem iq (i:Nat) (k:Blk):(cd L0 M).set (sf L0.length i) (k.sh L0.length)=cd L0 (M.set i k):=by
 simp only [cd,sf]
 rw [List.set_append_right _ _ (by omega),Nat.add_sub_cancel,List.map_set]
theorem eO (k:Blk):cd L0 M++[k.sh L0.length]=cd L0 (M++[k]):=by simp [cd]
theorem gy:(cd L0 M).length=sf L0.length M.length:=by simp [cd,sf,Nat.add_comm]
theorem gC (l:List AV):shL B l=l.map (AV.sh B):=AV.renL_eq
theorem dq (l:List AV):(shL B l).length=l.length:=by simp [gC]
theorem fg (l:List AV) (n:Nat):(shL B l).drop n=shL B (l.drop n):=by simp [gC]
theorem eH (l:List AV) (n:Nat):(shL B l).take n=shL B (l.take n):=by simp [gC]
theorem gD (l m:List AV):shL B l++shL B m=shL B (l++m):=by simp [gC]
theorem Ff (l:List AV) (n:Nat):(shL B l).getD n .undef=(l.getD n .undef).sh B:=by
 simp only [gC,List.getD_eq_getElem?_getD,List.getElem?_map]
 cases l[n]?<;>rfl
theorem Q2 (l:List AV) (n:Nat):(shL B l)[n]?=(l[n]?).map (AV.sh B):=by simp [gC]
theorem xt (l v:List AV) (n:Nat):cV (shL B l) n (shL B v)=shL B (cV l n v):=by
 simp only [cV,eH,dq,fg,gD]
theorem Uj (a:AV):AV.one (a.sh B)=AV.one a:=by cases a<;>rfl
theorem xI (l:List AV):(shL B l).all AV.one=l.all AV.one:=by
 rw [gC,List.all_map];congr 1;funext a;exact Uj a
theorem S5 (l:List AV):(shL B l).all C3=l.all C3:=by
 rw [gC,List.all_map];congr 1;funext a;cases a<;>rfl
theorem QQ (l:List AV):(shL B l).map AI=l.map AI:=by
 rw [gC,List.map_map];congr 1;funext a;cases a<;>rfl
theorem JL (s:List UInt8):shL B (u8s s)=u8s s:=by
 rw [gC,u8s,List.map_map];rfl
theorem iR {z:List AV} (h:fo z=true):∀ n,shL B (ce z n)=ce z n
 | 0=>rfl
 | n+1=>by
   rw [ce,← gD,iR h n]
   congr 1
   exact bS h
mutual
theorem Km:∀ (a:AV),(a.sh B).frz=(a.frz).sh B
 | .undef=>rfl
 | .bool _=>rfl
 | .anyb=>rfl
 | .int _ _=>rfl
 | .str _=>rfl
 | .nilptr=>rfl
 | .gptr _ _=>rfl
 | .ptr _ _=>rfl
 | .iptr l o=>rfl
 | .nilsl=>rfl
 | .sl l n c=>by simp only [AV.sh,AV.ren,AV.frz];rw [oT l]
 | .lsl _ _ _ _ _=>rfl
 | .gsl l _ _ _=>by simp only [AV.sh,AV.ren,AV.frz];rw [oT l]
 | .nilmap=>rfl
 | .lmap _=>rfl
 | .func g l=>rfl
 | .nilfunc=>rfl
 | .nilif=>rfl
 | .iface t a=>by simp only [AV.sh,AV.ren,AV.frz];rw [Km a]
 | .agg l=>by simp only [AV.sh,AV.ren,AV.frz];rw [oT l]
 | .tup l=>by simp only [AV.sh,AV.ren,AV.frz];rw [oT l]
theorem oT:∀ (l:List AV),AV.frzL (AV.renL (sf B) l)=AV.renL (sf B) (AV.frzL l)
 | []=>rfl
 | a::l=>by
   simp only [AV.renL,AV.frzL]
   have:=Km a
   simp only [AV.sh] at this
   rw [oT l,this]
end
theorem Dh (a:AV):(a.sh B).cells?=a.cells?.map (shL B):=by cases a<;>rfl
theorem Je:∀ {ps:List (Nat×Nat×Opd)} {z:List AV},xz ps=true→dZ (shT B T) (shL B z) ps=(dZ T z ps).map (shL B)
 | [],z,_=>rfl
 | (o,s,x)::l,z,h=>by
   simp only [xz,Bool.and_eq_true] at h
   simp only [dZ,aF h.1]
   cases hx:evX T x with
   | none=>rfl
   | some a =>
     simp only [Option.map_some,Option.bind_some,Dh]
     cases a.cells? with
     | none=>rfl
     | some vals =>
       simp only [Option.map_some,dq]
       split
       · rw [xt];exact Je h.2
       · rfl
theorem Hi {ps:List (Nat×Nat×Opd)} {z:List AV} (hz:fo z=true) (h:xz ps=true):dZ (shT B T) z ps=(dZ T z ps).map (shL B):=by
 have:=Je (B:=B) (T:=T) (z:=z) h
 rwa [show shL B z=z from bS hz] at this
theorem Nb (a:AV):row (cd L0 M) (a.sh L0.length)=(row M a).map fun r=>(shL L0.length r.1,r.2):=by
 cases a<;>simp only [AV.sh,AV.ren,row,Option.map_none,Option.map_some]
 rw [dY]
 rename_i i off
 cases hk:M[i]? with
 | none=>rfl
 | some k=>cases k<;>rfl
theorem F0 (sz:Nat) (a:AV):elems (cd L0 M) sz (a.sh L0.length)=(elems M sz a).map fun r=>(r.1,shL L0.length r.2.1,r.2.2):=by
 cases a<;>simp only [AV.sh,AV.ren,elems,Option.map_none,Option.map_some]
 case nilsl=>rfl
 case sl=>simp only [dq]
 case lsl i off n cp s =>
   rw [dY]
   cases hk:M[i]? with
   | none=>rfl
   | some k=>cases k<;>simp [Blk.sh,dq,fg,eH]
 case str s =>
   split
   · simp only [Option.map_some,JL]
   · rfl
theorem US (op:BinOp) (x y:AV):bin op (x.sh B) (y.sh B)=(bin op x y).map fun r=>(r.1,r.2.sh B):=by
 have hI:∀ (op:BinOp) (k:IntKind) (a b:Int),KC op k a b=(KC op k a b).map fun r=>(r.1,r.2.sh B):=fun op k a b=>by cases op<;>rfl
 have hS:∀ (op:BinOp) (a b:List UInt8),KB op a b=(KB op a b).map fun r=>(r.1,r.2.sh B):=fun op a b=>by cases op<;>rfl
 cases x
 case int k a =>
   cases y
   case int j b =>
     cases op<;>simp only [AV.sh,AV.ren,bin,Option.map_none,Option.map_some]<;>first
       | rfl
       | (split
          · exact hI _ _ _ _
          · rfl)
   all_goals cases op<;>rfl
 case str s =>
   cases y
   case str s'=>cases op<;>first|rfl|exact hS _ _ _
   all_goals cases op<;>rfl
 all_goals cases op<;>rfl
theorem UL (k:EqK) (x y:AV):eqA k (x.sh B) (y.sh B)=eqA k x y:=by
 cases k<;>cases x<;>first|rfl|(cases y<;>rfl)
theorem Vj (op:UnOp) (x:AV):un op (x.sh B)=(un op x).map (AV.sh B):=by
 cases op<;>cases x<;>rfl
def shE (B:Nat) (l:List (AV×AV×Nat)):List (AV×AV×Nat):=l.map fun e=>(e.1.sh B,e.2.1.sh B,e.2.2)
theorem O3 (a b:AV):D8 (a.sh B) (b.sh B)=D8 a b:=by cases a<;>first|rfl|(cases b<;>rfl)
theorem IU:∀ (l m:List AV),ky (AV.renL (sf B) l) (AV.renL (sf B) m)=ky l m
 | [],[]=>rfl
 | [],_::_=>rfl
 | _::_,[]=>rfl
 | a::l,b::m=>by
   have h:=O3 (B:=B) a b
   simp only [AV.sh] at h
   simp only [AV.renL,ky,h,IU l m]
theorem S3 (a b:AV):xS (a.sh B) (b.sh B)=xS a b:=by
 cases a<;>first
   | rfl
   | (cases b<;>first|rfl|(simp only [AV.sh,AV.ren,xS,IU]))
theorem SV (k:PKey) (a:AV):OG k (a.sh B)=OG k a:=by cases k<;>cases a<;>rfl
theorem IB:∀ (ks:List PKey) (l:List AV),gl ks (AV.renL (sf B) l)=gl ks l
 | [],[]=>rfl
 | [],_::_=>rfl
 | _::_,[]=>rfl
 | k::ks,a::l=>by
   have h:=SV (B:=B) k a
   simp only [AV.sh] at h
   simp only [AV.renL,gl,h,IB ks l]
theorem oj (kd:fU) (a:AV):bD kd (a.sh B)=bD kd a:=by
 cases kd<;>cases a<;>first|rfl|(simp only [AV.sh,AV.ren,bD,IB])
theorem Cl (k:AV):∀ (l:List (AV×AV×Nat)) (i:Nat),eE (k.sh B) (shE B l) i=(eE k l i).map fun r=>r.map fun p=>(p.1,p.2.sh B)
 | [],i=>rfl
 | (q,x,b)::l,i=>by
   simp only [shE,List.map_cons,eE,S3]
   cases xS k q with
   | none=>rfl
   | some b =>
     cases b
     · exact Cl k l (i+1)
     · rfl
theorem zV {X Y:Type} (f:X→Y):∀ (l:List X) (j:Nat),(l.map f).eraseIdx j=(l.eraseIdx j).map f
 | [],_=>rfl
 | _::_,0=>rfl
 | x::l,j+1=>by simp [zV f l j]
theorem KW (k v:AV):∀ (l:List (AV×AV×Nat)) (j:Nat),IK (k.sh B) (v.sh B) (shE B l) j=shE B (IK k v l j)
 | [],j=>rfl
 | (q,x,b)::l,0=>rfl
 | (q,x,b)::l,j+1=>by
   have:=KW k v l j
   simp only [shE,List.map_cons,IK] at this ⊢
   rw [this]
theorem OT (es:List (AV×AV×Nat)) (since:Nat) (seen:List Nat) (last:Nat):D4 (shE B es) since seen last=(D4 es since seen last).map fun r=>r.map fun e=>(e.1.sh B,e.2.1.sh B,e.2.2):=by
 unfold D4
 simp only [shE,List.filter_map,List.all_map,List.isEmpty_map,Function.comp_def]
 split
 · rfl
 · generalize List.filter (fun x=>decide (x.2.2<since)) (List.filter (fun x => !seen.contains x.2.2) es)=p
   generalize List.filter (fun x=>decide (since≤x.2.2)) (List.filter (fun x => !seen.contains x.2.2) es)=q
   rcases p with _|⟨a,_|⟨b,p⟩⟩<;>rcases q with _|⟨c,q⟩<;>rfl
theorem OR (r:Option (AV×AV×Nat)):Ha (r.map fun e=>(e.1.sh B,e.2.1.sh B,e.2.2))=(Ha r).sh B:=by cases r<;>rfl
theorem OS (i j since:Nat) (seen:List Nat) (ck:Nat) (r:Option (AV×AV×Nat)):IJ (cd L0 M) (sf L0.length i) (sf L0.length j) since seen ck (r.map fun e=>(e.1.sh L0.length,e.2.1.sh L0.length,e.2.2))=cd L0 (IJ M i j since seen ck r):=by
 cases r with
 | none=>rfl
 | some e=>simp only [Option.map_some,IJ];rw [← iq];rfl
theorem Un (es:List (AV×AV×Nat)) (ck:Nat) (seen:List Nat) (st:Nat):mat (shE B es) ck seen st=(mat es ck seen st).map fun e=>(e.1.sh B,e.2.1.sh B,e.2.2):=by
 unfold mat
 cases seen.getLast? with
 | none=>rfl
 | some b =>
   simp only
   split
   · simp only [shE,List.find?_map,Function.comp_def]
   · rfl
def shR (L0:List Blk) (r:Prop×AV×List Blk):Prop×AV×List Blk:=(r.1,r.2.1.sh L0.length,cd L0 r.2.2)
theorem UU (own sz bytes:Nat) (a b:AV):app own sz bytes (cd L0 M) (a.sh L0.length) (b.sh L0.length)=(app own sz bytes M a b).map (shR L0):=by
 unfold app
 rw [F0]
 cases he:elems M sz b with
 | none=>rfl
 | some r =>
   obtain ⟨c0,new,n⟩:=r
   simp only [Option.map_some]
   cases a<;>simp only [AV.sh,AV.ren,Option.map_none]
   case sl l m k =>
     cases k<;>simp only [Option.map_none]
     have hf:AV.frzL (shL L0.length new)=shL L0.length (AV.frzL new):=oT new
     split
     · simp only [Option.map_some,shR,AV.sh,AV.ren,gy,← eO,Blk.sh,hf,gD,dq]
     · split
       · split
         · simp only [Option.map_some,shR,AV.sh,AV.ren]
         · simp only [Option.map_some,shR,Az,AV.sh,AV.ren,gy,← eO,Blk.sh,gD,dq]
       · simp only [Option.map_some,shR,AV.sh,AV.ren,hf,gD,dq]
   case gsl l m i s =>
     have hf:AV.frzL (shL L0.length new)=shL L0.length (AV.frzL new):=oT new
     rw [dY]
     cases hk:M[i]? with
     | none=>rfl
     | some k =>
       cases k<;>simp only [Option.map_some,Option.map_none,Blk.sh]
       simp only [shR,AV.sh,AV.ren,hf,gD,xI,← iq,Blk.sh]
   case lsl i off m cp s =>
     rw [dY]
     cases hk:M[i]? with
     | none=>rfl
     | some k =>
       cases k<;>simp only [Option.map_some,Option.map_none,Blk.sh]
       split
       · simp only [Option.map_some,shR,Az,AV.sh,AV.ren,gy,← eO,← iq,Blk.sh,gD,xI,dq,fg,eH]
       · rfl
theorem Hj {lo:LOp} (h:lo.okc=true):ac (shT L0.length T) (cd L0 M) lo=(ac T M lo).map (shR L0):=by
 cases lo<;>simp only [LOp.okc,Bool.and_eq_true] at h<;>simp only [ac]
 case mv x=>rw [aF h];cases evX T x<;>rfl
 case pick c a b =>
   rw [aF h.1.1,aF h.1.2,aF h.2]
   cases evX T c with
   | none=>rfl
   | some c => cases c <;> try rfl
               rename_i c;cases c
               · cases evX T b<;>rfl
               · cases evX T a<;>rfl
 case alloc z=>simp only [Option.map_some,shR,AV.sh,AV.ren,gy,← eO,Blk.sh,show shL L0.length z=z from bS h]
 case box x =>
   rw [aF h]
   cases evX T x with
   | none=>rfl
   | some a =>
     simp only [Option.map_some,Option.bind_some,Dh]
     cases a.cells?<;>simp only [Option.map_some,Option.map_none,shR,AV.sh,AV.ren,gy,← eO,Blk.sh]
 case build z ps=>rw [Hi h.1 h.2];cases dZ T z ps<;>rfl
 case bslice own sz n z ps =>
   rw [Hi h.1 h.2]
   cases dZ T z ps with
   | none=>rfl
   | some l=>cases own<;>simp only [Option.map_some,shR,AV.sh,AV.ren,gy,← eO,Blk.sh,Bool.false_eq_true,if_true,if_false]
 case load g sz x =>
   rw [FY h]
   cases evD T x with
   | none=>rfl
   | some a =>
     simp only [Option.map_some,Option.bind_some,Nb]
     cases row M a with
     | none=>rfl
     | some r =>
       obtain ⟨l,off⟩:=r
       cases g<;>simp only [Option.map_some,shR,AV.sh,AV.ren,dq,fg,eH,Ff,Bool.false_eq_true,if_true,if_false]
 case store sz a x =>
   rw [aF h.1,aF h.2]
   cases evX T a with
   | none=>rfl
   | some p =>
     cases evX T x with
     | none=>cases p<;>rfl
     | some v =>
       simp only [Option.map_some,Option.bind_some,Dh]
       cases hv:v.cells? with
       | none=>cases p<;>rfl
       | some vals =>
         cases p<;>simp only [Option.map_some,Option.map_none,AV.sh,AV.ren]
         rw [dY]
         rename_i i off
         cases hk:M[i]? with
         | none=>rfl
         | some k =>
           cases k<;>simp only [Option.map_some,Option.map_none,Blk.sh,dq,xI]
           all_goals
             split
             · simp only [Option.map_some,shR,AV.sh,AV.ren,xt,← iq,Blk.sh]
             · rfl
 case nilchk x =>
   rw [FY h]
   cases evD T x with
   | none=>rfl
   | some a=>cases a<;>rfl
 case bin op x y =>
   rw [aF h.1,aF h.2]
   cases evX T x with
   | none=>rfl
   | some a =>
     cases evX T y with
     | none=>rfl
     | some b =>
       simp only [Option.map_some,US]
       cases bin op a b<;>rfl
 case eqk neg k x y =>
   rw [aF h.1,aF h.2]
   cases evX T x with
   | none=>rfl
   | some a =>
     cases evX T y with
     | none=>rfl
     | some b =>
       simp only [Option.map_some,UL]
       cases eqA k a b<;>rfl
 case slnil neg x =>
   rw [aF h]
   cases evX T x with
   | none=>rfl
   | some a=>cases a<;>simp only [Option.map_some,Option.map_none,AV.sh,AV.ren]<;>(try rfl)<;>(simp only [shR];split<;>rfl)
 case un op x =>
   rw [aF h]
   cases evX T x with
   | none=>rfl
   | some a =>
     simp only [Option.map_some,Vj]
     cases un op a<;>rfl
 case conv k x=>rw [aF h];cases evX T x with
   | none=>rfl
   | some a=>cases a<;>rfl
 case sconv x=>rw [aF h];cases evX T x with
   | none=>rfl
   | some a=>cases a<;>rfl
 case b2s x =>
   rw [aF h]
   cases evX T x with
   | none=>rfl
   | some a =>
     have key:(match elems (cd L0 M) 1 (a.sh L0.length) with|some (c,l,_)=>some (c∧l.all C3=true,AV.str (l.map AI),cd L0 M)|none=>none)=Option.map (shR L0) (match elems M 1 a with|some (c,l,_)=>some (c∧l.all C3=true,AV.str (l.map AI),M)|none=>none):=by
       rw [F0]
       cases elems M 1 a with
       | none=>rfl
       | some r=>simp only [Option.map_some,shR,S5,QQ,AV.sh,AV.ren]
     cases a<;>first|exact key|rfl
 case s2b x => rw [aF h]; cases evX T x with
   | none=>rfl
   | some a => cases a <;> simp only [Option.map_some, Option.map_none, AV.sh, AV.ren, shR] <;> (try rfl)
               rw [show AV.renL (sf L0.length) (u8s _)=_ from JL _]
 case s2bO x=>rw [aF h];cases evX T x with
   | none=>rfl
   | some a=>cases a<;>simp only [Option.map_some,Option.map_none,AV.sh,AV.ren,shR,gy,← eO,Blk.sh,JL]<;>(try rfl)
 case rangeS x=>rw [aF h];cases evX T x with
   | none=>rfl
   | some a=>cases a<;>simp only [Option.map_some,Option.map_none,AV.sh,AV.ren,shR,gy,← eO,Blk.sh]<;>(try rfl)
 case nextS x =>
   rw [aF h]
   cases evX T x with
   | none=>rfl
   | some a =>
     cases a<;>try rfl
     rename_i i off
     cases off with
     | succ o=>rfl
     | zero =>
       simp only [Option.map_some,AV.sh,AV.ren]
       rw [dY]
       cases hk:M[i]? with
       | none=>rfl
       | some k =>
         cases k<;>simp only [Option.map_some,Option.map_none,Blk.sh]
         split
         · simp only [Option.map_some,shR,← iq,Blk.sh,AV.sh,AV.ren,AV.renL]
         · rfl
 case mkif t x=>rw [aF h];cases evX T x<;>rfl
 case mkfn f caps=>rw [xC h];cases dm T caps<;>rfl
 case mkslice sz bytes z l c =>
   rw [aF h.1.2,aF h.2]
   cases evX T l with
   | none=>rfl
   | some a =>
     cases evX T c with
     | none=>cases a<;>rfl
     | some b=>cases a<;>(try rfl)<;>cases b<;>simp only [Option.map_some,Option.map_none,AV.sh,AV.ren,shR,gy,← eO,Blk.sh,iR h.1.1]<;>rfl
 case slS x lo hi =>
   rw [aF h.1.1,Ay h.1.2,Ay h.2]
   cases evX T x with
   | none=>rfl
   | some a=>cases a<;>cases bnd T lo<;>cases bnd T hi<;>rfl
 case slV sz x lo hi mx =>
   rw [aF h.1.1.1,Ay h.1.1.2,Ay h.1.2,Ay h.2]
   cases evX T x with
   | none=>rfl
   | some a =>
     cases bnd T lo with
     | none=>cases a<;>rfl
     | some lo' =>
       cases bnd T hi with
       | none=>cases a<;>rfl
       | some hi' =>
         cases bnd T mx with
         | none=>cases a<;>cases hi'<;>rfl
         | some mx'=>cases a<;>cases hi'<;>cases mx'<;>simp only [Option.map_some,Option.map_none,AV.sh,AV.ren,shR,fg,eH]<;>(try rfl)<;>(try (split<;>rfl))
 case slA n sz x lo hi =>
   rw [FY h.1.1,Ay h.1.2,Ay h.2]
   cases evD T x with
   | none=>rfl
   | some a =>
     cases bnd T lo with
     | none=>cases a<;>rfl
     | some lo' =>
       cases bnd T hi with
       | none=>cases a<;>rfl
       | some hi' =>
         cases a<;>simp only [Option.map_some,Option.map_none,AV.sh,AV.ren,shR,fg,eH,dq]
         rw [dY]
         rename_i i off
         cases hk:M[i]? with
         | none=>rfl
         | some k=>cases k<;>simp only [Option.map_some,Option.map_none,Blk.sh,dq,shR,AV.sh,AV.ren]
 case faddr o x=>rw [FY h];cases evD T x with
   | none=>rfl
   | some a=>cases a<;>rfl
 case field g o sz x =>
   rw [aF h]
   cases evX T x with
   | none=>rfl
   | some a=>cases a<;>cases g<;>simp only [Option.map_some,Option.map_none,AV.sh,AV.ren,shR,fg,eH,dq,Ff,Bool.false_eq_true,if_true,if_false]
 case iaddr sz x i =>
   rw [aF h.1,aF h.2]
   cases evX T x with
   | none=>rfl
   | some a =>
     cases evX T i with
     | none=>cases a<;>rfl
     | some b=>cases a<;>cases b<;>rfl
 case iaddrA n sz x i =>
   rw [FY h.1,aF h.2]
   cases evD T x with
   | none=>rfl
   | some a =>
     cases evX T i with
     | none=>cases a<;>rfl
     | some b=>cases a<;>cases b<;>rfl
 case idxS x i =>
   rw [aF h.1,aF h.2]
   cases evX T x with
   | none=>rfl
   | some a =>
     cases evX T i with
     | none=>cases a<;>rfl
     | some b=>cases a<;>cases b<;>rfl
 case extract x i =>
   rw [aF h]
   cases evX T x with
   | none=>rfl
   | some a =>
     cases a<;>simp only [Option.map_some,Option.map_none,AV.sh,AV.ren,Q2]
     rename_i l
     cases l[i]?<;>rfl
 case len str x =>
   cases str<;>simp only []<;>rw [aF h]<;>(cases evX T x with
   | none=>rfl
   | some a=>cases a<;>rfl)
 case cap x =>
   rw [aF h]
   cases evX T x with
   | none=>rfl
   | some a =>
     cases a<;>try rfl
     case sl l n c=>cases c<;>rfl
     case lsl i o n c s=>cases c<;>rfl
 case bad=>rfl
 case appz sz bytes z a n =>
   rw [aF h.1.2,aF h.2]
   cases evX T a with
   | none=>rfl
   | some a =>
     cases evX T n with
     | none=>cases a<;>first|rfl|(rename_i cp _;cases cp<;>rfl)
     | some b =>
       cases a<;>try rfl
       rename_i i off m cp s
       cases cp<;>try rfl
       cases b<;>try rfl
       simp only [Option.map_some,AV.sh,AV.ren]
       rw [dY]
       cases hk:M[i]? with
       | none=>rfl
       | some k =>
         cases k<;>simp only [Option.map_some,Option.map_none,Blk.sh]
         split
         · simp only [Option.map_some,shR,AV.sh,AV.ren,gy,← eO,Blk.sh,dq,fg,eH,← gD,iR h.1.1]
         · rfl
 case app own sz bytes z a b =>
   rw [aF h.1.2,aF h.2]
   cases evX T a with
   | none=>rfl
   | some a =>
     cases evX T b with
     | none=>rfl
     | some b=>exact UU own sz bytes a b
 case copy sz a b =>
   rw [aF h.1,aF h.2]
   cases evX T b with
   | none=>cases evX T a with
     | none=>rfl
     | some a=>cases a<;>rfl
   | some b =>
     simp only [Option.map_some,Option.bind_some,F0]
     cases evX T a with
     | none=>rfl
     | some a =>
       cases elems M sz b with
       | none=>cases a<;>rfl
       | some r =>
         obtain ⟨c0,new,n⟩:=r
         cases a<;>simp only [Option.map_some,Option.map_none,AV.sh,AV.ren]
         case nilsl=>rfl
         case lsl i off m cp s =>
           rw [dY]
           cases hk:M[i]? with
           | none=>rfl
           | some k =>
             cases k<;>simp only [Option.map_some,Option.map_none,Blk.sh]
             split
             · simp only [Option.map_some,shR,AV.sh,AV.ren,eH,xI,xt,← iq,Blk.sh,dq]
             · rfl
 case clear sz z x =>
   rw [aF h.2]
   cases evX T x with
   | none=>rfl
   | some a =>
     cases a<;>try rfl
     rename_i i off m cp s
     simp only [Option.map_some,AV.sh,AV.ren]
     rw [dY]
     cases hk:M[i]? with
     | none=>rfl
     | some k =>
       cases k<;>simp only [Option.map_some,Option.map_none,Blk.sh]
       split
       · rename_i l _
         have:=xt (B:=L0.length) l (ce z m) off
         rw [iR h.1] at this
         simp only [Option.map_some,shR,AV.sh,AV.ren,AV.renL,this,← iq,Blk.sh,dq]
       · rfl
 case minmax mx xs =>
   rcases xs with _|⟨x,_|⟨y,_|⟨z,l⟩⟩⟩
   · rfl
   · rfl
   · simp only [CZ,Bool.and_eq_true] at h
     simp only [aF h.1,aF h.2.1]
     cases evX T x with
     | none=>rfl
     | some a =>
       cases evX T y with
       | none=>cases a<;>rfl
       | some b=>cases a<;>cases b<;>rfl
   · rfl
 case call f xs=>rfl
 case callv f xs=>rfl
 case mkmap=>simp only [Option.map_some,shR,AV.sh,AV.ren,gy,← eO,Blk.sh,List.map_nil]
 case mget kd ok z m k =>
   rw [aF h.1.2,aF h.2]
   have hz:AV.ren (sf L0.length) z=z:=eI h.1.1
   cases evX T m with
   | none=>rfl
   | some a =>
     cases evX T k with
     | none=>cases a<;>rfl
     | some kv =>
       cases a<;>try rfl
       · simp only [Option.map_some,AV.sh,AV.ren]
         rw [show bD kd (AV.ren (sf L0.length) kv)=bD kd kv from oj kd kv]
         split
         · cases ok<;>simp only [Option.map_some,shR,AV.sh,AV.ren,AV.renL,hz,Bool.false_eq_true,if_true,if_false]
         · rfl
       · rename_i i
         simp only [Option.map_some,AV.sh,AV.ren]
         rw [dY]
         cases hk:M[i]? with
         | none=>rfl
         | some b =>
           cases b<;>simp only [Option.map_some,Option.map_none,Blk.sh]
           rename_i es ck
           rw [show bD kd (AV.ren (sf L0.length) kv)=bD kd kv from oj kd kv]
           split
           · rw [show eE (AV.ren (sf L0.length) kv) (es.map fun e=>(AV.ren (sf L0.length) e.1,AV.ren (sf L0.length) e.2.1,e.2.2)) 0=_ from Cl (B:=L0.length) kv es 0]
             cases eE kv es 0 with
             | none=>rfl
             | some r =>
               cases r with
               | none=>cases ok<;>simp only [Option.map_some,Option.map_none,shR,AV.sh,AV.ren,AV.renL,hz,Bool.false_eq_true,if_true,if_false]
               | some p=>cases ok<;>simp only [Option.map_some,Option.map_none,shR,AV.sh,AV.ren,AV.renL,hz,Bool.false_eq_true,if_true,if_false]
           · rfl
 case mdel kd m k =>
   rw [aF h.1,aF h.2]
   cases evX T m with
   | none=>rfl
   | some a =>
     cases evX T k with
     | none=>cases a<;>rfl
     | some kv =>
       cases a<;>try rfl
       · simp only [Option.map_some,AV.sh,AV.ren]
         rw [show bD kd (AV.ren (sf L0.length) kv)=bD kd kv from oj kd kv]
         split
         · simp only [Option.map_some,shR,AV.sh,AV.ren,AV.renL]
         · rfl
       · rename_i i
         simp only [Option.map_some,AV.sh,AV.ren]
         rw [dY]
         cases hk:M[i]? with
         | none=>rfl
         | some b =>
           cases b<;>simp only [Option.map_some,Option.map_none,Blk.sh]
           rename_i es ck
           rw [show bD kd (AV.ren (sf L0.length) kv)=bD kd kv from oj kd kv]
           split
           · rw [show eE (AV.ren (sf L0.length) kv) (es.map fun e=>(AV.ren (sf L0.length) e.1,AV.ren (sf L0.length) e.2.1,e.2.2)) 0=_ from Cl (B:=L0.length) kv es 0]
             cases eE kv es 0 with
             | none=>rfl
             | some r =>
               cases r with
               | none=>simp only [Option.map_some,Option.map_none,shR,← iq,Blk.sh,AV.sh,AV.ren,AV.renL]
               | some p=>simp only [Option.map_some,Option.map_none,shR,← iq,Blk.sh,AV.sh,AV.ren,AV.renL,zV]
           · rfl
 case mset kd m k v =>
   rw [aF h.1.1,aF h.1.2,aF h.2]
   cases evX T m with
   | none=>rfl
   | some a =>
     cases evX T k with
     | none=>cases a<;>rfl
     | some kv =>
       cases evX T v with
       | none=>cases a<;>rfl
       | some x =>
         cases a<;>try rfl
         rename_i i
         simp only [Option.map_some,AV.sh,AV.ren]
         rw [dY]
         cases hk:M[i]? with
         | none=>rfl
         | some b =>
           cases b<;>simp only [Option.map_some,Option.map_none,Blk.sh]
           rename_i es ck
           rw [show bD kd (AV.ren (sf L0.length) kv)=bD kd kv from oj kd kv]
           split
           · rw [show eE (AV.ren (sf L0.length) kv) (es.map fun e=>(AV.ren (sf L0.length) e.1,AV.ren (sf L0.length) e.2.1,e.2.2)) 0=_ from Cl (B:=L0.length) kv es 0]
             cases eE kv es 0 with
             | none=>rfl
             | some r =>
               cases r with
               | none=>simp only [Option.map_some,Option.map_none,shR,← iq,Blk.sh,AV.sh,AV.ren,List.map_append,List.map_cons,List.map_nil]
               | some p =>
                 have e:=KW (B:=L0.length) kv x es p.1
                 simp only [shE,AV.sh] at e
                 simp only [Option.map_some,shR,← iq,Blk.sh,AV.sh,AV.ren,e]
           · rfl
 case mrange x =>
   rw [aF h]
   cases evX T x with
   | none=>rfl
   | some a =>
     cases a<;>try rfl
     · simp only [Option.map_some,shR,AV.sh,AV.ren,gy,← eO,Blk.sh,Option.map_none]
     · rename_i i
       simp only [Option.map_some,AV.sh,AV.ren]
       rw [dY]
       cases hk:M[i]? with
       | none=>rfl
       | some b=>cases b<;>simp only [Option.map_some,Option.map_none,Blk.sh,shR,AV.sh,AV.ren,gy,← eO]
 case mnext x =>
   rw [aF h]
   cases evX T x with
   | none=>rfl
   | some a =>
     cases a<;>try rfl
     rename_i i off
     cases off with
     | succ o=>rfl
     | zero =>
       simp only [Option.map_some,AV.sh,AV.ren]
       rw [dY]
       cases hk:M[i]? with
       | none=>rfl
       | some b =>
         cases b<;>simp only [Option.map_some,Option.map_none,Blk.sh]
         rename_i m since seen last
         cases m with
         | none=>rfl
         | some j =>
           simp only [Option.map_some]
           rw [dY]
           cases hj:M[j]? with
           | none=>rfl
           | some b =>
             cases b<;>simp only [Option.map_some,Option.map_none,Blk.sh]
             rename_i es ck
             rw [show D4 (es.map fun e=>(AV.sh L0.length e.1,AV.sh L0.length e.2.1,e.2.2)) since seen last=_ from OT (B:=L0.length) es since seen last]
             cases D4 es since seen last with
             | none=>rfl
             | some r=>simp only [Option.map_some,shR,OR,OS]
 case mentry x =>
   rw [aF h]
   cases evX T x with
   | none=>rfl
   | some a =>
     cases a<;>try rfl
     rename_i i off
     cases off with
     | succ o=>rfl
     | zero =>
       simp only [Option.map_some,AV.sh,AV.ren]
       rw [dY]
       cases hk:M[i]? with
       | none=>rfl
       | some b =>
         cases b<;>simp only [Option.map_some,Option.map_none,Blk.sh]
         rename_i m since seen last
         cases m with
         | none=>rfl
         | some j =>
           simp only [Option.map_some]
           rw [dY]
           cases hj:M[j]? with
           | none=>rfl
           | some b =>
             cases b<;>simp only [Option.map_some,Option.map_none,Blk.sh]
             rename_i es ck
             rw [show mat (es.map fun e=>(AV.sh L0.length e.1,AV.sh L0.length e.2.1,e.2.2)) ck seen last=_ from Un (B:=L0.length) es ck seen last]
             cases mat es ck seen last<;>rfl
 case mlen m =>
   rw [aF h]
   cases evX T m with
   | none=>rfl
   | some a =>
     cases a<;>try rfl
     rename_i i
     simp only [Option.map_some,AV.sh,AV.ren]
     rw [dY]
     cases hk:M[i]? with
     | none=>rfl
     | some b=>cases b<;>simp [Blk.sh,shR,AV.sh,AV.ren]
end
set_option maxHeartbeats 4000000
mutual
theorem AV.beq_eq:∀ {a b:AV},AV.beq a b=true→a=b
 | .undef,b,h=>by cases b<;>first|rfl|(simp [AV.beq] at h)
 | .bool _,b,h=>by cases b<;>simp [AV.beq] at h;simp [h]
 | .anyb,b,h=>by cases b<;>first|rfl|(simp [AV.beq] at h)
 | .int _ _,b,h=>by cases b<;>simp [AV.beq] at h;simp [h]
 | .str _,b,h=>by cases b<;>simp [AV.beq] at h;simp [h]
 | .nilptr,b,h=>by cases b<;>first|rfl|(simp [AV.beq] at h)
 | .gptr _ _,b,h=>by cases b<;>simp [AV.beq] at h;simp [h]
 | .ptr _ _,b,h=>by cases b<;>simp [AV.beq] at h;simp [h]
 | .iptr l o,b,h=>by
   cases b<;>simp [AV.beq] at h
   simp only [h.1,AV.beqL_eq h.2]
 | .nilsl,b,h=>by cases b<;>first|rfl|(simp [AV.beq] at h)
 | .sl l n c,b,h=>by
   cases b<;>simp [AV.beq] at h
   simp only [h.1.1,h.1.2,AV.beqL_eq h.2]
 | .lsl _ _ _ _ _,b,h=>by cases b<;>simp [AV.beq] at h;simp [h]
 | .gsl l n i s,b,h=>by
   cases b<;>simp [AV.beq] at h
   simp only [h.1.1.1,h.1.1.2,h.1.2,AV.beqL_eq h.2]
 | .nilmap,b,h=>by cases b<;>first|rfl|(simp [AV.beq] at h)
 | .lmap _,b,h=>by cases b<;>simp [AV.beq] at h;simp [h]
 | .func f l,b,h=>by
   cases b<;>simp [AV.beq] at h
   simp only [h.1,AV.beqL_eq h.2]
 | .nilfunc,b,h=>by cases b<;>first|rfl|(simp [AV.beq] at h)
 | .nilif,b,h=>by cases b<;>first|rfl|(simp [AV.beq] at h)
 | .iface t a,b,h=>by
   cases b<;>simp [AV.beq] at h
   simp only [h.1,AV.beq_eq h.2]
 | .agg l,b,h=>by
   cases b<;>simp [AV.beq] at h
   simp only [AV.beqL_eq h]
 | .tup l,b,h=>by
   cases b<;>simp [AV.beq] at h
   simp only [AV.beqL_eq h]
theorem AV.beqL_eq:∀ {a b:List AV},AV.beqL a b=true→a=b
 | [],b,h=>by cases b<;>first|rfl|(simp [AV.beqL] at h)
 | a::l,b,h=>by
   cases b<;>simp [AV.beqL] at h
   rw [AV.beq_eq h.1,AV.beqL_eq h.2]
end
mutual
theorem tl {p:Nat→Bool}:∀ {a:AV},a.refs (fun _=>false)=true→a.refs p=true
 | .undef,_=>rfl
 | .bool _,_=>rfl
 | .anyb,_=>rfl
 | .int _ _,_=>rfl
 | .str _,_=>rfl
 | .nilptr,_=>rfl
 | .gptr _ _,_=>rfl
 | .ptr _ _,h=>by simp [AV.refs] at h
 | .iptr l o,h=>by simp only [AV.refs] at h ⊢;exact eN h
 | .nilsl,_=>rfl
 | .sl l n c,h=>by simp only [AV.refs] at h ⊢;exact eN h
 | .lsl _ _ _ _ _,h=>by simp [AV.refs] at h
 | .gsl _ _ _ _,h=>by simp [AV.refs] at h
 | .nilmap,_=>rfl
 | .lmap _,h=>by simp [AV.refs] at h
 | .func g l,h=>by simp only [AV.refs] at h ⊢;exact eN h
 | .nilfunc,_=>rfl
 | .nilif,_=>rfl
 | .iface t a,h=>by simp only [AV.refs] at h ⊢;exact tl h
 | .agg l,h=>by simp only [AV.refs] at h ⊢;exact eN h
 | .tup l,h=>by simp only [AV.refs] at h ⊢;exact eN h
theorem eN {p:Nat→Bool}:∀ {l:List AV},AV.refsL (fun _=>false) l=true→AV.refsL p l=true
 | [],_=>rfl
 | a::l,h=>by
   simp only [AV.refsL,Bool.and_eq_true] at h ⊢
   exact ⟨tl h.1,eN h.2⟩
end
mutual
theorem KO {B i:Nat} {l:List AV}:∀ (a:AV),(a.sh B).snap (sf B i) (shL B l)=(a.snap i l).sh B
 | .undef=>rfl
 | .bool _=>rfl
 | .anyb=>rfl
 | .int _ _=>rfl
 | .str _=>rfl
 | .nilptr=>rfl
 | .gptr _ _=>rfl
 | .ptr _ _=>rfl
 | .iptr _ _=>rfl
 | .nilsl=>rfl
 | .sl _ _ _=>rfl
 | .lsl j o n c s=>by
   simp only [AV.sh,AV.ren,AV.snap]
   by_cases h:j=i
   · subst h;rw [if_pos rfl,if_pos rfl];simp only [AV.ren,fg,eH]
   · rw [if_neg h,if_neg (by unfold sf;omega)];simp only [AV.ren]
 | .gsl _ _ _ _=>rfl
 | .nilmap=>rfl
 | .lmap _=>rfl
 | .func _ _=>rfl
 | .nilfunc=>rfl
 | .nilif=>rfl
 | .iface _ _=>rfl
 | .agg l=>by simp only [AV.sh,AV.ren,AV.snap];rw [Fd l]
 | .tup l=>by simp only [AV.sh,AV.ren,AV.snap];rw [Fd l]
theorem Fd {B i:Nat} {l:List AV}:∀ (a:List AV),AV.snapL (sf B i) (shL B l) (AV.renL (sf B) a)=AV.renL (sf B) (AV.snapL i l a)
 | []=>rfl
 | a::m=>by
   simp only [AV.renL,AV.snapL]
   have:=KO (B:=B) (i:=i) (l:=l) a
   simp only [AV.sh] at this
   rw [Fd m,this]
end
theorem C7 {L0:List Blk} {Q:AV→List Blk→Prop}:∀ (rest pre:List Blk) (v:AV),oY ((AL rest pre.length v).frz)=true→Q ((AL rest pre.length v).frz) L0→Fin L0 (v.sh L0.length) (cd L0 (pre++rest)) Q
 | [],pre,v,hc,hq=>by
   refine bB ?_
   rw [Km,show AV.sh L0.length v.frz=v.frz from eI hc]
   exact ad (tl hc) hq
 | k::rest,pre,v,hc,hq=>by
   have skip:AL (k::rest) pre.length v=AL rest (pre.length+1) v→Fin L0 (v.sh L0.length) (cd L0 (pre++k::rest)) Q:=fun e=>by
     rw [e] at hc hq
     have:=C7 (Q:=Q) rest (pre++[k]) v (by simpa using hc) (by simpa using hq)
     simpa using this
   cases k
   case cells l =>
     simp only [AL] at hc hq
     refine JC (i:=sf L0.length pre.length) (l:=shL L0.length l) (by rw [dY];simp [Blk.sh]) ?_
     rw [KO,show Blk.dead=Blk.sh L0.length .dead from rfl,iq]
     have:=C7 (Q:=Q) rest (pre++[.dead]) (v.snap pre.length l) (by simpa using hc) (by simpa using hq)
     simpa using this
   all_goals exact skip rfl
def wS (l:List ah):Bool:=l.all fun o=>o.op.okc
mutual
def SOp.okc:SOp→Bool
 | .op o=>o.op.okc
 | .grp _ _ _ body _ x=>oG body && x.okc
def oG:List SOp→Bool
 | []=>true
 | s::r=>s.okc && oG r
end
def bW.okc:bW→Bool
 | .sreg s _=>oG s
 | .sdreg s _ _=>oG s
 | .dregM qk ts _=>wS (qk.map (·.1)) && wS ts
 | .region ops=>wS ops
 | .dregion qk ts=>wS (qk.map (·.1)) && wS ts
 | .seq a b=>a.okc && b.okc
 | .cond x a b=>x.okc && a.okc && b.okc
 | .block _ c=>c.okc
 | .loop c=>c.okc
 | _=>true
section
variable {P:Program}
def xm (P:Program) (call:iP):Prop:=∀ f args L v L',call f args L=some (v,L')→∀ L0:List Blk,af P f (shL L0.length args) (cd L0 L) fun av K=>av=v.sh L0.length∧K=cd L0 L'
def xj (P:Program) (run:jC):Prop:=∀ f args v,run f args=some v→fo args=true∧oY v=true∧∀ L,af P f args L fun av K=>av=v∧K=L
theorem xx (B:Nat) (d:Option Nat) (v:AV) (T:Tm):bC d (v.sh B) (shT B T)=shT B (bC d v T):=by
 cases d<;>rfl
theorem Md {o:ah} {T:Tm} {L L':List Blk} {v:AV} (hk:o.op.okc=true) (h:fO T L o.op=some (v,L')) (L0:List Blk):EQv P o (shT L0.length T) (cd L0 L) (v.sh L0.length) (cd L0 L'):=by
 obtain ⟨c,h1,h2⟩:=Jf h
 have h3:=Hj (L0:=L0) (M:=L) (T:=T) hk
 rw [h1] at h3
 obtain ⟨d,op,g⟩:=o
 cases op
 case call=>simp [ac] at h1
 case callv=>simp [ac] at h1
 all_goals
   simp only at h3
   simp only [EQv,h3,Option.map_some,shR]
   first|exact ⟨h2,rfl,rfl⟩|exact ⟨h2,trivial,trivial⟩|exact ⟨h2,trivial⟩|exact h2|exact ⟨h2,rfl⟩|simp_all
theorem GM {call:iP} (hcall:xm P call) {o:ah} {T:Tm} {L L':List Blk} {v:AV} (hk:o.op.okc=true) (h:xOp call o T L=some (v,L')) (L0:List Blk):EQv P o (shT L0.length T) (cd L0 L) (v.sh L0.length) (cd L0 L'):=by
 obtain ⟨d,op,g⟩:=o
 unfold xOp at h
 simp only at h hk
 split at h
 · rename_i f xs
   simp only [LOp.okc] at hk
   simp only [EQv,xC hk]
   cases ha:dm T xs with
   | none=>rw [ha] at h;simp at h
   | some args=>rw [ha] at h;exact hcall f args L v L' h L0
 · rename_i fx xs
   simp only [LOp.okc,Bool.and_eq_true] at hk
   simp only [EQv,xC hk.2,aF hk.1]
   cases hf:evX T fx with
   | none=>rw [hf] at h;simp at h
   | some fv =>
     rw [hf] at h
     cases ha:dm T xs with
     | none=>rw [ha] at h;cases fv<;>simp at h
     | some args =>
       rw [ha] at h
       cases fv<;>simp only [reduceCtorEq] at h
       rename_i g caps
       simp only [Option.map_some,AV.sh,AV.ren]
       have:=hcall g (args++caps) L v L' h L0
       rwa [← gD] at this
 · exact Md (o:=⟨d,op,g⟩) hk (FX h) L0
theorem E8 {call:iP} (hcall:xm P call) {o:ah} {T:Tm} {L L':List Blk} {v:AV} (hk:o.op.okc=true) (h:xG call o T L=some (v,L')) (L0:List Blk):EQ P o (shT L0.length T) (cd L0 L) (v.sh L0.length) (cd L0 L'):=by
 unfold xG at h
 unfold EQ
 split at h
 · rename_i hg;simp only [hg];exact GM hcall hk h L0
 · rename_i t b hg
   simp only [hg,iS]
   split at h
   · rename_i x hx
     rw [hx]
     simp only [Option.map_some,AV.sh,AV.ren]
     split at h
     · rename_i e;rw [if_pos e];exact GM hcall hk h L0
     · rename_i e;rw [if_neg e]
       simp only [Option.some.injEq,Prod.mk.injEq] at h
       obtain ⟨rfl,rfl⟩:=h
       exact ⟨rfl,rfl⟩
   · rename_i hx
     rw [hx]
     simp only [Option.some.injEq,Prod.mk.injEq] at h
     obtain ⟨rfl,rfl⟩:=h
     exact ⟨rfl,rfl⟩
   · cases h
theorem AOp.mono {o:ah} {K K':Tm→List Blk→Prop} {T:Tm} {L:List Blk} (h:AOp P o K T L) (hk:∀ T L,K T L→K' T L):AOp P o K' T L:=by
 unfold AOp at h ⊢
 split at h
 · unfold Cal at h ⊢
   split at h
   · exact af.mono h fun av L'=>hk _ _
   · exact h
 · unfold MI at h ⊢
   split at h
   · exact af.mono h fun av L'=>hk _ _
   · exact h.elim
 · unfold Res at h ⊢
   split at h
   · exact ⟨h.1,hk _ _ h.2⟩
   · exact h
theorem EQ.then {o:ah} {K:Tm→List Blk→Prop} {T:Tm} {L L2:List Blk} {v:AV} (h:EQ P o T L v L2) (hk:K (bC o.dst v T) L2) :
   match o.guard with|none=>AOp P o K T L|some (t,b)=>Grd P o K b T L (ak T t):=by
 unfold EQ at h
 split at h
 · rename_i hg
   simp only [hg]
   exact h.aop.mono fun T' L' ⟨e1,e2⟩=>by rw [e1,e2];exact hk
 · rename_i t b hg
   simp only [hg]
   split at h
   · rename_i x hx
     rw [hx,oB]
     split at h
     · rename_i e;rw [if_pos e]
       exact h.aop.mono fun T' L' ⟨e1,e2⟩=>by rw [e1,e2];exact hk
     · rename_i e;rw [if_neg e]
       obtain ⟨rfl,rfl⟩:=h
       exact hk
   · rename_i hx
     rw [hx,Ii]
     obtain ⟨rfl,rfl⟩:=h
     exact hk
   · exact h.elim
theorem oD {call:iP} (hcall:xm P call) {K:Tm→List Blk→Prop} (L0:List Blk):∀ {ops:List ah} {T T':Tm} {L L':List Blk},wS ops=true→JG call ops T L=some (T',L')→K (shT L0.length T') (cd L0 L')→fy P K ops (shT L0.length T) (cd L0 L)
 | [],T,T',L,L',_,h,hK=>by
   simp only [JG,Option.some.injEq,Prod.mk.injEq] at h
   obtain ⟨rfl,rfl⟩:=h
   exact hK
 | o::r,T,T',L,L',hk,h,hK=>by
   simp only [wS,List.all_cons,Bool.and_eq_true] at hk
   simp only [JG] at h
   split at h
   · rename_i v L1 h1
     have h2:=E8 hcall hk.1 h1 L0
     have h3:=oD hcall L0 (ops:=r) hk.2 h hK
     rw [← xx] at h3
     exact h2.then (K:=fy P K r) h3
   · cases h
theorem CY {run:jC} (hrun:xj P run) {o:ah} {T:Tm} {L:List Blk} {v:AV} (hk:o.op.okc=true) (h:qOp run o T L=some v) (L0:List Blk):AQv P o (shT L0.length T) (cd L0 L) (v.sh L0.length):=by
 obtain ⟨d,op,g⟩:=o
 unfold qOp at h
 simp only at h hk
 split at h
 · rename_i f xs
   simp only [LOp.okc] at hk
   simp only [AQv,xC hk]
   cases ha:dm T xs with
   | none=>rw [ha] at h;simp at h
   | some args =>
     rw [ha] at h
     obtain ⟨c1,c2,c3⟩:=hrun f args v h
     simp only [Option.map_some]
     rw [show shL L0.length args=args from bS c1,show AV.sh L0.length v=v from eI c2]
     exact c3 _
 · rename_i fx xs
   simp only [LOp.okc,Bool.and_eq_true] at hk
   simp only [AQv,xC hk.2,aF hk.1]
   cases hf:evX T fx with
   | none=>rw [hf] at h;simp at h
   | some fv =>
     rw [hf] at h
     cases ha:dm T xs with
     | none=>rw [ha] at h;cases fv<;>simp at h
     | some args =>
       rw [ha] at h
       cases fv<;>simp only [reduceCtorEq] at h
       rename_i g caps
       obtain ⟨c1,c2,c3⟩:=hrun g (args++caps) v h
       simp only [Option.map_some,AV.sh,AV.ren]
       have e:shL L0.length args++shL L0.length caps=args++caps:=by rw [gD];exact bS c1
       have e2:AV.ren (sf L0.length) v=v:=eI c2
       rw [e,e2]
       exact c3 _
 · rename_i n1 n2
   split at h
   · cases h
   · rename_i he
     split at h
     · rename_i u L' h1
       simp only [Option.some.injEq] at h;subst h
       obtain ⟨c,h2,h3⟩:=Jf (FX h1)
       have:=Ox (by simpa using he) h2
       subst this
       have h4:=Hj (L0:=L0) (M:=L') (T:=T) hk
       rw [h2] at h4
       cases op
       case call=>exact (n1 _ _ rfl).elim
       case callv=>exact (n2 _ _ rfl).elim
       all_goals
         simp only [AQv,h4,Option.map_some,shR]
         first|exact ⟨h3,rfl,rfl⟩|exact ⟨h3,trivial,trivial⟩|simp_all
     · cases h
theorem Ce {run:jC} (hrun:xj P run) {o:ah} {T:Tm} {L:List Blk} {v:AV} (hk:o.op.okc=true) (h:qG run o T L=some v) (L0:List Blk):AQ P o (shT L0.length T) (cd L0 L) (v.sh L0.length):=by
 unfold qG at h
 unfold AQ
 split at h
 · rename_i hg;simp only [hg];exact CY hrun hk h L0
 · rename_i t b hg
   simp only [hg,iS]
   split at h
   · rename_i x hx
     rw [hx]
     simp only [Option.map_some,AV.sh,AV.ren]
     split at h
     · rename_i e;rw [if_pos e];exact CY hrun hk h L0
     · rename_i e;rw [if_neg e]
       simp only [Option.some.injEq] at h
       subst h;rfl
   · rename_i hx
     rw [hx]
     simp only [Option.some.injEq] at h
     subst h;rfl
   · cases h
theorem U8 {o:ah} {k:Tm→Prop} {T:Tm} {L:List Blk} {v:AV} (h:AQv P o T L v) (hk:k (bC o.dst v T)):GOp P L o k T:=by
 unfold AQv at h
 unfold GOp
 split at h
 · rename_i e
   simp only [e]
   split at h
   · rename_i args ha;rw [ha];exact ⟨v,h,hk⟩
   · exact h.elim
 · rename_i e
   simp only [e]
   split at h
   · rename_i g caps args hf ha;rw [hf,ha];exact ⟨v,h,hk⟩
   · exact h.elim
 · rename_i lo h1 h2
   split at h
   · rename_i c av L' he
     obtain ⟨hc,rfl,rfl⟩:=h
     obtain ⟨d,op,g⟩:=o
     cases op
     case call=>exact (h1 _ _ rfl).elim
     case callv=>exact (h2 _ _ rfl).elim
     all_goals
       simp only at he
       simp only [U7,he]
       first|exact ⟨hc,rfl,hk⟩|exact ⟨hc,trivial,hk⟩
   · exact h.elim
mutual
theorem Ft {run:jC} (hrun:xj P run) (L0 L:List Blk):∀ {l:List SOp} {T T':Tm} {k:Tm→Prop},oG l=true→qL run L l T=some T'→k (shT L0.length T')→GL P (cd L0 L) l k (shT L0.length T)
 | [],T,T',k,_,h,hk=>by
   simp only [qL,Option.some.injEq] at h
   subst h
   rw [Qt];exact hk
 | s::r,T,T',k,hok,h,hk=>by
   simp only [oG,Bool.and_eq_true] at hok
   simp only [qL] at h
   split at h
   · rename_i T1 h1
     rw [GL]
     exact Iu hrun L0 L (s:=s) hok.1 h1 (Ft hrun L0 L (l:=r) hok.2 h hk)
   · cases h
theorem Iu {run:jC} (hrun:xj P run) (L0 L:List Blk):∀ {s:SOp} {T T':Tm} {k:Tm→Prop},s.okc=true→qS run L s T=some T'→k (shT L0.length T')→GO P (cd L0 L) s k (shT L0.length T)
 | .op o,T,T',k,hok,h,hk=>by
   simp only [SOp.okc] at hok
   simp only [qS] at h
   split at h
   · rename_i v h1
     simp only [Option.some.injEq] at h
     subst h
     rw [GO]
     rw [← xx] at hk
     exact U8 (CY hrun hok h1 L0) hk
   · cases h
 | .grp g t b body d x,T,T',k,hok,h,hk=>by
   simp only [SOp.okc,Bool.and_eq_true] at hok
   simp only [qS] at h
   rw [GO]
   rw [iS]
   split at h
   · rename_i p hp
     rw [hp]
     simp only [Option.map_some,AV.sh,AV.ren]
     split at h
     · rename_i e
       split at h
       · rename_i T1 h1
         split at h
         · rename_i q hq
           simp only [Option.some.injEq] at h
           subst h
           refine ⟨q,fun _=>Ft hrun L0 L (l:=body) hok.1 h1 ?_,?_⟩
           · unfold IsX IsB
             rw [aF hok.2,hq];rfl
           · have:mrg b p q=q:=by subst e;cases p<;>simp [mrg]
             rw [this]
             exact hk
         · cases h
       · cases h
     · rename_i e
       simp only [Option.some.injEq] at h
       subst h
       refine ⟨false,fun e'=>absurd e' e,?_⟩
       have:mrg b p false = !b:=by cases b<;>cases p<;>simp_all [mrg]
       rw [this]
       exact hk
   · cases h
end
theorem E7 {call:iP} {run:jC} (hcall:xm P call) (hrun:xj P run) {K:Tm→List Blk→Prop} (L0:List Blk):∀ {l:List SOp} {T T':Tm} {L L':List Blk},oG l=true→xL call run l T L=some (T',L')→K (shT L0.length T') (cd L0 L')→SL P l K (shT L0.length T) (cd L0 L)
 | [],T,T',L,L',_,h,hK=>by
   simp only [xL,Option.some.injEq,Prod.mk.injEq] at h
   obtain ⟨rfl,rfl⟩:=h
   exact hK
 | .op o::r,T,T',L,L',hok,h,hK=>by
   simp only [oG,SOp.okc,Bool.and_eq_true] at hok
   simp only [xL] at h
   split at h
   · rename_i v L1 h1
     have h2:=E8 hcall hok.1 h1 L0
     have h3:=E7 hcall hrun L0 (l:=r) hok.2 h hK
     rw [← xx] at h3
     exact h2.then (K:=SL P r K) h3
   · cases h
 | .grp g t b body d x::r,T,T',L,L',hok,h,hK=>by
   simp only [oG,Bool.and_eq_true] at hok
   simp only [xL] at h
   split at h
   · rename_i T1 h1
     have h3:=E7 hcall hrun L0 (l:=r) hok.2 h hK
     have:=Iu hrun L0 L (s:=.grp g t b body d x) (k:=fun T2=>SL P r K T2 (cd L0 L)) hok.1 h1 h3
     rw [GO] at this
     simp only [SL,GG]
     exact this
   · cases h
def shH (B:Nat) (H:List eG):List eG:=H.map fun y=>(y.1,y.2.1,shT B y.2.2.1,y.2.2.2.sh B)
theorem EK (B:Nat):∀ (H:List eG),ik (shH B H)=shH B (ik H)
 | []=>rfl
 | (0,y)::h=>by simp only [shH,List.map_cons,ik];exact EK B h
 | (1,y)::h=>by simp only [shH,List.map_cons,ik];exact EK B h
 | (n+2,y)::h=>by simp only [shH,List.map_cons,ik];rw [show ik (List.map _ h)=ik (shH B h) from rfl,EK B h];rfl
theorem M3 (B f:Nat) (o:ah) (T:Tm) (v:AV) (H:List eG):Ep f o (shT B T) (v.sh B) (shH B H)=shH B (Ep f o T v H):=by
 cases f<;>rfl
theorem G0 {run:jC} (hrun:xj P run) {o:ah} {T:Tm} {v:AV} (hk:o.op.okc=true) (L0:List Blk):∀ {Ls:List (List Blk)},HD run o T v Ls=true→∀ L∈Ls,AQ P o (shT L0.length T) (cd L0 L) (v.sh L0.length)
 | [],_,L,h=>by cases h
 | M::Ls,h,L,hL=>by
   simp only [HD,Bool.and_eq_true] at h
   rcases List.mem_cons.1 hL with rfl|hL
   · have h1:=h.1
     split at h1
     · rename_i u hu
       rw [← AV.beq_eq h1]
       exact Ce hrun hk hu L0
     · cases h1
   · exact G0 hrun hk L0 h.2 L hL
theorem K8 {run:jC} (hrun:xj P run) (L0 L:List Blk):∀ {H:List eG},(∀ y∈H,y.2.1.op.okc=true)→Tl run L H=true→oA P (cd L0 L) (shH L0.length H)
 | [],_,_=>trivial
 | (f,o,T,v)::H,hk,h=>by
   simp only [Tl,Bool.and_eq_true] at h
   refine ⟨?_,K8 hrun L0 L (fun y hy=>hk y (List.mem_cons_of_mem _ hy)) h.2⟩
   have h1:=h.1
   split at h1
   · rename_i u hu
     rw [← AV.beq_eq h1]
     exact Ce hrun (hk _ (List.mem_cons_self ..)) hu L0
   · cases h1
theorem tc {call:iP} {run:jC} (hcall:xm P call) (hrun:xj P run) {K:Tm→List Blk→Prop} (L0:List Blk):∀ {qk:List (ah×Kd)} {Ls:List (List Blk)} {H:List eG} {T T':Tm} {L':List Blk},wS (qk.map (·.1))=true→(∀ y∈H,y.2.1.op.okc=true) →
   xD call run qk Ls H T=some (T',L')→K (shT L0.length T') (cd L0 L')→AG P K qk (Ls.map (cd L0)) (shH L0.length H) (shT L0.length T)
 | qk,[],H,T,T',L',_,_,h,_=>by
   rcases qk with _|⟨⟨o,kd⟩,r⟩
   · simp [xD] at h
   · cases kd<;>simp [xD] at h
 | [],L::Ls,H,T,T',L',_,_,h,hK=>by
   simp only [xD,Option.some.injEq,Prod.mk.injEq] at h
   obtain ⟨rfl,rfl⟩:=h
   exact hK
 | (o,.pure)::r,L::Ls,H,T,T',L',hok,hH,h,hK=>by
   simp only [wS,List.map_cons,List.all_cons,Bool.and_eq_true] at hok
   simp only [xD] at h
   split at h
   · rename_i v h1
     have h3:=tc hcall hrun L0 (qk:=r) (Ls:=L::Ls) hok.2 hH h hK
     rw [← xx] at h3
     exact ⟨_,Ce hrun hok.1 h1 L0,h3⟩
   · cases h
 | (o,.read n f)::r,L::Ls,H,T,T',L',hok,hH,h,hK=>by
   simp only [wS,List.map_cons,List.all_cons,Bool.and_eq_true] at hok
   simp only [xD] at h
   split at h
   · rename_i v h1
     split at h
     · rename_i hs
       have hH':∀ y∈Ep f o T v H,y.2.1.op.okc=true:=fun y hy=>by
         unfold Ep at hy
         split at hy
         · exact hH y hy
         · rcases List.mem_cons.1 hy with rfl|hy
           · exact hok.1
           · exact hH y hy
       have h3:=tc hcall hrun L0 (qk:=r) (Ls:=L::Ls) hok.2 hH' h hK
       rw [← xx,← M3] at h3
       refine ⟨_,fun M hM=>?_,h3⟩
       rw [List.take_succ_cons,← List.map_take] at hM
       rcases List.mem_cons.1 hM with rfl|hM
       · exact Ce hrun hok.1 h1 L0
       · obtain ⟨M',hM',rfl⟩:=List.mem_map.1 hM
         exact G0 hrun hok.1 L0 hs M' hM'
     · cases h
   · cases h
 | (o,.eff)::r,L::Ls,H,T,T',L',hok,hH,h,hK=>by
   simp only [wS,List.map_cons,List.all_cons,Bool.and_eq_true] at hok
   simp only [xD] at h
   split at h
   · rename_i v L2 h1
     split at h
     · rename_i hs
       have hH':∀ y∈ik H,y.2.1.op.okc=true:=by
         have key:∀ (H:List eG) (y:eG),y∈ik H→∃ z∈H,z.2=y.2:=by
           intro H
           induction H with
           | nil=>intro y hy;cases hy
           | cons z H ih =>
             intro y hy
             obtain ⟨m,z⟩:=z
             rcases m with _|_|m
             · obtain ⟨z',h1,h2⟩:=ih y hy;exact ⟨z',List.mem_cons_of_mem _ h1,h2⟩
             · obtain ⟨z',h1,h2⟩:=ih y hy;exact ⟨z',List.mem_cons_of_mem _ h1,h2⟩
             · simp only [ik] at hy
               rcases List.mem_cons.1 hy with rfl|hy
               · exact ⟨_,List.mem_cons_self ..,rfl⟩
               · obtain ⟨z',h1,h2⟩:=ih y hy;exact ⟨z',List.mem_cons_of_mem _ h1,h2⟩
         intro y hy
         obtain ⟨z,h1,h2⟩:=key H y hy
         rw [← h2];exact hH z h1
       have h3:=tc hcall hrun L0 (qk:=r) (Ls:=L2::L::Ls) hok.2 hH' h hK
       rw [← xx,← EK] at h3
       exact ⟨_,_,E8 hcall hok.1 h1 L0,K8 hrun L0 L2 hH hs,h3⟩
     · cases h
   · cases h
theorem CR (B:Nat):∀ (m:List Bool) (T:Tm),sel m (shT B T)=shT B (sel m T)
 | [],T=>by rw [EN,EN]
 | true::m,[]=>rfl
 | false::m,[]=>rfl
 | true::m,x::T=>by simp only [shT,List.map_cons,M4];rw [show sel m (List.map _ T)=sel m (shT B T) from rfl,CR B m T];rfl
 | false::m,x::T=>by simp only [shT,List.map_cons,M5];exact CR B m T
theorem HC (B:Nat) (m:List Bool) (T:Tm):JP m (shT B T)=JP m T:=by
 have key:∀ (m':List Bool) (T':Tm),((m'.zip (shT B T')).all fun p=>p.1 || (ak (sel m (shT B T)) p.2.1).isNone)=((m'.zip T').all fun p=>p.1 || (ak (sel m T) p.2.1).isNone):=by
   intro m'
   induction m' with
   | nil=>intro T';rfl
   | cons b m' ih =>
     intro T'
     cases T' with
     | nil=>rfl
     | cons x T' =>
       have:=ih T'
       simp only [shT,List.map_cons,List.zip_cons_cons,List.all_cons] at this ⊢
       rw [this]
       congr 2
       have e:=CR B m T
       simp only [shT] at e
       rw [e]
       have e2:=iS (B:=B) (T:=sel m T) x.1
       simp only [shT] at e2
       rw [e2]
       cases ak (sel m T) x.1<;>rfl
 exact key m T
theorem Pq (B:Nat) (ds:List Nat) (T:Tm):frB ds (shT B T)=frB ds T:=by
 unfold frB
 congr 1
 funext d
 rw [iS]
 cases ak T d<;>rfl
theorem CN {mask:List Bool} {r:Option (Tm×List Blk)} {e:Exit} {T:Tm} {L:List Blk} (h:MM mask r=some (e,T,L)):∃ T1,r=some (T1,L)∧JP mask T1=true∧T=sel mask T1∧e=.normal:=by
 unfold MM at h
 split at h
 · rename_i T1 L1
   split at h
   · rename_i hs
     simp only [Option.some.injEq,Prod.mk.injEq] at h
     obtain ⟨rfl,rfl,rfl⟩:=h
     exact ⟨T1,rfl,hs,rfl,rfl⟩
   · cases h
 · cases h
theorem F5 {T':Tm}:∀ {T:Tm} {p:Nat×AV},p∈Ks T' T→ak T' p.1=some p.2
 | [],p,h=>by cases h
 | (t,u)::T,p,h=>by
   simp only [Ks] at h
   split at h
   · rename_i v hv
     rcases List.mem_cons.1 h with rfl|h
     · exact hv
     · exact F5 h
   · exact F5 h
theorem Mh {T' T:Tm} {t:Nat} {v:AV} (h:ak (Ks T' T) t=some v):ak T' t=some v:=F5 (Cp h)
theorem Kr {call:iP} {run:jC} (hcall:xm P call) (hrun:xj P run) {N:Nat} {own:Nat→Nat→Nat} (L0:List Blk):∀ (n:Nat) {lc:bW} {T T':Tm} {L L':List Blk} {e:Exit} {Q:Exit→Tm→List Blk→Prop},lc.okc=true →
   xT call run n lc T L=some (e,T',L')→Q e (shT L0.length T') (cd L0 L')→AW P N own lc Q (shT L0.length T) (cd L0 L):=by
 intro n
 induction n using Nat.strongRecOn with
 | _ n ih =>
 intro lc T T' L L' e Q hok h hQ
 cases n with
 | zero=>simp [xT] at h
 | succ n =>
 have ihn:=fun {lc} {T} {T'} {L} {L'} {e} {Q}=>ih n (Nat.lt_succ_self n) (lc:=lc) (T:=T) (T':=T') (L:=L) (L':=L') (e:=e) (Q:=Q)
 cases lc<;>simp only [xT] at h<;>simp only [bW.okc,Bool.and_eq_true] at hok
 case skip =>
   simp only [Option.some.injEq,Prod.mk.injEq] at h
   obtain ⟨rfl,rfl,rfl⟩:=h
   exact aN hQ
 case exit id =>
   simp only [Option.some.injEq,Prod.mk.injEq] at h
   obtain ⟨rfl,rfl,rfl⟩:=h
   exact aO hQ
 case ret =>
   simp only [Option.some.injEq,Prod.mk.injEq] at h
   obtain ⟨rfl,rfl,rfl⟩:=h
   exact ba hQ
 case sreg sops mask =>
   split at h
   · rename_i hf
     obtain ⟨T1,h1,h2,rfl,rfl⟩:=CN h
     refine aM (by rw [Pq];exact hf) (E7 hcall hrun L0 hok h1 ⟨by rw [HC];exact h2,by rw [CR];exact hQ⟩)
   · cases h
 case sdreg sops kds mask =>
   split at h
   · rename_i hf
     obtain ⟨T1,h1,h2,rfl,rfl⟩:=CN h
     simp only [Option.map_eq_some_iff,Prod.mk.injEq] at h1
     obtain ⟨T2,h3,rfl,rfl⟩:=h1
     refine aA (by rw [Pq];exact hf) (Ft hrun L0 L hok h3 ?_)
     exact ⟨by rw [HC];exact h2,by rw [CR];exact hQ⟩
   · cases h
 case dregM qk ts mask =>
   split at h
   · rename_i T1 L1 h1
     obtain ⟨T2,h3,h2,rfl,rfl⟩:=CN h
     have:=tc hcall hrun (K:=fy P (Ig mask (Q .normal)) ts) L0 (qk:=qk) (Ls:=[L]) (H:=[]) hok.1 (fun y hy=>by cases hy) h1 (oD hcall L0 hok.2 h3 ⟨by rw [HC];exact h2,by rw [CR];exact hQ⟩)
     exact aB this
   · cases h
 case region ops =>
   split at h
   · rename_i T1 L1 h1
     simp only [Option.some.injEq,Prod.mk.injEq] at h
     obtain ⟨rfl,rfl,rfl⟩:=h
     exact au (oD hcall L0 hok h1 hQ)
   · cases h
 case dregion qk ts =>
   split at h
   · rename_i T1 L1 h1
     split at h
     · rename_i T2 L2 h2
       simp only [Option.some.injEq,Prod.mk.injEq] at h
       obtain ⟨rfl,rfl,rfl⟩:=h
       have:=tc hcall hrun (K:=fy P (Q .normal) ts) L0 (qk:=qk) (Ls:=[L]) (H:=[]) hok.1 (fun y hy=>by cases hy) h1 (oD hcall L0 hok.2 h2 hQ)
       exact AB this
     · cases h
   · cases h
 case seq a b =>
   refine a8 ?_
   split at h
   · rename_i T1 L1 h1
     exact ihn hok.1 h1 (ihn hok.2 h hQ)
   · rename_i r hne
     refine ihn hok.1 h ?_
     cases e
     case normal=>exact (hne _ _ h).elim
     all_goals exact hQ
 case cond x a b =>
   split at h
   · rename_i hx
     exact aI (b:=true) (by rw [aF hok.1.1,hx];rfl) (fun _=>ihn hok.1.2 h hQ) (fun e=>by cases e)
   · rename_i hx
     exact aI (b:=false) (by rw [aF hok.1.1,hx];rfl) (fun e=>by cases e) (fun _=>ihn hok.2 h hQ)
   · cases h
 case block id c =>
   refine aC ?_
   split at h
   · rename_i i T1 L1 h1
     refine ihn hok h1 ?_
     simp only [Ih]
     split at h
     · rename_i e'
       simp only [Option.some.injEq,Prod.mk.injEq] at h
       obtain ⟨rfl,rfl,rfl⟩:=h
       rw [if_pos e'];exact hQ
     · rename_i e'
       simp only [Option.some.injEq,Prod.mk.injEq] at h
       obtain ⟨rfl,rfl,rfl⟩:=h
       rw [if_neg e'];exact hQ
   · rename_i r hne
     refine ihn hok h ?_
     cases e
     case exit=>exact (hne _ _ _ h).elim
     all_goals exact hQ
 case loop c =>
   refine TA (fun k T1 L1=>k≤n+1∧∃ T M,(∀ t v,ak (shT L0.length T) t=some v→ak T1 t=some v)∧L1=cd L0 M∧xT call run k (.loop c) T M=some (e,T',L')) (n0:=n+1) ⟨Nat.le_refl _,T,L,fun _ _ h=>h,rfl,by simp only [xT];exact h⟩ ?_
   rintro k T0 _ ⟨hk,T1,M1,hw,rfl,hx⟩
   refine AW.weakT (T':=shT L0.length T1) ?_ hw
   cases k with
   | zero=>simp [xT] at hx
   | succ k =>
     simp only [xT] at hx
     split at hx
     · rename_i T2 M2 h1
       refine ih k (by omega) hok h1 ⟨k,by omega,by omega,Ks T2 T1,M2,fun t v hv=>?_,rfl,hx⟩
       rw [iS] at hv ⊢
       obtain ⟨u,hu,rfl⟩:=Option.map_eq_some_iff.1 hv
       rw [Mh hu];rfl
     · rename_i r hne
       refine ih k (by omega) hok hx ?_
       cases e
       case normal=>exact (hne _ _ hx).elim
       all_goals exact hQ
theorem CC {T:Tm} {L:List Blk}:∀ {res:List Gx} {c:Prop} {rs:List AV},jA T L res=some (c,rs)→Ho T L res=true→c
 | [],c,rs,h,_=>by
   simp only [jA,Option.some.injEq,Prod.mk.injEq] at h
   obtain ⟨rfl,_⟩:=h;trivial
 | .tmp t::l,c,rs,h,hc=>by
   simp only [jA] at h
   simp only [Ho] at hc
   split at h
   · rename_i v c' m h1 h2
     simp only [Option.some.injEq,Prod.mk.injEq] at h
     obtain ⟨rfl,_⟩:=h
     exact CC h2 hc
   · cases h
 | .cell g sz t::l,c,rs,h,hc=>by
   simp only [jA] at h
   simp only [Ho,Bool.and_eq_true] at hc
   split at h
   · rename_i r off c' m h1 h2
     rw [h1] at hc
     cases g
     · simp only [Bool.false_eq_true,if_false,Option.some.injEq,Prod.mk.injEq] at h hc
       obtain ⟨rfl,_⟩:=h
       exact ⟨by simpa using hc.1,CC h2 hc.2⟩
     · simp only [if_true,Option.some.injEq,Prod.mk.injEq] at h hc
       obtain ⟨rfl,_⟩:=h
       exact ⟨by simpa using hc.1,CC h2 hc.2⟩
   · cases h
theorem HI {T:Tm} {L0 L:List Blk}:∀ (res:List Gx),jA (shT L0.length T) (cd L0 L) res=(jA T L res).map fun r=>(r.1,shL L0.length r.2)
 | []=>rfl
 | .tmp t::l=>by
   simp only [jA,iS,HI l]
   cases ak T t with
   | none=>rfl
   | some v=>cases jA T L l<;>rfl
 | .cell g sz t::l=>by
   simp only [jA,iS,HI l]
   cases ak T t with
   | none=>rfl
   | some v =>
     simp only [Option.map_some,Option.bind_some,Nb]
     cases row L v with
     | none=>rfl
     | some r =>
       cases jA T L l with
       | none=>rfl
       | some s =>
         cases g<;>simp only [Option.map_some,Bool.false_eq_true,if_true,if_false,dq,Ff,fg,eH,shL,AV.renL,AV.sh,AV.ren]
theorem Re (B:Nat) (l:List AV):Fj (shL B l)=(Fj l).sh B:=by
 rcases l with _|⟨a,_|⟨b,l⟩⟩<;>rfl
theorem I1 (B:Nat):∀ (l:List AV) (i:Nat),ar i (shL B l)=shT B (ar i l)
 | [],_=>rfl
 | a::l,i=>by
   simp only [shL,AV.renL,ar]
   rw [show AV.renL (sf B) l=shL B l from rfl,I1 B l (i+1)]
   rfl
structure TabOk (P:Program) (own:FuncId→Nat→Nat→Nat) (tab:Tab):Prop where
 fn:∀ f lf,tab.fn f=some lf→aW P (own f) f=some lf.raw∧lf.code.okc=true
 prim:∀ f args v,tab.prim f args=some v→fo args=true→oY v=true→∀ L,af P f args L fun av K=>av=v∧K=L
 primL:∀ f args L v L',tab.primL f args L=some (v,L')→∀ L0:List Blk,af P f (shL L0.length args) (cd L0 L) fun av K=>av=v.sh L0.length∧K=cd L0 L'
theorem DB {own:FuncId→Nat→Nat→Nat} {tab:Tab} (hT:TabOk P own tab) {call:iP} {run:jC} (hcall:xm P call) (hrun:xj P run) {f:FuncId} {lf:aU} (hf:tab.fn f=some lf) {args:List AV} {M M':List Blk} {v:AV}
   (h:GN tab call run lf args M=some (v,M')) (L0:List Blk) {Q:AV→List Blk→Prop} (hQ:Fin (cd L0 M) (v.sh L0.length) (cd L0 M') Q):af P f (shL L0.length args) (cd L0 M) Q:=by
 obtain ⟨hlow,hok⟩:=hT.fn f lf hf
 unfold GN at h
 split at h
 · rename_i hlen
   have fin:∀ {e:Exit} {T:Tm} {L':List Blk},(e=.normal∨e=.ret)→xT call run tab.fuel lf.code (ar 0 args) M=some (e,T,L')→(match QJ T L' lf.res with
     | some v=>some (v,L')
     | none=>none)=some (v,M')→af P f (shL L0.length args) (cd L0 M) Q:=fun {e T L'} he hx hr=>by
     split at hr
     · rename_i u hu
       simp only [Option.some.injEq,Prod.mk.injEq] at hr
       obtain ⟨rfl,rfl⟩:=hr
       unfold QJ at hu
       split at hu
       · rename_i c rs hres
         split at hu
         · rename_i hc
           simp only [Option.some.injEq] at hu
           subst hu
           refine ai hlow (by rw [dq];exact hlen) ?_
           rw [I1]
           refine Kr hcall hrun L0 _ hok hx ⟨he,c,shL L0.length rs,?_,CC hres hc,?_⟩
           · rw [HI,hres];rfl
           · rw [Re];exact hQ
         · cases hu
       · cases hu
     · cases hr
   split at h
   · rename_i T L' hx;exact fin (.inl rfl) hx h
   · rename_i T L' hx;exact fin (.inr rfl) hx h
   · cases h
 · cases h
theorem ID (L0:List Blk):cd L0 []=L0:=by simp [cd]
theorem Fh {own:FuncId→Nat→Nat→Nat} {tab:Tab} (hT:TabOk P own tab):∀ d,xm P (Gd tab d)∧xj P (CV tab d)
 | 0=>⟨fun f args L v L' h=>by simp [Gd] at h,fun f args v h=>by simp [CV] at h⟩
 | d+1=>by
   obtain ⟨hcall,hrun⟩:=Fh hT d
   have body:∀ {f lf args L v L'},tab.fn f=some lf→GN tab (Gd tab d) (CV tab d) lf args L=some (v,L')→∀ L0:List Blk,af P f (shL L0.length args) (cd L0 L) fun av K=>av=v.sh L0.length∧K=cd L0 L' :=
     fun hf h L0=>DB hT hcall hrun hf h L0 (aa ⟨rfl,rfl⟩)
   refine ⟨fun f args L v L' h L0=>?_,fun f args v h=>?_⟩
   · simp only [Gd] at h
     split at h
     · rename_i r hp
       simp only [Option.some.injEq] at h
       subst h
       exact hT.primL f args L v L' hp L0
     split at h
     · split at h
       · rename_i lf hf;exact body hf h L0
       · cases h
     · split at h
       · rename_i u hu
         simp only [Option.some.injEq,Prod.mk.injEq] at h
         obtain ⟨rfl,rfl⟩:=h
         obtain ⟨c1,c2,c3⟩:=hrun f args u hu
         rw [show shL L0.length args=args from bS c1,show AV.sh L0.length u=u from eI c2]
         exact c3 _
       · split at h
         · rename_i lf hf;exact body hf h L0
         · cases h
   · simp only [CV] at h
     split at h
     · rename_i hcl
       refine ⟨hcl,?_⟩
       split at h
       · rename_i u hu
         split at h
         · rename_i hc
           simp only [Option.some.injEq] at h
           subst h
           exact ⟨hc,hT.prim f args _ hu hcl hc⟩
         · cases h
       · split at h
         · rename_i lf hf
           unfold Oy at h
           split at h
           · rename_i r M' hx
             simp only at h
             split at h
             · rename_i hc
               simp only [Option.some.injEq] at h
               subst h
               refine ⟨hc,fun L=>?_⟩
               have:=DB hT hcall hrun hf hx L (Q:=fun av K=>av=(AL M' 0 r).frz∧K=L) (by
                 rw [ID]
                 exact C7 M' [] r hc ⟨rfl,rfl⟩)
               rwa [ID,show shL L.length args=args from bS hcl] at this
             · cases h
           · cases h
         · cases h
     · cases h
theorem CU {own:FuncId→Nat→Nat→Nat} {tab:Tab} (hT:TabOk P own tab) {d:Nat} {f:FuncId} {args:List AV} {v:AV} (h:CV tab d f args=some v) {L:List Blk} {K:AV→List Blk→Prop} (hK:K v L):af P f args L K :=
 af.mono (((Fh hT d).2 f args v h).2.2 L) fun av K' ⟨e1,e2⟩=>by rw [e1,e2];exact hK
end
inductive FT where
 | leaf
 | node (f:FuncId) (own:Nat→Nat→Nat) (lf:aU) (l r:FT)
def FT.get:FT→FuncId→Option aU
 | .leaf,_=>none
 | .node f _ lf l r,k=>match Nat.beq k f with
   | true=>some lf
   | false=>match Nat.blt k f with
     | true=>l.get k
     | false=>r.get k
def FT.own:FT→FuncId→Nat→Nat→Nat
 | .leaf,_=>fun _ _=>1
 | .node f o lf l r,k=>match Nat.beq k f with
   | true=>o
   | false=>match Nat.blt k f with
     | true=>l.own k
     | false=>r.own k
def FT.Ok (P:Program):FT→Prop
 | .leaf=>True
 | .node f o lf l r=>aW P o f=some lf.raw∧lf.code.okc=true∧l.Ok P∧r.Ok P
theorem FT.get_ok {P:Program}:∀ {t:FT},t.Ok P→∀ k lf,t.get k=some lf→aW P (t.own k) k=some lf.raw∧lf.code.okc=true
 | .leaf,_,k,lf,h=>by simp [FT.get] at h
 | .node f o c l r,hok,k,lf,h=>by
   obtain ⟨h1,h2,h3,h4⟩:=hok
   unfold FT.get at h
   unfold FT.own
   cases e:Nat.beq k f with
   | true =>
     rw [e] at h
     obtain rfl:=Nat.eq_of_beq_eq_true e
     simp only [Option.some.injEq] at h
     subst h
     exact ⟨h1,h2⟩
   | false =>
     rw [e] at h
     cases e2:Nat.blt k f with
     | true=>rw [e2] at h;exact FT.get_ok h3 k lf h
     | false=>rw [e2] at h;exact FT.get_ok h4 k lf h
def KX (t:FT) (inl:FuncId→Bool) (fuel:Nat):Tab:=⟨t.get,inl,fun _ _=>none,fun _ _ _=>none,fuel⟩
theorem OW {P:Program} {t:FT} (h:t.Ok P) (inl:FuncId→Bool) (fuel:Nat):TabOk P t.own (KX t inl fuel) :=
 ⟨fun f lf hf=>FT.get_ok h f lf hf,fun f args v hp=>by simp [KX] at hp,fun f args L v L' hp=>by simp [KX] at hp⟩
end Go.Proofs.YtdnlpmegogejpaaGreatDoor.Av
set_option maxRecDepth 100000
namespace Go.Proofs.YtdnlpmegogejpaaGreatDoor.Av
open Go
def SM:List SOp :=
  [.op ⟨(some 0),(.alloc [(.sl [] 0 (some 0)),(.sl [] 0 (some 0))]),none⟩]
def SJ:List SOp :=
  [.op ⟨(some 1),(.alloc [(.sl [] 0 (some 0)),(.sl [] 0 (some 0))]),none⟩]
def SI:List SOp :=
  [.op ⟨(some 5),(.faddr 0 (.tmp 1)),none⟩,
   .op ⟨(some 6),(.load false 1 (.tmp 5)),none⟩,
   .op ⟨(some 7),(.bslice false 1 1 [(.str [])] [(0,1,(.av (.str [111,98,106,101,99,116,67,108,97,115,115])))]),none⟩,
   .op ⟨(some 8),(.call 39 [(.tmp 6),(.av (.int .i64 3)),(.tmp 7)]),none⟩,
   .op ⟨(some 9),(.faddr 0 (.tmp 1)),none⟩,
   .op ⟨none,(.store 1 (.tmp 9) (.tmp 8)),none⟩]
def SH:List SOp :=
  [.op ⟨(some 10),(.faddr 0 (.tmp 1)),none⟩,
   .op ⟨(some 11),(.load false 1 (.tmp 10)),none⟩,
   .op ⟨(some 12),(.bslice false 1 4 [(.str []),(.str []),(.str []),(.str [])] [(0,1,(.av (.str [99,110]))),(1,1,(.av (.str [115,110]))),(2,1,(.av (.str [111,117]))),(3,1,(.av (.str [111])))]),none⟩,
   .op ⟨(some 13),(.call 39 [(.tmp 11),(.av (.int .i64 1)),(.tmp 12)]),none⟩,
   .op ⟨(some 14),(.faddr 0 (.tmp 1)),none⟩,
   .op ⟨none,(.store 1 (.tmp 14) (.tmp 13)),none⟩]
def SG:List SOp :=
  [.op ⟨(some 15),(.faddr 0 (.tmp 1)),none⟩,
   .op ⟨(some 16),(.load false 1 (.tmp 15)),none⟩,
   .op ⟨(some 17),(.bslice false 1 3 [(.str []),(.str []),(.str [])] [(0,1,(.av (.str [100,99]))),(1,1,(.av (.str [117,105,100]))),(2,1,(.av (.str [109,97,105,108])))]),none⟩,
   .op ⟨(some 18),(.call 39 [(.tmp 16),(.av (.int .i64 3)),(.tmp 17)]),none⟩,
   .op ⟨(some 19),(.faddr 0 (.tmp 1)),none⟩,
   .op ⟨none,(.store 1 (.tmp 19) (.tmp 18)),none⟩]
def SF:List SOp :=
  [.op ⟨(some 20),(.faddr 0 (.tmp 1)),none⟩,
   .op ⟨(some 21),(.load false 1 (.tmp 20)),none⟩,
   .op ⟨(some 22),(.bslice false 1 1 [(.str [])] [(0,1,(.av (.str [100,101,115,99,114,105,112,116,105,111,110])))]),none⟩,
   .op ⟨(some 23),(.call 39 [(.tmp 21),(.av (.int .i64 1)),(.tmp 22)]),none⟩,
   .op ⟨(some 24),(.faddr 0 (.tmp 1)),none⟩,
   .op ⟨none,(.store 1 (.tmp 24) (.tmp 23)),none⟩]
def SE:List SOp :=
  [.op ⟨(some 25),(.faddr 0 (.tmp 1)),none⟩,
   .op ⟨(some 26),(.load false 1 (.tmp 25)),none⟩,
   .op ⟨(some 27),(.bslice false 1 1 [(.str [])] [(0,1,(.av (.str [109,101,109,98,101,114])))]),none⟩,
   .op ⟨(some 28),(.call 39 [(.tmp 26),(.av (.int .i64 6)),(.tmp 27)]),none⟩,
   .op ⟨(some 29),(.faddr 0 (.tmp 1)),none⟩,
   .op ⟨none,(.store 1 (.tmp 29) (.tmp 28)),none⟩]
def SD:List SOp :=
  [.op ⟨(some 30),(.faddr 0 (.tmp 1)),none⟩,
   .op ⟨(some 31),(.load false 1 (.tmp 30)),none⟩,
   .op ⟨(some 32),(.bslice false 1 1 [(.str [])] [(0,1,(.av (.str [117,115,101,114,80,97,115,115,119,111,114,100])))]),none⟩,
   .op ⟨(some 33),(.call 39 [(.tmp 31),(.av (.int .i64 7)),(.tmp 32)]),none⟩,
   .op ⟨(some 34),(.faddr 0 (.tmp 1)),none⟩,
   .op ⟨none,(.store 1 (.tmp 34) (.tmp 33)),none⟩]
def SC:List SOp :=
  [.op ⟨(some 35),(.faddr 0 (.tmp 1)),none⟩,
   .op ⟨(some 36),(.load false 1 (.tmp 35)),none⟩,
   .op ⟨(some 37),(.build [(.str []),(.int .i64 0),(.bool false),(.bool false)] [(0,1,(.av (.str [101,109,112,108,111,121,101,101,78,117,109,98,101,114]))),(1,1,(.av (.int .i64 4))),(2,1,(.av (.bool true)))]),none⟩,
   .op ⟨(some 38),(.bslice false 4 1 [(.str []),(.int .i64 0),(.bool false),(.bool false)] [(0,4,(.tmp 37))]),none⟩,
   .op ⟨(some 39),(.app 1 4 32 [(.str []),(.int .i64 0),(.bool false),(.bool false)] (.tmp 36) (.tmp 38)),none⟩,
   .op ⟨(some 40),(.faddr 0 (.tmp 1)),none⟩,
   .op ⟨none,(.store 1 (.tmp 40) (.tmp 39)),none⟩]
def SB:List SOp :=
  [.op ⟨(some 41),(.faddr 0 (.tmp 1)),none⟩,
   .op ⟨(some 42),(.load false 1 (.tmp 41)),none⟩,
   .op ⟨(some 43),(.build [(.str []),(.int .i64 0),(.bool false),(.bool false)] [(0,1,(.av (.str [97,99,116,105,118,101]))),(1,1,(.av (.int .i64 5))),(2,1,(.av (.bool true)))]),none⟩,
   .op ⟨(some 44),(.bslice false 4 1 [(.str []),(.int .i64 0),(.bool false),(.bool false)] [(0,4,(.tmp 43))]),none⟩,
   .op ⟨(some 45),(.app 1 4 32 [(.str []),(.int .i64 0),(.bool false),(.bool false)] (.tmp 42) (.tmp 44)),none⟩,
   .op ⟨(some 46),(.faddr 0 (.tmp 1)),none⟩,
   .op ⟨none,(.store 1 (.tmp 46) (.tmp 45)),none⟩]
def Og:List SOp :=
  [.op ⟨(some 47),(.bslice false 1 5 [(.str []),(.str []),(.str []),(.str []),(.str [])] [(0,1,(.av (.str [99,114,101,97,116,101,100,65,116]))),(1,1,(.av (.str [99,104,97,110,103,101,100,65,116]))),(2,1,(.av (.str [112,119,100,70,97,105,108,117,114,101]))),(3,1,(.av (.str [112,119,100,76,111,99,107,101,100]))),(4,1,(.av (.str [112,119,100,67,104,97,110,103,101,100])))]),none⟩,
   .op ⟨(some 48),(.len false (.tmp 47)),none⟩,
   .op ⟨(some 49),(.mv (.av (.int .i64 0))),none⟩]
def Of:List SOp :=
  [.op ⟨(some 50),(.bin .lss (.tmp 49) (.tmp 48)),none⟩]
def Oe:List SOp :=
  [.op ⟨(some 51),(.iaddr 1 (.tmp 47) (.tmp 49)),none⟩,
   .op ⟨(some 52),(.load false 1 (.tmp 51)),none⟩,
   .op ⟨(some 3),(.mv (.tmp 52)),none⟩]
def Od:List SOp :=
  [.op ⟨(some 53),(.mv (.tmp 3)),none⟩,
   .op ⟨(some 54),(.build [(.str []),(.int .i64 0),(.bool false),(.bool false)] [(0,1,(.tmp 53)),(1,1,(.av (.int .i64 4))),(2,1,(.av (.bool true))),(3,1,(.av (.bool true)))]),none⟩,
   .op ⟨(some 4),(.alloc [(.str []),(.int .i64 0),(.bool false),(.bool false)]),none⟩,
   .op ⟨none,(.store 4 (.tmp 4) (.tmp 54)),none⟩]
def Oc:List SOp :=
  [.op ⟨(some 55),(.mv (.tmp 3)),none⟩,
   .op ⟨(some 56),(.bin .eql (.tmp 55) (.av (.str [112,119,100,70,97,105,108,117,114,101]))),none⟩]
def Ob:List SOp :=
  [.op ⟨(some 57),(.faddr 1 (.tmp 4)),none⟩,
   .op ⟨none,(.store 1 (.tmp 57) (.av (.int .i64 3))),none⟩]
def Oa:List SOp :=
  [.op ⟨(some 58),(.faddr 2 (.tmp 4)),none⟩,
   .op ⟨none,(.store 1 (.tmp 58) (.av (.bool false))),none⟩]
def N9:List SOp :=
  [.op ⟨(some 59),(.faddr 0 (.tmp 1)),none⟩,
   .op ⟨(some 60),(.load false 1 (.tmp 59)),none⟩,
   .op ⟨(some 61),(.load true 4 (.tmp 4)),none⟩,
   .op ⟨(some 62),(.bslice false 4 1 [(.str []),(.int .i64 0),(.bool false),(.bool false)] [(0,4,(.tmp 61))]),none⟩,
   .op ⟨(some 63),(.app 1 4 32 [(.str []),(.int .i64 0),(.bool false),(.bool false)] (.tmp 60) (.tmp 62)),none⟩,
   .op ⟨(some 64),(.faddr 0 (.tmp 1)),none⟩,
   .op ⟨none,(.store 1 (.tmp 64) (.tmp 63)),none⟩]
def N8:List SOp :=
  [.op ⟨(some 65),(.bin .add (.tmp 49) (.av (.int .i64 1))),none⟩,
   .op ⟨(some 49),(.mv (.tmp 65)),none⟩]
def N7:List SOp :=
  [.op ⟨(some 66),(.faddr 1 (.tmp 1)),none⟩,
   .op ⟨(some 67),(.load false 1 (.tmp 66)),none⟩,
   .op ⟨(some 68),(.bslice false 1 1 [(.str [])] [(0,1,(.av (.str [111,98,106,101,99,116,67,108,97,115,115])))]),none⟩,
   .op ⟨(some 69),(.bslice false 1 5 [(.str []),(.str []),(.str []),(.str []),(.str [])] [(0,1,(.av (.str [99,114,101,97,116,101,100,65,116]))),(1,1,(.av (.str [99,104,97,110,103,101,100,65,116]))),(2,1,(.av (.str [112,119,100,70,97,105,108,117,114,101]))),(3,1,(.av (.str [112,119,100,76,111,99,107,101,100]))),(4,1,(.av (.str [112,119,100,67,104,97,110,103,101,100])))]),none⟩,
   .op ⟨(some 70),(.build [(.str []),(.str []),(.int .i64 0),(.sl [] 0 (some 0)),(.sl [] 0 (some 0))] [(0,1,(.av (.str [116,111,112]))),(3,1,(.tmp 68)),(4,1,(.tmp 69))]),none⟩,
   .op ⟨(some 71),(.bslice false 5 1 [(.str []),(.str []),(.int .i64 0),(.sl [] 0 (some 0)),(.sl [] 0 (some 0))] [(0,5,(.tmp 70))]),none⟩,
   .op ⟨(some 72),(.app 1 5 88 [(.str []),(.str []),(.int .i64 0),(.sl [] 0 (some 0)),(.sl [] 0 (some 0))] (.tmp 67) (.tmp 71)),none⟩,
   .op ⟨(some 73),(.faddr 1 (.tmp 1)),none⟩,
   .op ⟨none,(.store 1 (.tmp 73) (.tmp 72)),none⟩]
def N6:List SOp :=
  [.op ⟨(some 74),(.faddr 1 (.tmp 1)),none⟩,
   .op ⟨(some 75),(.load false 1 (.tmp 74)),none⟩,
   .op ⟨(some 76),(.bslice false 1 1 [(.str [])] [(0,1,(.av (.str [100,99])))]),none⟩,
   .op ⟨(some 77),(.bslice false 1 1 [(.str [])] [(0,1,(.av (.str [100,101,115,99,114,105,112,116,105,111,110])))]),none⟩,
   .op ⟨(some 78),(.build [(.str []),(.str []),(.int .i64 0),(.sl [] 0 (some 0)),(.sl [] 0 (some 0))] [(0,1,(.av (.str [100,111,109,97,105,110]))),(1,1,(.av (.str [116,111,112]))),(2,1,(.av (.int .i64 1))),(3,1,(.tmp 76)),(4,1,(.tmp 77))]),none⟩,
   .op ⟨(some 79),(.bslice false 5 1 [(.str []),(.str []),(.int .i64 0),(.sl [] 0 (some 0)),(.sl [] 0 (some 0))] [(0,5,(.tmp 78))]),none⟩,
   .op ⟨(some 80),(.app 1 5 88 [(.str []),(.str []),(.int .i64 0),(.sl [] 0 (some 0)),(.sl [] 0 (some 0))] (.tmp 75) (.tmp 79)),none⟩,
   .op ⟨(some 81),(.faddr 1 (.tmp 1)),none⟩,
   .op ⟨none,(.store 1 (.tmp 81) (.tmp 80)),none⟩]
def N5:List SOp :=
  [.op ⟨(some 82),(.faddr 1 (.tmp 1)),none⟩,
   .op ⟨(some 83),(.load false 1 (.tmp 82)),none⟩,
   .op ⟨(some 84),(.bslice false 1 1 [(.str [])] [(0,1,(.av (.str [111])))]),none⟩,
   .op ⟨(some 85),(.bslice false 1 1 [(.str [])] [(0,1,(.av (.str [100,101,115,99,114,105,112,116,105,111,110])))]),none⟩,
   .op ⟨(some 86),(.build [(.str []),(.str []),(.int .i64 0),(.sl [] 0 (some 0)),(.sl [] 0 (some 0))] [(0,1,(.av (.str [111,114,103,97,110,105,122,97,116,105,111,110]))),(1,1,(.av (.str [116,111,112]))),(2,1,(.av (.int .i64 1))),(3,1,(.tmp 84)),(4,1,(.tmp 85))]),none⟩,
   .op ⟨(some 87),(.bslice false 5 1 [(.str []),(.str []),(.int .i64 0),(.sl [] 0 (some 0)),(.sl [] 0 (some 0))] [(0,5,(.tmp 86))]),none⟩,
   .op ⟨(some 88),(.app 1 5 88 [(.str []),(.str []),(.int .i64 0),(.sl [] 0 (some 0)),(.sl [] 0 (some 0))] (.tmp 83) (.tmp 87)),none⟩,
   .op ⟨(some 89),(.faddr 1 (.tmp 1)),none⟩,
   .op ⟨none,(.store 1 (.tmp 89) (.tmp 88)),none⟩]
def N4:List SOp :=
  [.op ⟨(some 90),(.faddr 1 (.tmp 1)),none⟩,
   .op ⟨(some 91),(.load false 1 (.tmp 90)),none⟩,
   .op ⟨(some 92),(.bslice false 1 1 [(.str [])] [(0,1,(.av (.str [111,117])))]),none⟩,
   .op ⟨(some 93),(.bslice false 1 1 [(.str [])] [(0,1,(.av (.str [100,101,115,99,114,105,112,116,105,111,110])))]),none⟩,
   .op ⟨(some 94),(.build [(.str []),(.str []),(.int .i64 0),(.sl [] 0 (some 0)),(.sl [] 0 (some 0))] [(0,1,(.av (.str [111,114,103,97,110,105,122,97,116,105,111,110,97,108,85,110,105,116]))),(1,1,(.av (.str [116,111,112]))),(2,1,(.av (.int .i64 1))),(3,1,(.tmp 92)),(4,1,(.tmp 93))]),none⟩,
   .op ⟨(some 95),(.bslice false 5 1 [(.str []),(.str []),(.int .i64 0),(.sl [] 0 (some 0)),(.sl [] 0 (some 0))] [(0,5,(.tmp 94))]),none⟩,
   .op ⟨(some 96),(.app 1 5 88 [(.str []),(.str []),(.int .i64 0),(.sl [] 0 (some 0)),(.sl [] 0 (some 0))] (.tmp 91) (.tmp 95)),none⟩,
   .op ⟨(some 97),(.faddr 1 (.tmp 1)),none⟩,
   .op ⟨none,(.store 1 (.tmp 97) (.tmp 96)),none⟩]
def N3:List SOp :=
  [.op ⟨(some 98),(.faddr 1 (.tmp 1)),none⟩,
   .op ⟨(some 99),(.load false 1 (.tmp 98)),none⟩,
   .op ⟨(some 100),(.bslice false 1 2 [(.str []),(.str [])] [(0,1,(.av (.str [99,110]))),(1,1,(.av (.str [115,110])))]),none⟩,
   .op ⟨(some 101),(.bslice false 1 2 [(.str []),(.str [])] [(0,1,(.av (.str [100,101,115,99,114,105,112,116,105,111,110]))),(1,1,(.av (.str [117,115,101,114,80,97,115,115,119,111,114,100])))]),none⟩,
   .op ⟨(some 102),(.build [(.str []),(.str []),(.int .i64 0),(.sl [] 0 (some 0)),(.sl [] 0 (some 0))] [(0,1,(.av (.str [112,101,114,115,111,110]))),(1,1,(.av (.str [116,111,112]))),(2,1,(.av (.int .i64 1))),(3,1,(.tmp 100)),(4,1,(.tmp 101))]),none⟩,
   .op ⟨(some 103),(.bslice false 5 1 [(.str []),(.str []),(.int .i64 0),(.sl [] 0 (some 0)),(.sl [] 0 (some 0))] [(0,5,(.tmp 102))]),none⟩,
   .op ⟨(some 104),(.app 1 5 88 [(.str []),(.str []),(.int .i64 0),(.sl [] 0 (some 0)),(.sl [] 0 (some 0))] (.tmp 99) (.tmp 103)),none⟩,
   .op ⟨(some 105),(.faddr 1 (.tmp 1)),none⟩,
   .op ⟨none,(.store 1 (.tmp 105) (.tmp 104)),none⟩]
def N2:List SOp :=
  [.op ⟨(some 106),(.faddr 1 (.tmp 1)),none⟩,
   .op ⟨(some 107),(.load false 1 (.tmp 106)),none⟩,
   .op ⟨(some 108),(.bslice false 1 4 [(.str []),(.str []),(.str []),(.str [])] [(0,1,(.av (.str [117,105,100]))),(1,1,(.av (.str [109,97,105,108]))),(2,1,(.av (.str [101,109,112,108,111,121,101,101,78,117,109,98,101,114]))),(3,1,(.av (.str [97,99,116,105,118,101])))]),none⟩,
   .op ⟨(some 109),(.build [(.str []),(.str []),(.int .i64 0),(.sl [] 0 (some 0)),(.sl [] 0 (some 0))] [(0,1,(.av (.str [105,110,101,116,80,101,114,115,111,110]))),(1,1,(.av (.str [112,101,114,115,111,110]))),(2,1,(.av (.int .i64 1))),(4,1,(.tmp 108))]),none⟩,
   .op ⟨(some 110),(.bslice false 5 1 [(.str []),(.str []),(.int .i64 0),(.sl [] 0 (some 0)),(.sl [] 0 (some 0))] [(0,5,(.tmp 109))]),none⟩,
   .op ⟨(some 111),(.app 1 5 88 [(.str []),(.str []),(.int .i64 0),(.sl [] 0 (some 0)),(.sl [] 0 (some 0))] (.tmp 107) (.tmp 110)),none⟩,
   .op ⟨(some 112),(.faddr 1 (.tmp 1)),none⟩,
   .op ⟨none,(.store 1 (.tmp 112) (.tmp 111)),none⟩]
def N1:List SOp :=
  [.op ⟨(some 113),(.faddr 1 (.tmp 1)),none⟩,
   .op ⟨(some 114),(.load false 1 (.tmp 113)),none⟩,
   .op ⟨(some 115),(.bslice false 1 2 [(.str []),(.str [])] [(0,1,(.av (.str [99,110]))),(1,1,(.av (.str [109,101,109,98,101,114])))]),none⟩,
   .op ⟨(some 116),(.bslice false 1 1 [(.str [])] [(0,1,(.av (.str [100,101,115,99,114,105,112,116,105,111,110])))]),none⟩,
   .op ⟨(some 117),(.build [(.str []),(.str []),(.int .i64 0),(.sl [] 0 (some 0)),(.sl [] 0 (some 0))] [(0,1,(.av (.str [103,114,111,117,112]))),(1,1,(.av (.str [116,111,112]))),(2,1,(.av (.int .i64 1))),(3,1,(.tmp 115)),(4,1,(.tmp 116))]),none⟩,
   .op ⟨(some 118),(.bslice false 5 1 [(.str []),(.str []),(.int .i64 0),(.sl [] 0 (some 0)),(.sl [] 0 (some 0))] [(0,5,(.tmp 117))]),none⟩,
   .op ⟨(some 119),(.app 1 5 88 [(.str []),(.str []),(.int .i64 0),(.sl [] 0 (some 0)),(.sl [] 0 (some 0))] (.tmp 114) (.tmp 118)),none⟩,
   .op ⟨(some 120),(.faddr 1 (.tmp 1)),none⟩,
   .op ⟨none,(.store 1 (.tmp 120) (.tmp 119)),none⟩]
def N0:List SOp :=
  [.op ⟨(some 121),(.faddr 1 (.tmp 1)),none⟩,
   .op ⟨(some 122),(.load false 1 (.tmp 121)),none⟩,
   .op ⟨(some 123),(.bslice false 1 1 [(.str [])] [(0,1,(.av (.str [117,115,101,114,80,97,115,115,119,111,114,100])))]),none⟩,
   .op ⟨(some 124),(.build [(.str []),(.str []),(.int .i64 0),(.sl [] 0 (some 0)),(.sl [] 0 (some 0))] [(0,1,(.av (.str [115,101,99,117,114,101,100]))),(1,1,(.av (.str [116,111,112]))),(2,1,(.av (.int .i64 2))),(3,1,(.tmp 123))]),none⟩,
   .op ⟨(some 125),(.bslice false 5 1 [(.str []),(.str []),(.int .i64 0),(.sl [] 0 (some 0)),(.sl [] 0 (some 0))] [(0,5,(.tmp 124))]),none⟩,
   .op ⟨(some 126),(.app 1 5 88 [(.str []),(.str []),(.int .i64 0),(.sl [] 0 (some 0)),(.sl [] 0 (some 0))] (.tmp 122) (.tmp 125)),none⟩,
   .op ⟨(some 127),(.faddr 1 (.tmp 1)),none⟩,
   .op ⟨none,(.store 1 (.tmp 127) (.tmp 126)),none⟩]
def NZ:List SOp :=
  [.op ⟨(some 128),(.faddr 1 (.tmp 1)),none⟩,
   .op ⟨(some 129),(.load false 1 (.tmp 128)),none⟩,
   .op ⟨(some 130),(.bslice false 1 2 [(.str []),(.str [])] [(0,1,(.av (.str [117,105,100]))),(1,1,(.av (.str [109,97,105,108])))]),none⟩,
   .op ⟨(some 131),(.build [(.str []),(.str []),(.int .i64 0),(.sl [] 0 (some 0)),(.sl [] 0 (some 0))] [(0,1,(.av (.str [108,97,98,101,108,108,101,100]))),(1,1,(.av (.str [116,111,112]))),(2,1,(.av (.int .i64 2))),(4,1,(.tmp 130))]),none⟩,
   .op ⟨(some 132),(.bslice false 5 1 [(.str []),(.str []),(.int .i64 0),(.sl [] 0 (some 0)),(.sl [] 0 (some 0))] [(0,5,(.tmp 131))]),none⟩,
   .op ⟨(some 133),(.app 1 5 88 [(.str []),(.str []),(.int .i64 0),(.sl [] 0 (some 0)),(.sl [] 0 (some 0))] (.tmp 129) (.tmp 132)),none⟩,
   .op ⟨(some 134),(.faddr 1 (.tmp 1)),none⟩,
   .op ⟨none,(.store 1 (.tmp 134) (.tmp 133)),none⟩]
def NY:List SOp :=
  [.op ⟨(some 135),(.load true 2 (.tmp 1)),none⟩,
   .op ⟨none,(.store 2 (.tmp 0) (.tmp 135)),none⟩]
def Qc:aU:=⟨136,(.seq (.sreg SM [])
 (.seq (.sreg SJ [])
 (.seq (.sreg SI [false,false,false,false,false])
 (.seq (.sreg SH [false,false,false,false,false])
 (.seq (.sreg SG [false,false,false,false,false])
 (.seq (.sreg SF [false,false,false,false,false])
 (.seq (.sreg SE [false,false,false,false,false])
 (.seq (.sreg SD [false,false,false,false,false])
 (.seq (.sreg SC [false,false,false,false,false,false])
 (.seq (.sreg SB [false,false,false,false,false,false])
 (.seq (.seq (.sreg Og [])
 (.block 0 (.loop (.seq (.sreg Of [])
 (.seq (.cond (.tmp 50) .skip
 (.exit 0))
 (.seq (.block 1 (.seq (.sreg Oe [true,false,false])
 (.seq (.sreg Od [true,false,false])
 (.seq (.seq (.sreg Oc [true,false])
 (.cond (.tmp 56) (.seq (.sreg Ob [false])
 (.sreg Oa [false]))
 .skip))
 (.sreg N9 [false,false,false,false,false,false])))))
 (.sreg N8 [true,false])))))))
 (.seq (.sreg N7 [false,false,false,false,false,false,false,false])
 (.seq (.sreg N6 [false,false,false,false,false,false,false,false])
 (.seq (.sreg N5 [false,false,false,false,false,false,false,false])
 (.seq (.sreg N4 [false,false,false,false,false,false,false,false])
 (.seq (.sreg N3 [false,false,false,false,false,false,false,false])
 (.seq (.sreg N2 [false,false,false,false,false,false,false])
 (.seq (.sreg N1 [false,false,false,false,false,false,false,false])
 (.seq (.sreg N0 [false,false,false,false,false,false,false])
 (.seq (.sreg NZ [false,false,false,false,false,false,false])
 (.seq (.sreg NY [false])
 .ret))))))))))))))))))))),[(.cell true 2 0)]⟩
def TQ:Nat→Nat→Nat:=fun _ _=>1
theorem Qb:aW Tryz.prog TQ 13=some Qc.raw:=by kernel_rfl
theorem Qa:Qc.code.okc=true:=by kernel_rfl
def SA:List SOp :=
  [.op ⟨(some 3),(.box (.tmp 0)),none⟩,
   .op ⟨(some 6),(.mv (.av (.sl [] 0 (some 0)))),none⟩,
   .op ⟨(some 7),(.mv (.av (.int .i64 0))),none⟩]
def Sz:List (ah×Kd) :=
  [(⟨(some 12),(.load true 2 (.tmp 3)),none⟩,(.read 0 1)),
   (⟨(some 13),(.mv (.tmp 1)),none⟩,.pure),
   (⟨(some 14),(.call 50 [(.tmp 13)]),none⟩,.eff)]
def NX:List ah :=
  [⟨(some 15),(.build [(.sl [] 0 (some 0)),(.sl [] 0 (some 0)),(.sl [] 0 (some 0))] [(0,2,(.tmp 12)),(2,1,(.tmp 14))]),none⟩,
   ⟨(some 16),(.box (.tmp 15)),none⟩,
   ⟨(some 8),(.mv (.tmp 16)),none⟩]
def Sy:List SOp :=
  [.op ⟨(some 17),(.mv (.tmp 2)),none⟩,
   .op ⟨(some 18),(.len false (.tmp 17)),none⟩,
   .op ⟨(some 19),(.mv (.av (.int .i64 0))),none⟩]
def Sx:List SOp :=
  [.op ⟨(some 20),(.bin .lss (.tmp 19) (.tmp 18)),none⟩]
def Sw:List SOp :=
  [.op ⟨(some 21),(.iaddr 3 (.tmp 17) (.tmp 19)),none⟩,
   .op ⟨(some 22),(.load true 3 (.tmp 21)),none⟩,
   .op ⟨(some 10),(.alloc [(.int .i64 0),(.str []),(.sl [] 0 (some 0))]),none⟩,
   .op ⟨none,(.store 3 (.tmp 10) (.tmp 22)),none⟩]
def Sv:List SOp :=
  [.op ⟨(some 23),(.mv (.tmp 8)),none⟩,
   .op ⟨(some 24),(.load true 3 (.tmp 10)),none⟩,
   .op ⟨(some 25),(.call 51 [(.tmp 23),(.tmp 24)]),none⟩,
   .op ⟨(some 11),(.mv (.tmp 25)),none⟩]
def Su:List SOp :=
  [.op ⟨(some 26),(.mv (.tmp 11)),none⟩,
   .op ⟨(some 27),(.bin .neq (.tmp 26) (.av (.int .i64 0))),none⟩]
def Ss:List SOp :=
  [.op ⟨(some 28),(.mv (.tmp 11)),none⟩,
   .op ⟨(some 6),(.mv (.av (.sl [] 0 (some 0)))),none⟩,
   .op ⟨(some 7),(.mv (.tmp 28)),none⟩]
def Sr:List SOp :=
  [.op ⟨(some 29),(.bin .add (.tmp 19) (.av (.int .i64 1))),none⟩,
   .op ⟨(some 19),(.mv (.tmp 29)),none⟩]
def Sq:List SOp :=
  [.op ⟨(some 30),(.mv (.tmp 8)),none⟩,
   .op ⟨(some 31),(.nilchk (.tmp 30)),none⟩,
   .op ⟨(some 32),(.faddr 2 (.tmp 31)),none⟩,
   .op ⟨(some 33),(.load false 1 (.tmp 32)),none⟩,
   .op ⟨(some 6),(.mv (.tmp 33)),none⟩,
   .op ⟨(some 7),(.mv (.av (.int .i64 0))),none⟩]
def P9:aU:=⟨34,(.seq (.sreg SA [])
 (.seq (.dregM Sz NX [true,false,false,false,false,false])
 (.seq (.seq (.sreg Sy [])
 (.block 0 (.loop (.seq (.sreg Sx [])
 (.seq (.cond (.tmp 20) .skip
 (.exit 0))
 (.seq (.block 1 (.seq (.sreg Sw [true,false,false])
 (.seq (.sreg Sv [true,false,false,false])
 (.seq (.sreg Su [true,false])
 (.cond (.tmp 27) (.seq (.sreg Ss [true,true,false])
 .ret)
 .skip)))))
 (.sreg Sr [true,false])))))))
 (.seq (.sreg Sq [true,true,false,false,false,false])
 .ret)))),[(.tmp 6),(.tmp 7)]⟩
def TP:Nat→Nat→Nat:=fun r i=>if r=1∧i=2 then 3 else 1
theorem P8:aW Tryz.prog TP 27=some P9.raw:=by kernel_rfl
theorem P7:P9.code.okc=true:=by kernel_rfl
def Sp:List SOp :=
  [.op ⟨(some 6),(.mv (.av (.sl [] 0 (some 0)))),none⟩]
def So:List SOp :=
  [.op ⟨(some 9),(.mv (.tmp 2)),none⟩,
   .op ⟨(some 10),(.len false (.tmp 9)),none⟩,
   .op ⟨(some 11),(.mv (.av (.int .i64 0))),none⟩]
def Sn:List SOp :=
  [.op ⟨(some 12),(.bin .lss (.tmp 11) (.tmp 10)),none⟩]
def Sm:List SOp :=
  [.op ⟨(some 13),(.iaddr 1 (.tmp 9) (.tmp 11)),none⟩,
   .op ⟨(some 14),(.load false 1 (.tmp 13)),none⟩,
   .op ⟨(some 8),(.mv (.tmp 14)),none⟩]
def Sl:List SOp :=
  [.op ⟨(some 15),(.mv (.tmp 0)),none⟩,
   .op ⟨(some 16),(.mv (.tmp 8)),none⟩,
   .op ⟨(some 17),(.mv (.tmp 1)),none⟩,
   .op ⟨(some 18),(.build [(.str []),(.int .i64 0),(.bool false),(.bool false)] [(0,1,(.tmp 16)),(1,1,(.tmp 17))]),none⟩,
   .op ⟨(some 19),(.bslice false 4 1 [(.str []),(.int .i64 0),(.bool false),(.bool false)] [(0,4,(.tmp 18))]),none⟩,
   .op ⟨(some 20),(.app 1 4 32 [(.str []),(.int .i64 0),(.bool false),(.bool false)] (.tmp 15) (.tmp 19)),none⟩,
   .op ⟨(some 0),(.mv (.tmp 20)),none⟩]
def Sk:List SOp :=
  [.op ⟨(some 21),(.bin .add (.tmp 11) (.av (.int .i64 1))),none⟩,
   .op ⟨(some 11),(.mv (.tmp 21)),none⟩]
def Sj:List SOp :=
  [.op ⟨(some 22),(.mv (.tmp 0)),none⟩,
   .op ⟨(some 6),(.mv (.tmp 22)),none⟩]
def P6:aU:=⟨23,(.seq (.sreg Sp [])
 (.seq (.seq (.sreg So [])
 (.block 0 (.loop (.seq (.sreg Sn [])
 (.seq (.cond (.tmp 12) .skip
 (.exit 0))
 (.seq (.block 1 (.seq (.sreg Sm [true,false,false])
 (.sreg Sl [true,false,false,false,false,false,false])))
 (.sreg Sk [true,false])))))))
 (.seq (.sreg Sj [true,false])
 .ret))),[(.tmp 6)]⟩
def TO:Nat→Nat→Nat:=fun _ _=>1
theorem P5:aW Tryz.prog TO 39=some P6.raw:=by kernel_rfl
theorem P4:P6.code.okc=true:=by kernel_rfl
def R6:List SOp :=
  [.op ⟨(some 2),(.mv (.av (.sl [] 0 (some 0)))),none⟩]
def R5:List SOp :=
  [.op ⟨(some 3),(.mv (.av (.sl [] 0 (some 0)))),none⟩]
def R4:List SOp :=
  [.op ⟨(some 6),(.mv (.tmp 0)),none⟩,
   .op ⟨(some 7),(.len false (.tmp 6)),none⟩,
   .op ⟨(some 8),(.mv (.av (.int .i64 0))),none⟩]
def R3:List SOp :=
  [.op ⟨(some 9),(.bin .lss (.tmp 8) (.tmp 7)),none⟩]
def R2:List SOp :=
  [.op ⟨(some 10),(.iaddr 2 (.tmp 6) (.tmp 8)),none⟩,
   .op ⟨(some 11),(.load true 2 (.tmp 10)),none⟩,
   .op ⟨(some 5),(.alloc [(.str []),(.sl [] 0 (some 0))]),none⟩,
   .op ⟨none,(.store 2 (.tmp 5) (.tmp 11)),none⟩]
def R1:List (ah×Kd) :=
  [(⟨(some 12),(.mv (.tmp 3)),none⟩,.pure),
   (⟨(some 13),(.faddr 0 (.tmp 5)),none⟩,.pure),
   (⟨(some 14),(.load false 1 (.tmp 13)),none⟩,(.read 0 1)),
   (⟨(some 15),(.faddr 1 (.tmp 5)),none⟩,.pure),
   (⟨(some 16),(.load false 1 (.tmp 15)),none⟩,(.read 0 0)),
   (⟨(some 17),(.call 56 [(.tmp 16)]),none⟩,.eff),
   (⟨(some 18),(.build [(.str []),(.sl [] 0 (some 0))] [(0,1,(.tmp 14)),(1,1,(.tmp 17))]),none⟩,.pure),
   (⟨(some 19),(.bslice false 2 1 [(.str []),(.sl [] 0 (some 0))] [(0,2,(.tmp 18))]),none⟩,(.read 0 0))]
def NJ:List ah :=
  [⟨(some 20),(.app 1 2 40 [(.str []),(.sl [] 0 (some 0))] (.tmp 12) (.tmp 19)),none⟩,
   ⟨(some 3),(.mv (.tmp 20)),none⟩]
def R0:List SOp :=
  [.op ⟨(some 21),(.bin .add (.tmp 8) (.av (.int .i64 1))),none⟩,
   .op ⟨(some 8),(.mv (.tmp 21)),none⟩]
def RZ:List SOp :=
  [.op ⟨(some 22),(.mv (.tmp 3)),none⟩,
   .op ⟨(some 2),(.mv (.tmp 22)),none⟩]
def PX:aU:=⟨23,(.seq (.sreg R6 [])
 (.seq (.sreg R5 [])
 (.seq (.seq (.sreg R4 [])
 (.block 0 (.loop (.seq (.sreg R3 [])
 (.seq (.cond (.tmp 9) .skip
 (.exit 0))
 (.seq (.block 1 (.seq (.sreg R2 [true,false,false])
 (.dregM R1 NJ [true,false,false,false,false,false,false,false,false,false])))
 (.sreg R0 [true,false])))))))
 (.seq (.sreg RZ [true,false])
 .ret)))),[(.tmp 2)]⟩
def TK:Nat→Nat→Nat:=fun r i=>if r=5∧i=5 then 3 else 1
theorem PW:aW Tryz.prog TK 50=some PX.raw:=by kernel_rfl
theorem PV:PX.code.okc=true:=by kernel_rfl
def RY:List SOp :=
  [.op ⟨(some 3),(.box (.tmp 1)),none⟩,
   .op ⟨(some 4),(.mv (.av (.int .i64 0))),none⟩]
def RX:List SOp :=
  [.op ⟨(some 9),(.faddr 0 (.tmp 3)),none⟩,
   .op ⟨(some 10),(.load false 1 (.tmp 9)),none⟩,
   .op ⟨(some 11),(.bin .lss (.tmp 10) (.av (.int .i64 0))),none⟩,
   .op ⟨(some 12),(.mv (.tmp 11)),none⟩,
   .grp none 12 false
     [.op ⟨(some 13),(.faddr 0 (.tmp 3)),(some (12,false))⟩,
     .op ⟨(some 14),(.load false 1 (.tmp 13)),(some (12,false))⟩,
     .op ⟨(some 15),(.bin .gtr (.tmp 14) (.av (.int .i64 2))),(some (12,false))⟩]
     16 (.tmp 15)]
def RW:List SOp :=
  [.op ⟨(some 4),(.mv (.av (.int .i64 2))),none⟩]
def RV:List (ah×Kd) :=
  [(⟨(some 18),(.mv (.tmp 0)),none⟩,.pure),
   (⟨(some 19),(.nilchk (.tmp 18)),none⟩,(.read 0 1)),
   (⟨(some 20),(.faddr 0 (.tmp 19)),none⟩,.pure),
   (⟨(some 21),(.load true 2 (.tmp 20)),none⟩,(.read 0 1)),
   (⟨(some 22),(.faddr 1 (.tmp 3)),none⟩,.pure),
   (⟨(some 23),(.load false 1 (.tmp 22)),none⟩,(.read 0 1)),
   (⟨(some 24),(.call 48 [(.tmp 21),(.tmp 23)]),none⟩,(.read 0 1)),
   (⟨(some 17),(.mv (.tmp 24)),none⟩,.pure),
   (⟨(some 25),(.extract (.tmp 17) 0),none⟩,.pure),
   (⟨(some 26),(.extract (.tmp 17) 1),none⟩,.pure),
   (⟨(some 5),(.alloc [(.str []),(.int .i64 0),(.bool false),(.bool false)]),none⟩,.eff),
   (⟨none,(.store 4 (.tmp 5) (.tmp 25)),none⟩,.eff)]
def NB:List ah :=
  [⟨(some 6),(.mv (.tmp 26)),none⟩]
def RU:List SOp :=
  [.op ⟨(some 27),(.mv (.tmp 6)),none⟩,
   .op ⟨(some 28),(.un .not (.tmp 27)),none⟩]
def RT:List SOp :=
  [.op ⟨(some 4),(.mv (.av (.int .i64 17))),none⟩]
def RS:List SOp :=
  [.op ⟨(some 29),(.faddr 0 (.tmp 3)),none⟩,
   .op ⟨(some 30),(.load false 1 (.tmp 29)),none⟩]
def RR:List SOp :=
  [.op ⟨(some 32),(.bin .eql (.tmp 30) (.av (.int .i64 0))),none⟩,
   .op ⟨(some 31),(.mv (.tmp 32)),none⟩]
def RQ:List SOp :=
  [.op ⟨(some 33),(.faddr 2 (.tmp 3)),none⟩,
   .op ⟨(some 34),(.load false 1 (.tmp 33)),none⟩,
   .op ⟨(some 35),(.len false (.tmp 34)),none⟩,
   .op ⟨(some 36),(.bin .eql (.tmp 35) (.av (.int .i64 0))),none⟩]
def RP:List SOp :=
  [.op ⟨(some 4),(.mv (.av (.int .i64 2))),none⟩]
def NI:List SOp :=
  [.op ⟨(some 38),(.bin .eql (.tmp 30) (.av (.int .i64 1))),none⟩,
   .op ⟨(some 37),(.mv (.tmp 38)),none⟩]
def NH:List SOp :=
  [.op ⟨(some 39),(.mv (.tmp 0)),none⟩,
   .op ⟨(some 40),(.load true 4 (.tmp 5)),none⟩,
   .op ⟨(some 41),(.faddr 2 (.tmp 3)),none⟩,
   .op ⟨(some 42),(.load false 1 (.tmp 41)),none⟩,
   .op ⟨(some 43),(.call 77 [(.tmp 39),(.tmp 40),(.tmp 42)]),none⟩,
   .op ⟨(some 4),(.mv (.tmp 43)),none⟩]
def NG:List SOp :=
  [.op ⟨(some 45),(.bin .eql (.tmp 30) (.av (.int .i64 2))),none⟩,
   .op ⟨(some 44),(.mv (.tmp 45)),none⟩]
def NF:List SOp :=
  [.op ⟨(some 47),(.mv (.tmp 0)),none⟩,
   .op ⟨(some 48),(.nilchk (.tmp 47)),none⟩,
   .op ⟨(some 49),(.faddr 2 (.tmp 48)),none⟩,
   .op ⟨(some 50),(.load false 1 (.tmp 49)),none⟩,
   .op ⟨(some 51),(.faddr 0 (.tmp 5)),none⟩,
   .op ⟨(some 52),(.load false 1 (.tmp 51)),none⟩,
   .op ⟨(some 53),(.call 55 [(.tmp 50),(.tmp 52)]),none⟩,
   .op ⟨(some 46),(.mv (.tmp 53)),none⟩,
   .op ⟨(some 54),(.extract (.tmp 46) 0),none⟩,
   .op ⟨(some 55),(.extract (.tmp 46) 1),none⟩,
   .op ⟨(some 7),(.mv (.tmp 54)),none⟩,
   .op ⟨(some 8),(.mv (.tmp 55)),none⟩]
def NE:List SOp :=
  [.op ⟨(some 56),(.mv (.tmp 8)),none⟩]
def ND:List SOp :=
  [.op ⟨(some 57),(.mv (.tmp 0)),none⟩,
   .op ⟨(some 58),(.mv (.tmp 0)),none⟩,
   .op ⟨(some 59),(.nilchk (.tmp 58)),none⟩,
   .op ⟨(some 60),(.faddr 2 (.tmp 59)),none⟩,
   .op ⟨(some 61),(.load false 1 (.tmp 60)),none⟩,
   .op ⟨(some 62),(.mv (.tmp 7)),none⟩,
   .op ⟨(some 63),(.mv (.tmp 7)),none⟩,
   .op ⟨(some 64),(.bin .add (.tmp 63) (.av (.int .i64 1))),none⟩,
   .op ⟨(some 65),(.call 78 [(.tmp 61),(.tmp 62),(.tmp 64)]),none⟩,
   .op ⟨(some 66),(.nilchk (.tmp 57)),none⟩,
   .op ⟨(some 67),(.faddr 2 (.tmp 66)),none⟩,
   .op ⟨none,(.store 1 (.tmp 67) (.tmp 65)),none⟩]
def NC:List SOp :=
  [.op ⟨(some 68),(.mv (.tmp 0)),none⟩,
   .op ⟨(some 69),(.load true 4 (.tmp 5)),none⟩,
   .op ⟨(some 70),(.faddr 2 (.tmp 3)),none⟩,
   .op ⟨(some 71),(.load false 1 (.tmp 70)),none⟩,
   .op ⟨(some 72),(.call 49 [(.tmp 68),(.tmp 69),(.tmp 71)]),none⟩,
   .op ⟨(some 4),(.mv (.tmp 72)),none⟩]
def PU:aU:=⟨73,(.seq (.sreg RY [])
 (.seq (.seq (.sreg RX [true,false,false,false,false])
 (.cond (.tmp 16) (.seq (.sreg RW [])
 .ret)
 .skip))
 (.seq (.dregM RV NB [true,true,false,false,false,false,false,false,false,false,false,false])
 (.seq (.seq (.sreg RU [true,false])
 (.cond (.tmp 28) (.seq (.sreg RT [])
 .ret)
 .skip))
 (.seq (.seq (.sreg RS [true,false])
 (.block 0 (.seq (.sreg RR [true,false])
 (.cond (.tmp 31) (.seq (.sreg RQ [true,false,false,false])
 (.cond (.tmp 36) (.seq (.sreg RP [])
 .ret)
 .skip))
 (.seq (.sreg NI [true,false])
 (.cond (.tmp 37) (.seq (.sreg NH [true,false,false,false,false,false])
 .ret)
 (.seq (.sreg NG [true,false])
 (.cond (.tmp 44) (.seq (.sdreg NF [.pure,(.read 0 0),.pure,(.read 0 0),.pure,(.read 0 0),(.read 0 0),.pure,.pure,.pure,.pure] [true,true,false,false,false,false,false,false,false,false,false,false])
 (.seq (.sreg NE [])
 (.cond (.tmp 56) (.sreg ND [false,false,false,false,false,false,false,false,false,false,false])
 .skip)))
 .skip))))))))
 (.seq (.sreg NC [true,false,false,false,false,false])
 .ret)))))),[(.tmp 4)]⟩
def TJ:Nat→Nat→Nat:=fun _ _=>1
theorem PT:aW Tryz.prog TJ 51=some PU.raw:=by kernel_rfl
theorem PS:PU.code.okc=true:=by kernel_rfl
def Si:List SOp :=
  [.op ⟨(some 2),(.box (.tmp 0)),none⟩,
   .op ⟨(some 4),(.alloc [(.str []),(.int .i64 0),(.bool false),(.bool false)]),none⟩,
   .op ⟨(some 5),(.mv (.av (.bool false))),none⟩]
def Sh:List SOp :=
  [.op ⟨(some 6),(.load true 2 (.tmp 2)),none⟩,
   .op ⟨(some 7),(.build [(.sl [] 0 (some 0)),(.sl [] 0 (some 0))] [(0,2,(.tmp 6))]),none⟩,
   .op ⟨(some 8),(.mv (.tmp 1)),none⟩,
   .op ⟨(some 9),(.call 74 [(.tmp 7),(.tmp 8)]),none⟩,
   .op ⟨(some 10),(.extract (.tmp 9) 0),none⟩,
   .op ⟨(some 11),(.extract (.tmp 9) 1),none⟩,
   .op ⟨none,(.store 4 (.tmp 4) (.tmp 10)),none⟩,
   .op ⟨(some 5),(.mv (.tmp 11)),none⟩]
def P3:aU:=⟨12,(.seq (.sreg Si [])
 (.seq (.sreg Sh [true,false,false,false,false,false,false])
 .ret)),[(.cell true 4 4),(.tmp 5)]⟩
def TN:Nat→Nat→Nat:=fun _ _=>1
theorem P2:aW Tryz.prog TN 48=some P3.raw:=by kernel_rfl
theorem P1:P3.code.okc=true:=by kernel_rfl
def RH:List SOp :=
  [.op ⟨(some 4),(.box (.tmp 1)),none⟩,
   .op ⟨(some 6),(.mv (.av (.int .i64 0))),none⟩]
def RG:List (ah×Kd) :=
  [(⟨(some 16),(.mv (.tmp 0)),none⟩,.pure),
   (⟨(some 17),(.nilchk (.tmp 16)),none⟩,(.read 0 0)),
   (⟨(some 18),(.faddr 2 (.tmp 17)),none⟩,.pure),
   (⟨(some 19),(.load false 1 (.tmp 18)),none⟩,(.read 0 0)),
   (⟨(some 20),(.faddr 0 (.tmp 4)),none⟩,.pure),
   (⟨(some 21),(.load false 1 (.tmp 20)),none⟩,(.read 0 0)),
   (⟨(some 22),(.call 55 [(.tmp 19),(.tmp 21)]),none⟩,.eff),
   (⟨(some 15),(.mv (.tmp 22)),none⟩,.pure),
   (⟨(some 23),(.extract (.tmp 15) 0),none⟩,.pure),
   (⟨(some 24),(.extract (.tmp 15) 1),none⟩,.pure),
   (⟨(some 7),(.mv (.tmp 23)),none⟩,.pure)]
def No:List ah :=
  [⟨(some 8),(.mv (.tmp 24)),none⟩]
def RF:List SOp :=
  [.op ⟨(some 9),(.mv (.av (.sl [] 0 (some 0)))),none⟩]
def RD:List SOp :=
  [.op ⟨(some 25),(.mv (.tmp 8)),none⟩]
def RC:List SOp :=
  [.op ⟨(some 26),(.mv (.tmp 0)),none⟩,
   .op ⟨(some 27),(.nilchk (.tmp 26)),none⟩,
   .op ⟨(some 28),(.faddr 2 (.tmp 27)),none⟩,
   .op ⟨(some 29),(.load false 1 (.tmp 28)),none⟩,
   .op ⟨(some 30),(.mv (.tmp 7)),none⟩,
   .op ⟨(some 31),(.iaddr 2 (.tmp 29) (.tmp 30)),none⟩,
   .op ⟨(some 32),(.faddr 1 (.tmp 31)),none⟩,
   .op ⟨(some 33),(.load false 1 (.tmp 32)),none⟩,
   .op ⟨(some 9),(.mv (.tmp 33)),none⟩]
def RB:List SOp :=
  [.op ⟨(some 34),(.mv (.tmp 2)),none⟩,
   .op ⟨(some 35),(.len false (.tmp 34)),none⟩,
   .op ⟨(some 36),(.mv (.av (.int .i64 0))),none⟩]
def RA:List SOp :=
  [.op ⟨(some 37),(.bin .lss (.tmp 36) (.tmp 35)),none⟩]
def Rz:List SOp :=
  [.op ⟨(some 38),(.iaddr 1 (.tmp 34) (.tmp 36)),none⟩,
   .op ⟨(some 39),(.load false 1 (.tmp 38)),none⟩,
   .op ⟨(some 11),(.mv (.tmp 39)),none⟩]
def Ry:List SOp :=
  [.op ⟨(some 41),(.load true 4 (.tmp 4)),none⟩,
   .op ⟨(some 42),(.mv (.tmp 9)),none⟩,
   .op ⟨(some 43),(.mv (.tmp 11)),none⟩,
   .op ⟨(some 44),(.call 57 [(.tmp 41),(.tmp 42),(.tmp 43)]),none⟩,
   .op ⟨(some 40),(.mv (.tmp 44)),none⟩,
   .op ⟨(some 45),(.extract (.tmp 40) 0),none⟩,
   .op ⟨(some 46),(.extract (.tmp 40) 1),none⟩,
   .op ⟨(some 47),(.extract (.tmp 40) 2),none⟩,
   .op ⟨(some 12),(.mv (.tmp 45)),none⟩,
   .op ⟨(some 13),(.mv (.tmp 46)),none⟩,
   .op ⟨(some 14),(.mv (.tmp 47)),none⟩]
def Rx:List SOp :=
  [.op ⟨(some 49),(.mv (.tmp 14)),none⟩,
   .op ⟨(some 50),(.un .not (.tmp 49)),none⟩,
   .op ⟨(some 48),(.mv (.tmp 50)),none⟩]
def NA:List SOp :=
  [.op ⟨(some 6),(.mv (.av (.int .i64 21))),none⟩]
def Nz:List SOp :=
  [.op ⟨(some 52),(.mv (.tmp 13)),none⟩,
   .op ⟨(some 53),(.un .not (.tmp 52)),none⟩,
   .op ⟨(some 51),(.mv (.tmp 53)),none⟩]
def Ny:List SOp :=
  [.op ⟨(some 6),(.mv (.av (.int .i64 16))),none⟩]
def Nw:List SOp :=
  [.op ⟨(some 54),(.mv (.tmp 9)),none⟩,
   .op ⟨(some 55),(.mv (.tmp 12)),none⟩,
   .op ⟨(some 56),(.mv (.tmp 12)),none⟩,
   .op ⟨(some 57),(.bin .add (.tmp 56) (.av (.int .i64 1))),none⟩,
   .op ⟨(some 58),(.call 112 [(.tmp 54),(.tmp 55),(.tmp 57)]),none⟩,
   .op ⟨(some 9),(.mv (.tmp 58)),none⟩]
def Nv:List SOp :=
  [.op ⟨(some 59),(.bin .add (.tmp 36) (.av (.int .i64 1))),none⟩,
   .op ⟨(some 36),(.mv (.tmp 59)),none⟩]
def Nu:List SOp :=
  [.op ⟨(some 69),(.mv (.tmp 8)),none⟩,
   .op ⟨(some 70),(.un .not (.tmp 69)),none⟩,
   .op ⟨(some 68),(.mv (.tmp 70)),none⟩]
def Nt:List SOp :=
  [.op ⟨(some 6),(.mv (.av (.int .i64 16))),none⟩]
def Nr:List SOp :=
  [.op ⟨(some 72),(.mv (.tmp 2)),none⟩,
   .op ⟨(some 73),(.len false (.tmp 72)),none⟩,
   .op ⟨(some 74),(.bin .eql (.tmp 73) (.av (.int .i64 0))),none⟩,
   .op ⟨(some 75),(.mv (.tmp 74)),none⟩,
   .grp none 75 false
     [.op ⟨(some 76),(.mv (.tmp 9)),(some (75,false))⟩,
     .op ⟨(some 77),(.len false (.tmp 76)),(some (75,false))⟩,
     .op ⟨(some 78),(.bin .eql (.tmp 77) (.av (.int .i64 0))),(some (75,false))⟩]
     79 (.tmp 78),
   .op ⟨(some 71),(.mv (.tmp 79)),none⟩]
def Nq:List SOp :=
  [.op ⟨(some 80),(.mv (.tmp 0)),none⟩,
   .op ⟨(some 81),(.mv (.tmp 0)),none⟩,
   .op ⟨(some 82),(.nilchk (.tmp 81)),none⟩,
   .op ⟨(some 83),(.faddr 2 (.tmp 82)),none⟩,
   .op ⟨(some 84),(.load false 1 (.tmp 83)),none⟩,
   .op ⟨(some 85),(.mv (.tmp 7)),none⟩,
   .op ⟨(some 86),(.mv (.tmp 7)),none⟩,
   .op ⟨(some 87),(.bin .add (.tmp 86) (.av (.int .i64 1))),none⟩,
   .op ⟨(some 88),(.call 78 [(.tmp 84),(.tmp 85),(.tmp 87)]),none⟩,
   .op ⟨(some 89),(.nilchk (.tmp 80)),none⟩,
   .op ⟨(some 90),(.faddr 2 (.tmp 89)),none⟩,
   .op ⟨none,(.store 1 (.tmp 90) (.tmp 88)),none⟩]
def Np:List SOp :=
  [.op ⟨(some 60),(.mv (.tmp 0)),none⟩,
   .op ⟨(some 61),(.nilchk (.tmp 60)),none⟩,
   .op ⟨(some 62),(.faddr 2 (.tmp 61)),none⟩,
   .op ⟨(some 63),(.load false 1 (.tmp 62)),none⟩,
   .op ⟨(some 64),(.mv (.tmp 7)),none⟩,
   .op ⟨(some 65),(.mv (.tmp 9)),none⟩,
   .op ⟨(some 66),(.iaddr 2 (.tmp 63) (.tmp 64)),none⟩,
   .op ⟨(some 67),(.faddr 1 (.tmp 66)),none⟩,
   .op ⟨none,(.store 1 (.tmp 67) (.tmp 65)),none⟩]
def Nn:List SOp :=
  [.op ⟨(some 6),(.mv (.av (.int .i64 0))),none⟩]
def PL:aU:=⟨91,(.seq (.sreg RH [])
 (.seq (.dregM RG No [true,true,false,false,false,false,false,false,false,false,false,false])
 (.seq (.sreg RF [])
 (.seq (.seq (.sreg RD [])
 (.cond (.tmp 25) (.sreg RC [true,false,false,false,false,false,false,false,false])
 .skip))
 (.seq (.seq (.sreg RB [])
 (.block 0 (.loop (.seq (.sreg RA [])
 (.seq (.cond (.tmp 37) .skip
 (.exit 0))
 (.seq (.block 1 (.seq (.sreg Rz [true,false,false])
 (.seq (.sreg Ry [true,true,true,false,false,false,false,false,false,false,false])
 (.seq (.block 2 (.seq (.sreg Rx [true,false,false])
 (.cond (.tmp 48) (.seq (.sreg NA [])
 .ret)
 (.seq (.sreg Nz [true,false,false])
 (.cond (.tmp 51) (.seq (.sreg Ny [])
 .ret)
 .skip)))))
 (.sreg Nw [true,false,false,false,false,false])))))
 (.sreg Nv [true,false])))))))
 (.seq (.block 3 (.seq (.sreg Nu [true,false,false])
 (.cond (.tmp 68) (.seq (.sreg Nt [])
 .ret)
 (.seq (.sreg Nr [true,false,false,false,false,false])
 (.cond (.tmp 71) (.sreg Nq [false,false,false,false,false,false,false,false,false,false,false])
 (.sreg Np [false,false,false,false,false,false,false,false]))))))
 (.seq (.sreg Nn [])
 .ret))))))),[(.tmp 6)]⟩
def TG:Nat→Nat→Nat:=fun r i=>if r=1∧i=6 then 3 else 1
theorem PK:aW Tryz.prog TG 77=some PL.raw:=by kernel_rfl
theorem PJ:PL.code.okc=true:=by kernel_rfl
def RO:List SOp :=
  [.op ⟨(some 4),(.mv (.av (.int .i64 0))),none⟩,
   .op ⟨(some 5),(.mv (.av (.bool false))),none⟩]
def RN:List SOp :=
  [.op ⟨(some 6),(.mv (.tmp 0)),none⟩,
   .op ⟨(some 7),(.mv (.tmp 1)),none⟩,
   .op ⟨(some 8),(.call 85 [(.tmp 7)]),none⟩,
   .op ⟨(some 9),(.call 84 [(.tmp 6),(.tmp 8),(.av (.func 86 []))]),none⟩,
   .op ⟨(some 10),(.extract (.tmp 9) 0),none⟩,
   .op ⟨(some 11),(.extract (.tmp 9) 1),none⟩,
   .op ⟨(some 4),(.mv (.tmp 10)),none⟩,
   .op ⟨(some 5),(.mv (.tmp 11)),none⟩]
def PR:aU:=⟨12,(.seq (.sreg RO [])
 (.seq (.sreg RN [true,true,false,false,false,false,false,false])
 .ret)),[(.tmp 4),(.tmp 5)]⟩
def TI:Nat→Nat→Nat:=fun _ _=>1
theorem PQ:aW Tryz.prog TI 55=some PR.raw:=by kernel_rfl
theorem PP:PR.code.okc=true:=by kernel_rfl
def Sg:List SOp :=
  [.op ⟨(some 4),(.box (.tmp 1)),none⟩,
   .op ⟨(some 6),(.mv (.av (.int .i64 0))),none⟩]
def Sf:List (ah×Kd) :=
  [(⟨(some 16),(.mv (.tmp 0)),none⟩,.pure),
   (⟨(some 17),(.nilchk (.tmp 16)),none⟩,(.read 0 0)),
   (⟨(some 18),(.faddr 2 (.tmp 17)),none⟩,.pure),
   (⟨(some 19),(.load false 1 (.tmp 18)),none⟩,(.read 0 0)),
   (⟨(some 20),(.faddr 0 (.tmp 4)),none⟩,.pure),
   (⟨(some 21),(.load false 1 (.tmp 20)),none⟩,(.read 0 0)),
   (⟨(some 22),(.call 55 [(.tmp 19),(.tmp 21)]),none⟩,.eff),
   (⟨(some 15),(.mv (.tmp 22)),none⟩,.pure),
   (⟨(some 23),(.extract (.tmp 15) 0),none⟩,.pure),
   (⟨(some 24),(.extract (.tmp 15) 1),none⟩,.pure),
   (⟨(some 7),(.mv (.tmp 23)),none⟩,.pure)]
def NM:List ah :=
  [⟨(some 8),(.mv (.tmp 24)),none⟩]
def Se:List SOp :=
  [.op ⟨(some 9),(.mv (.av (.sl [] 0 (some 0)))),none⟩]
def Sd:List SOp :=
  [.op ⟨(some 25),(.mv (.tmp 8)),none⟩]
def Sc:List SOp :=
  [.op ⟨(some 26),(.mv (.tmp 0)),none⟩,
   .op ⟨(some 27),(.nilchk (.tmp 26)),none⟩,
   .op ⟨(some 28),(.faddr 2 (.tmp 27)),none⟩,
   .op ⟨(some 29),(.load false 1 (.tmp 28)),none⟩,
   .op ⟨(some 30),(.mv (.tmp 7)),none⟩,
   .op ⟨(some 31),(.iaddr 2 (.tmp 29) (.tmp 30)),none⟩,
   .op ⟨(some 32),(.faddr 1 (.tmp 31)),none⟩,
   .op ⟨(some 33),(.load false 1 (.tmp 32)),none⟩,
   .op ⟨(some 9),(.mv (.tmp 33)),none⟩]
def Sb:List SOp :=
  [.op ⟨(some 34),(.mv (.tmp 2)),none⟩,
   .op ⟨(some 35),(.len false (.tmp 34)),none⟩,
   .op ⟨(some 36),(.mv (.av (.int .i64 0))),none⟩]
def Sa:List SOp :=
  [.op ⟨(some 37),(.bin .lss (.tmp 36) (.tmp 35)),none⟩]
def R9:List SOp :=
  [.op ⟨(some 38),(.iaddr 1 (.tmp 34) (.tmp 36)),none⟩,
   .op ⟨(some 39),(.load false 1 (.tmp 38)),none⟩,
   .op ⟨(some 11),(.mv (.tmp 39)),none⟩]
def R8:List SOp :=
  [.op ⟨(some 41),(.load true 4 (.tmp 4)),none⟩,
   .op ⟨(some 42),(.mv (.tmp 9)),none⟩,
   .op ⟨(some 43),(.mv (.tmp 11)),none⟩,
   .op ⟨(some 44),(.call 57 [(.tmp 41),(.tmp 42),(.tmp 43)]),none⟩,
   .op ⟨(some 40),(.mv (.tmp 44)),none⟩,
   .op ⟨(some 45),(.extract (.tmp 40) 0),none⟩,
   .op ⟨(some 46),(.extract (.tmp 40) 1),none⟩,
   .op ⟨(some 47),(.extract (.tmp 40) 2),none⟩,
   .op ⟨(some 12),(.mv (.tmp 45)),none⟩,
   .op ⟨(some 13),(.mv (.tmp 46)),none⟩,
   .op ⟨(some 14),(.mv (.tmp 47)),none⟩]
def R7:List SOp :=
  [.op ⟨(some 49),(.mv (.tmp 14)),none⟩,
   .op ⟨(some 50),(.un .not (.tmp 49)),none⟩,
   .op ⟨(some 48),(.mv (.tmp 50)),none⟩]
def NW:List SOp :=
  [.op ⟨(some 6),(.mv (.av (.int .i64 21))),none⟩]
def NV:List SOp :=
  [.op ⟨(some 52),(.mv (.tmp 13)),none⟩,
   .op ⟨(some 51),(.mv (.tmp 52)),none⟩]
def NU:List SOp :=
  [.op ⟨(some 6),(.mv (.av (.int .i64 20))),none⟩]
def NT:List SOp :=
  [.op ⟨(some 53),(.mv (.tmp 9)),none⟩,
   .op ⟨(some 54),(.mv (.tmp 12)),none⟩,
   .op ⟨(some 55),(.mv (.tmp 11)),none⟩,
   .op ⟨(some 56),(.bslice false 1 1 [(.str [])] [(0,1,(.tmp 55))]),none⟩,
   .op ⟨(some 57),(.call 75 [(.tmp 53),(.tmp 54),(.tmp 56)]),none⟩,
   .op ⟨(some 9),(.mv (.tmp 57)),none⟩]
def NS:List SOp :=
  [.op ⟨(some 58),(.bin .add (.tmp 36) (.av (.int .i64 1))),none⟩,
   .op ⟨(some 36),(.mv (.tmp 58)),none⟩]
def NR:List SOp :=
  [.op ⟨(some 74),(.faddr 2 (.tmp 4)),none⟩,
   .op ⟨(some 75),(.load false 1 (.tmp 74)),none⟩,
   .op ⟨(some 76),(.mv (.tmp 75)),none⟩,
   .grp none 76 true
     [.op ⟨(some 77),(.mv (.tmp 9)),(some (76,true))⟩,
     .op ⟨(some 78),(.len false (.tmp 77)),(some (76,true))⟩,
     .op ⟨(some 79),(.bin .gtr (.tmp 78) (.av (.int .i64 1))),(some (76,true))⟩]
     80 (.tmp 79),
   .op ⟨(some 73),(.mv (.tmp 80)),none⟩]
def NQ:List SOp :=
  [.op ⟨(some 6),(.mv (.av (.int .i64 19))),none⟩]
def NP:List SOp :=
  [.op ⟨(some 82),(.mv (.tmp 9)),none⟩,
   .op ⟨(some 83),(.len false (.tmp 82)),none⟩,
   .op ⟨(some 84),(.bin .eql (.tmp 83) (.av (.int .i64 0))),none⟩,
   .op ⟨(some 81),(.mv (.tmp 84)),none⟩]
def NO:List SOp :=
  [.op ⟨(some 86),(.mv (.tmp 8)),none⟩,
   .op ⟨(some 85),(.mv (.tmp 86)),none⟩]
def NN:List SOp :=
  [.op ⟨(some 87),(.mv (.tmp 0)),none⟩,
   .op ⟨(some 88),(.nilchk (.tmp 87)),none⟩,
   .op ⟨(some 89),(.faddr 2 (.tmp 88)),none⟩,
   .op ⟨(some 90),(.load false 1 (.tmp 89)),none⟩,
   .op ⟨(some 91),(.mv (.tmp 7)),none⟩,
   .op ⟨(some 92),(.mv (.tmp 9)),none⟩,
   .op ⟨(some 93),(.iaddr 2 (.tmp 90) (.tmp 91)),none⟩,
   .op ⟨(some 94),(.faddr 1 (.tmp 93)),none⟩,
   .op ⟨none,(.store 1 (.tmp 94) (.tmp 92)),none⟩]
def NL:List (ah×Kd) :=
  [(⟨(some 59),(.mv (.tmp 0)),none⟩,.pure),
   (⟨(some 60),(.mv (.tmp 0)),none⟩,.pure),
   (⟨(some 61),(.nilchk (.tmp 60)),none⟩,(.read 0 0)),
   (⟨(some 62),(.faddr 2 (.tmp 61)),none⟩,.pure),
   (⟨(some 63),(.load false 1 (.tmp 62)),none⟩,(.read 0 0)),
   (⟨(some 64),(.mv (.tmp 7)),none⟩,.pure),
   (⟨(some 65),(.faddr 0 (.tmp 4)),none⟩,.pure),
   (⟨(some 66),(.load false 1 (.tmp 65)),none⟩,(.read 0 0)),
   (⟨(some 67),(.mv (.tmp 9)),none⟩,.pure),
   (⟨(some 68),(.build [(.str []),(.sl [] 0 (some 0))] [(0,1,(.tmp 66)),(1,1,(.tmp 67))]),none⟩,.pure),
   (⟨(some 69),(.bslice false 2 1 [(.str []),(.sl [] 0 (some 0))] [(0,2,(.tmp 68))]),none⟩,(.read 0 0)),
   (⟨(some 70),(.call 76 [(.tmp 63),(.tmp 64),(.tmp 69)]),none⟩,.eff)]
def LF:List ah :=
  [⟨(some 71),(.nilchk (.tmp 59)),none⟩,
   ⟨(some 72),(.faddr 2 (.tmp 71)),none⟩,
   ⟨none,(.store 1 (.tmp 72) (.tmp 70)),none⟩]
def NK:List SOp :=
  [.op ⟨(some 6),(.mv (.av (.int .i64 0))),none⟩]
def P0:aU:=⟨95,(.seq (.sreg Sg [])
 (.seq (.dregM Sf NM [true,true,false,false,false,false,false,false,false,false,false,false])
 (.seq (.sreg Se [])
 (.seq (.seq (.sreg Sd [])
 (.cond (.tmp 25) (.sreg Sc [true,false,false,false,false,false,false,false,false])
 .skip))
 (.seq (.seq (.sreg Sb [])
 (.block 0 (.loop (.seq (.sreg Sa [])
 (.seq (.cond (.tmp 37) .skip
 (.exit 0))
 (.seq (.block 1 (.seq (.sreg R9 [true,false,false])
 (.seq (.sreg R8 [true,true,true,false,false,false,false,false,false,false,false])
 (.seq (.block 2 (.seq (.sreg R7 [true,false,false])
 (.cond (.tmp 48) (.seq (.sreg NW [])
 .ret)
 (.seq (.sreg NV [true,false])
 (.cond (.tmp 51) (.seq (.sreg NU [])
 .ret)
 .skip)))))
 (.sreg NT [true,false,false,false,false,false])))))
 (.sreg NS [true,false])))))))
 (.seq (.block 3 (.seq (.sreg NR [true,false,false,false,false])
 (.cond (.tmp 73) (.seq (.sreg NQ [])
 .ret)
 (.seq (.sreg NP [true,false,false,false])
 (.cond (.tmp 81) .skip
 (.seq (.sreg NO [true,false])
 (.cond (.tmp 85) (.sreg NN [false,false,false,false,false,false,false,false])
 (.dregM NL LF [false,false,false,false,false,false,false,false,false,false,false,false,false,false]))))))))
 (.seq (.sreg NK [])
 .ret))))))),[(.tmp 6)]⟩
def TM:Nat→Nat→Nat:=fun r i=>if r=1∧i=6 then 3 else if r=15∧i=11 then 3 else 1
theorem PZ:aW Tryz.prog TM 49=some P0.raw:=by kernel_rfl
theorem PY:P0.code.okc=true:=by kernel_rfl
def RM:List SOp :=
  [.op ⟨(some 2),(.box (.tmp 0)),none⟩,
   .op ⟨(some 3),(.box (.tmp 1)),none⟩,
   .op ⟨(some 4),(.alloc [(.str []),(.int .i64 0),(.bool false),(.bool false)]),none⟩,
   .op ⟨(some 5),(.mv (.av (.bool false))),none⟩]
def RL:List SOp :=
  [.op ⟨(some 7),(.faddr 0 (.tmp 2)),none⟩,
   .op ⟨(some 8),(.faddr 0 (.tmp 7)),none⟩,
   .op ⟨(some 9),(.load false 1 (.tmp 8)),none⟩,
   .op ⟨(some 10),(.mkfn 106 [(.tmp 3)]),none⟩,
   .op ⟨(some 11),(.call 105 [(.tmp 9),(.tmp 10)]),none⟩,
   .op ⟨(some 6),(.mv (.tmp 11)),none⟩]
def RK:List SOp :=
  [.op ⟨(some 12),(.mv (.tmp 6)),none⟩,
   .op ⟨(some 13),(.bin .lss (.tmp 12) (.av (.int .i64 0))),none⟩]
def RJ:List SOp :=
  [.op ⟨(some 14),(.build [(.str []),(.int .i64 0),(.bool false),(.bool false)] []),none⟩,
   .op ⟨none,(.store 4 (.tmp 4) (.tmp 14)),none⟩,
   .op ⟨(some 5),(.mv (.av (.bool false))),none⟩]
def RI:List SOp :=
  [.op ⟨(some 15),(.faddr 0 (.tmp 2)),none⟩,
   .op ⟨(some 16),(.faddr 0 (.tmp 15)),none⟩,
   .op ⟨(some 17),(.load false 1 (.tmp 16)),none⟩,
   .op ⟨(some 18),(.mv (.tmp 6)),none⟩,
   .op ⟨(some 19),(.iaddr 4 (.tmp 17) (.tmp 18)),none⟩,
   .op ⟨(some 20),(.load true 4 (.tmp 19)),none⟩,
   .op ⟨none,(.store 4 (.tmp 4) (.tmp 20)),none⟩,
   .op ⟨(some 5),(.mv (.av (.bool true))),none⟩]
def PO:aU:=⟨21,(.seq (.sreg RM [])
 (.seq (.sreg RL [true,false,false,false,false,false])
 (.seq (.seq (.sreg RK [true,false])
 (.cond (.tmp 13) (.seq (.sreg RJ [true,false])
 .ret)
 .skip))
 (.seq (.sreg RI [true,false,false,false,false,false,false])
 .ret)))),[(.cell true 4 4),(.tmp 5)]⟩
def TH:Nat→Nat→Nat:=fun _ _=>1
theorem PN:aW Tryz.prog TH 74=some PO.raw:=by kernel_rfl
theorem PM:PO.code.okc=true:=by kernel_rfl
def Rn:List SOp :=
  [.op ⟨(some 2),(.mv (.av (.str []))),none⟩]
def Rm:List SOp :=
  [.op ⟨(some 6),(.mv (.tmp 0)),none⟩,
   .op ⟨(some 7),(.s2bO (.tmp 6)),none⟩,
   .op ⟨(some 3),(.mv (.tmp 7)),none⟩]
def Rl:List SOp :=
  [.op ⟨(some 8),(.mv (.tmp 3)),none⟩,
   .op ⟨(some 9),(.len false (.tmp 8)),none⟩,
   .op ⟨(some 10),(.mv (.av (.int .i64 0))),none⟩]
def Rk:List SOp :=
  [.op ⟨(some 11),(.bin .lss (.tmp 10) (.tmp 9)),none⟩]
def Rj:List SOp :=
  [.op ⟨(some 12),(.mv (.tmp 10)),none⟩,
   .op ⟨(some 13),(.iaddr 1 (.tmp 8) (.tmp 10)),none⟩,
   .op ⟨(some 14),(.load false 1 (.tmp 13)),none⟩,
   .op ⟨(some 4),(.mv (.tmp 12)),none⟩,
   .op ⟨(some 5),(.mv (.tmp 14)),none⟩]
def Ri:List SOp :=
  [.op ⟨(some 15),(.mv (.tmp 5)),none⟩,
   .op ⟨(some 16),(.bin .geq (.tmp 15) (.av (.int .u8 65))),none⟩,
   .op ⟨(some 17),(.mv (.tmp 16)),none⟩,
   .grp none 17 true
     [.op ⟨(some 18),(.mv (.tmp 5)),(some (17,true))⟩,
     .op ⟨(some 19),(.bin .leq (.tmp 18) (.av (.int .u8 90))),(some (17,true))⟩]
     20 (.tmp 19)]
def Rh:List SOp :=
  [.op ⟨(some 21),(.mv (.tmp 3)),none⟩,
   .op ⟨(some 22),(.mv (.tmp 4)),none⟩,
   .op ⟨(some 23),(.mv (.tmp 5)),none⟩,
   .op ⟨(some 24),(.bin .add (.tmp 23) (.av (.int .u8 32))),none⟩,
   .op ⟨(some 25),(.iaddr 1 (.tmp 21) (.tmp 22)),none⟩,
   .op ⟨none,(.store 1 (.tmp 25) (.tmp 24)),none⟩]
def Rg:List SOp :=
  [.op ⟨(some 26),(.bin .add (.tmp 10) (.av (.int .i64 1))),none⟩,
   .op ⟨(some 10),(.mv (.tmp 26)),none⟩]
def Rf:List SOp :=
  [.op ⟨(some 27),(.mv (.tmp 3)),none⟩,
   .op ⟨(some 28),(.b2s (.tmp 27)),none⟩,
   .op ⟨(some 2),(.mv (.tmp 28)),none⟩]
def PF:aU:=⟨29,(.seq (.sreg Rn [])
 (.seq (.sreg Rm [true,false,false])
 (.seq (.seq (.sreg Rl [])
 (.block 0 (.loop (.seq (.sreg Rk [])
 (.seq (.cond (.tmp 11) .skip
 (.exit 0))
 (.seq (.block 1 (.seq (.sreg Rj [true,true,false,false,false])
 (.seq (.sreg Ri [true,false,false,false])
 (.cond (.tmp 20) (.sreg Rh [false,false,false,false,false])
 .skip))))
 (.sreg Rg [true,false])))))))
 (.seq (.sreg Rf [true,false,false])
 .ret)))),[(.tmp 2)]⟩
def TE:Nat→Nat→Nat:=fun r i=>if r=1∧i=1 then 2 else 1
theorem PE:aW Tryz.prog TE 85=some PF.raw:=by kernel_rfl
theorem PD:PF.code.okc=true:=by kernel_rfl
def Rw:List SOp :=
  [.op ⟨(some 6),(.mv (.av (.int .i64 0))),none⟩,
   .op ⟨(some 7),(.mv (.av (.bool false))),none⟩]
def Rv:List SOp :=
  [.op ⟨(some 12),(.mv (.tmp 0)),none⟩,
   .op ⟨(some 13),(.len false (.tmp 12)),none⟩,
   .op ⟨(some 8),(.mv (.tmp 13)),none⟩]
def Ru:List SOp :=
  [.op ⟨(some 14),(.mv (.tmp 8)),none⟩,
   .op ⟨(some 9),(.mv (.av (.int .i64 0))),none⟩,
   .op ⟨(some 10),(.mv (.tmp 14)),none⟩]
def Rt:List SOp :=
  [.op ⟨(some 15),(.mv (.tmp 9)),none⟩,
   .op ⟨(some 16),(.mv (.tmp 10)),none⟩,
   .op ⟨(some 17),(.bin .lss (.tmp 15) (.tmp 16)),none⟩]
def Rs:List SOp :=
  [.op ⟨(some 18),(.mv (.tmp 9)),none⟩,
   .op ⟨(some 19),(.mv (.tmp 10)),none⟩,
   .op ⟨(some 20),(.bin .add (.tmp 18) (.tmp 19)),none⟩,
   .op ⟨(some 21),(.conv .u64 (.tmp 20)),none⟩,
   .op ⟨(some 22),(.bin .shr (.tmp 21) (.av (.int .u64 1))),none⟩,
   .op ⟨(some 23),(.conv .i64 (.tmp 22)),none⟩,
   .op ⟨(some 11),(.mv (.tmp 23)),none⟩]
def Rr:List SOp :=
  [.op ⟨(some 24),(.mv (.tmp 2)),none⟩,
   .op ⟨(some 25),(.mv (.tmp 0)),none⟩,
   .op ⟨(some 26),(.mv (.tmp 11)),none⟩,
   .op ⟨(some 27),(.iaddr 2 (.tmp 25) (.tmp 26)),none⟩,
   .op ⟨(some 28),(.load true 2 (.tmp 27)),none⟩,
   .op ⟨(some 29),(.mv (.tmp 1)),none⟩,
   .op ⟨(some 30),(.callv (.tmp 24) [(.tmp 28),(.tmp 29)]),none⟩,
   .op ⟨(some 31),(.bin .lss (.tmp 30) (.av (.int .i64 0))),none⟩]
def Rq:List SOp :=
  [.op ⟨(some 32),(.mv (.tmp 11)),none⟩,
   .op ⟨(some 33),(.bin .add (.tmp 32) (.av (.int .i64 1))),none⟩,
   .op ⟨(some 9),(.mv (.tmp 33)),none⟩]
def Rp:List SOp :=
  [.op ⟨(some 34),(.mv (.tmp 11)),none⟩,
   .op ⟨(some 10),(.mv (.tmp 34)),none⟩]
def Ro:List SOp :=
  [.op ⟨(some 35),(.mv (.tmp 9)),none⟩,
   .op ⟨(some 36),(.mv (.tmp 9)),none⟩,
   .op ⟨(some 37),(.mv (.tmp 8)),none⟩,
   .op ⟨(some 38),(.bin .lss (.tmp 36) (.tmp 37)),none⟩,
   .op ⟨(some 39),(.mv (.tmp 38)),none⟩,
   .op ⟨(some 40),(.mv (.tmp 2)),(some (39,true))⟩,
   .op ⟨(some 41),(.mv (.tmp 0)),(some (39,true))⟩,
   .op ⟨(some 42),(.mv (.tmp 9)),(some (39,true))⟩,
   .op ⟨(some 43),(.iaddr 2 (.tmp 41) (.tmp 42)),(some (39,true))⟩,
   .op ⟨(some 44),(.load true 2 (.tmp 43)),(some (39,true))⟩,
   .op ⟨(some 45),(.mv (.tmp 1)),(some (39,true))⟩,
   .op ⟨(some 46),(.callv (.tmp 40) [(.tmp 44),(.tmp 45)]),(some (39,true))⟩,
   .op ⟨(some 47),(.bin .eql (.tmp 46) (.av (.int .i64 0))),(some (39,true))⟩,
   .op ⟨(some 48),(.pick (.tmp 39) (.tmp 47) (.av (.bool false))),none⟩,
   .op ⟨(some 6),(.mv (.tmp 35)),none⟩,
   .op ⟨(some 7),(.mv (.tmp 48)),none⟩]
def PI:aU:=⟨49,(.seq (.sreg Rw [])
 (.seq (.sreg Rv [true,false,false])
 (.seq (.sreg Ru [true,true,false])
 (.seq (.block 0 (.loop (.seq (.seq (.sreg Rt [true,false,false])
 (.cond (.tmp 17) .skip
 (.exit 0)))
 (.block 1 (.seq (.sreg Rs [true,false,false,false,false,false,false])
 (.seq (.sreg Rr [true,false,false,false,false,false,false,false])
 (.cond (.tmp 31) (.sreg Rq [true,false,false])
 (.sreg Rp [true,false]))))))))
 (.seq (.sreg Ro [true,true,false,false,false,false,false,false,false,false,false,false,false,false,false,false])
 .ret))))),[(.tmp 6),(.tmp 7)]⟩
def TF:Nat→Nat→Nat:=fun _ _=>1
theorem PH:aW Tryz.prog TF 84=some PI.raw:=by kernel_rfl
theorem PG:PI.code.okc=true:=by kernel_rfl
def Ol:List SOp :=
  [.op ⟨(some 2),(.box (.tmp 0)),none⟩,
   .op ⟨(some 3),(.mv (.av (.bool false))),none⟩]
def Oj:List SOp :=
  [.op ⟨(some 4),(.faddr 0 (.tmp 2)),none⟩,
   .op ⟨(some 5),(.load false 1 (.tmp 4)),none⟩,
   .op ⟨(some 6),(.load false 1 (.tmp 1)),none⟩,
   .op ⟨(some 7),(.call 107 [(.tmp 5),(.tmp 6)]),none⟩,
   .op ⟨(some 3),(.mv (.tmp 7)),none⟩]
def Ky:aU:=⟨8,(.seq (.sreg Ol [])
 (.seq (.sreg Oj [true,false,false,false,false])
 .ret)),[(.tmp 3)]⟩
def OJ:Nat→Nat→Nat:=fun _ _=>1
theorem Mq:aW Tryz.prog OJ 106=some Ky.raw:=by kernel_rfl
theorem Mp:Ky.code.okc=true:=by kernel_rfl
def Ow:List SOp :=
  [.op ⟨(some 4),(.mv (.av (.int .i64 0))),none⟩]
def Ov:List SOp :=
  [.op ⟨(some 6),(.mv (.tmp 0)),none⟩,
   .op ⟨(some 7),(.len false (.tmp 6)),none⟩,
   .op ⟨(some 8),(.mv (.av (.int .i64 0))),none⟩]
def Ou:List SOp :=
  [.op ⟨(some 9),(.bin .lss (.tmp 8) (.tmp 7)),none⟩]
def Ot:List SOp :=
  [.op ⟨(some 10),(.mv (.tmp 8)),none⟩,
   .op ⟨(some 5),(.mv (.tmp 10)),none⟩]
def Oq:List SOp :=
  [.op ⟨(some 11),(.mv (.tmp 1)),none⟩,
   .op ⟨(some 12),(.mv (.tmp 0)),none⟩,
   .op ⟨(some 13),(.mv (.tmp 5)),none⟩,
   .op ⟨(some 14),(.iaddr 4 (.tmp 12) (.tmp 13)),none⟩,
   .op ⟨(some 15),(.load true 4 (.tmp 14)),none⟩,
   .op ⟨(some 16),(.callv (.tmp 11) [(.tmp 15)]),none⟩]
def Oo:List SOp :=
  [.op ⟨(some 17),(.mv (.tmp 5)),none⟩,
   .op ⟨(some 4),(.mv (.tmp 17)),none⟩]
def On:List SOp :=
  [.op ⟨(some 18),(.bin .add (.tmp 8) (.av (.int .i64 1))),none⟩,
   .op ⟨(some 8),(.mv (.tmp 18)),none⟩]
def Om:List SOp :=
  [.op ⟨(some 4),(.mv (.av (.int .i64 (-1)))),none⟩]
def Kz:aU:=⟨19,(.seq (.sreg Ow [])
 (.seq (.seq (.sreg Ov [true,true,false])
 (.block 0 (.loop (.seq (.sreg Ou [])
 (.seq (.cond (.tmp 9) .skip
 (.exit 0))
 (.seq (.block 1 (.seq (.sreg Ot [true,false])
 (.seq (.sreg Oq [true,false,false,false,false,false])
 (.cond (.tmp 16) (.seq (.sreg Oo [true,false])
 .ret)
 .skip))))
 (.sreg On [true,false])))))))
 (.seq (.sreg Om [])
 .ret))),[(.tmp 4)]⟩
def OK:Nat→Nat→Nat:=fun _ _=>1
theorem Mt:aW Tryz.prog OK 105=some Kz.raw:=by kernel_rfl
theorem Mr:Kz.code.okc=true:=by kernel_rfl
def Oi:List SOp :=
  [.op ⟨(some 4),(.mv (.av (.bool false))),none⟩]
def Oh:List SOp :=
  [.op ⟨(some 5),(.mv (.tmp 0)),none⟩,
   .op ⟨(some 6),(.call 85 [(.tmp 5)]),none⟩,
   .op ⟨(some 7),(.mv (.tmp 1)),none⟩,
   .op ⟨(some 8),(.call 85 [(.tmp 7)]),none⟩,
   .op ⟨(some 9),(.bin .eql (.tmp 6) (.tmp 8)),none⟩,
   .op ⟨(some 4),(.mv (.tmp 9)),none⟩]
def Kx:aU:=⟨10,(.seq (.sreg Oi [])
 (.seq (.sreg Oh [true,false,false,false,false,false])
 .ret)),[(.tmp 4)]⟩
def OI:Nat→Nat→Nat:=fun _ _=>1
theorem Mo:aW Tryz.prog OI 107=some Kx.raw:=by kernel_rfl
theorem Mn:Kx.code.okc=true:=by kernel_rfl
def UE:FT:=(.node 55 TI PR (.node 48 TN P3 (.node 27 TP P9 (.node 13 TQ Qc .leaf .leaf) (.node 39 TO P6 .leaf .leaf)) (.node 50 TK PX (.node 49 TM P0 .leaf .leaf) (.node 51 TJ PU .leaf .leaf))) (.node 85 TE PF (.node 77 TG PL (.node 74 TH PO .leaf .leaf) (.node 84 TF PI .leaf .leaf)) (.node 106 OJ Ky (.node 105 OK Kz .leaf .leaf) (.node 107 OI Kx .leaf .leaf))))
theorem Tf:UE.Ok Tryz.prog:=⟨PQ,PP,⟨P2,P1,⟨P8,P7,⟨Qb,Qa,trivial,trivial⟩,⟨P5,P4,trivial,trivial⟩⟩,⟨PW,PV,⟨PZ,PY,trivial,trivial⟩,⟨PT,PS,trivial,trivial⟩⟩⟩,⟨PE,PD,⟨PK,PJ,⟨PN,PM,trivial,trivial⟩,⟨PH,PG,trivial,trivial⟩⟩,⟨Mq,Mp,⟨Mt,Mr,trivial,trivial⟩,⟨Mo,Mn,trivial,trivial⟩⟩⟩⟩
set_option maxHeartbeats 8000000
set_option maxRecDepth 1000000
def fq:List Typ:=[([111,98,106,101,99,116,67,108,97,115,115],3,false,false),([99,110],1,false,false),([115,110],1,false,false),([111,117],1,false,false),([111],1,false,false),([100,99],3,false,false),([117,105,100],3,false,false),([109,97,105,108],3,false,false),([100,101,115,99,114,105,112,116,105,111,110],1,false,false),([109,101,109,98,101,114],6,false,false),([117,115,101,114,80,97,115,115,119,111,114,100],7,false,false),([101,109,112,108,111,121,101,101,78,117,109,98,101,114],4,true,false),([97,99,116,105,118,101],5,true,false),([99,114,101,97,116,101,100,65,116],4,true,true),([99,104,97,110,103,101,100,65,116],4,true,true),([112,119,100,70,97,105,108,117,114,101],3,false,true),([112,119,100,76,111,99,107,101,100],4,true,true),([112,119,100,67,104,97,110,103,101,100],4,true,true)]
def Pz:Tab:=KX UE (fun f=>match Nat.beq f 39 with
 | true=>true
 | false=>match Nat.beq f 27 with
   | true=>false
   | false=>true) 100000
theorem H4:TabOk Tryz.prog UE.own Pz:=OW Tf _ _
def Vw:AV:=(CV Pz 100 13 []).getD .undef
def F8:List AV:=match Vw with
 | .agg [_,.sl l _ _]=>l
 | _=>[]
theorem PA:CV Pz 100 13 []=some (.agg [.sl (b9 fq) fq.length none,.sl F8 9 none]):=by kernel_rfl
theorem UQ {L:List Blk} {K:AV→List Blk→Prop} (h:K (.agg [.sl (b9 fq) fq.length none,.sl F8 9 none]) L):af Tryz.prog 13 [] L K:=CU H4 PA h
theorem Tk:Ql fq:=by
 refine ⟨by decide,fun ty h=>?_,fun ty h=>?_⟩
 · have:fq.all (fun t=>decide (t.1.length≤1000))=true:=by kernel_rfl
   have:=List.all_eq_true.1 this ty h
   simp only [decide_eq_true_eq] at this
   unfold a6;omega
 · have:fq.all (fun t=>decide (gq fq t.1=some t))=true:=by kernel_rfl
   simpa using List.all_eq_true.1 this ty h
theorem UK:wV fq [] [([99,110],[[97],[65]])]=([],20):=by kernel_rfl
theorem UH:wV fq [] [([83,78],[[98],[65]])]=([([115,110],[[65],[98]])],0):=by kernel_rfl
abbrev TX:AV:=.agg [.sl (b9 fq) fq.length none,.sl F8 9 none]
theorem UJ:CV Pz 100 27 [TX,.sl [] 0 (some 0),.sl [.int .i64 1,.str [100,101,115,99,114,105,112,116,105,111,110],.sl [] 0 (some 0)] 1 (some 1)]=some (.tup [.sl [] 0 none,.int .i64 16]):=by kernel_rfl
theorem UI:CV Pz 100 27 [TX,.sl [] 0 (some 0),.sl [.int .i64 2,.str [100,101,115,99,114,105,112,116,105,111,110],.sl [] 0 (some 0)] 1 (some 1)]=some (.tup [.sl [] 0 none,.int .i64 0]):=by kernel_rfl
set_option maxHeartbeats 8000000
set_option maxRecDepth 1000000
theorem Ip:∀ ts:List Typ,AV.frzL (b9 ts)=b9 ts
 | []=>rfl
 | ty::ts=>by
   rw [show b9 (ty::ts)=tyC ty++b9 ts from rfl]
   simp only [tyC,List.cons_append,List.nil_append,AV.frzL,AV.frz,Ip ts]
theorem Mj:AV.frzL F8=F8:=by kernel_rfl
theorem Mv {L:List Blk} {K:AV→List Blk→Prop} (h:K (.bool true) L):af Tryz.prog 22 [] L K:=by
 obtain ⟨x,hx⟩:∃ x,b9 fq=x:=⟨_,rfl⟩
 obtain ⟨m,hm⟩:∃ m,fq.length=m:=⟨_,rfl⟩
 obtain ⟨y,hy⟩:∃ y,F8=y:=⟨_,rfl⟩
 have kk1:Hid (∀ {L:List Blk} {K:AV→List Blk→Prop},K (.agg [.sl x m none,.sl y 9 none]) L→af Tryz.prog 13 [] L K):=hid fun q=>UQ (by rw [hx,hm,hy];exact q)
 have mk:∀ (nm:List UInt8) (vs:List (List UInt8)) (R:List Atr×Int),a6 nm→vs.length≤1000→wV fq [] [(nm,vs)]=R→∀ {L:List Blk} {K:AV→List Blk→Prop},K (.tup [.sl (a7 R.1) R.1.length none,.int .i64 R.2]) L→af Tryz.prog 24 [.agg [.sl x m none,.sl y 9 none],.sl [.str nm,.sl (vs.map AV.str) vs.length (some vs.length)] 1 (some 1)] L K:=fun nm vs R h1 h2 h3 L K q=>by
   rw [← hx,← hm,← hy]
   refine xM ?_
   have:=K5 (capT:=none) (cap:=none) (c2:=F8) (n2:=9) (cap2:=none) (list:=[(nm,vs)]) Tk (by simp) (by simpa using ⟨h1,h2⟩) h3 q
   simpa only [AV.frzL,AV.frz,Ip,Mj,eK,a7,List.flatMap_cons,List.flatMap_nil,atA,List.append_nil,List.length_cons,List.length_nil,Nat.zero_add] using this
 have kk2:Hid (∀ {L:List Blk} {K:AV→List Blk→Prop},K (.tup [.sl [] 0 none,.int .i64 20]) L→af Tryz.prog 24 [.agg [.sl x m none,.sl y 9 none],.sl [.str [99,110],.sl [.str [97],.str [65]] 2 (some 2)] 1 (some 1)] L K):=hid fun q=>mk [99,110] [[97],[65]] _ (by unfold a6;decide) (by decide) UK q
 have kk3:Hid (∀ {L:List Blk} {K:AV→List Blk→Prop},K (.tup [.sl [.str [115,110],.sl [.str [65],.str [98]] 2 none] 1 none,.int .i64 0]) L→af Tryz.prog 24 [.agg [.sl x m none,.sl y 9 none],.sl [.str [83,78],.sl [.str [98],.str [65]] 2 (some 2)] 1 (some 1)] L K):=hid fun q=>mk [83,78] [[98],[65]] _ (by unfold a6;decide) (by decide) UH q
 have kk4:Hid (∀ {L:List Blk} {K:AV→List Blk→Prop},K (.tup [.sl [] 0 none,.int .i64 16]) L→af Tryz.prog 27 [.agg [.sl x m none,.sl y 9 none],.sl [] 0 (some 0),.sl [.int .i64 1,.str [100,101,115,99,114,105,112,116,105,111,110],.sl [] 0 (some 0)] 1 (some 1)] L K):=hid fun q=>by rw [← hx,← hm,← hy];exact CU H4 UJ q
 have kk5:Hid (∀ {L:List Blk} {K:AV→List Blk→Prop},K (.tup [.sl [] 0 none,.int .i64 0]) L→af Tryz.prog 27 [.agg [.sl x m none,.sl y 9 none],.sl [] 0 (some 0),.sl [.int .i64 2,.str [100,101,115,99,114,105,112,116,105,111,110],.sl [] 0 (some 0)] 1 (some 1)] L K):=hid fun q=>by rw [← hx,← hm,← hy];exact CU H4 UI q
 clear hx hy hm mk
 replace h:=hid h
 refine ai Dt (by simp [kQ]) ?_
 simp only [kQ,ar]
 refine wk ?_
 exact ad rfl h.out
end Go.Proofs.YtdnlpmegogejpaaGreatDoor.Av
